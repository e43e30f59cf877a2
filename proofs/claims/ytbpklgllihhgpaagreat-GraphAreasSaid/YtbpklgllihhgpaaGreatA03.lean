import Derived.WalkKit
import Derived.Test.YtbpklgllihhgpaaGreatA02
set_option maxRecDepth 100000
set_option maxHeartbeats 16000000
namespace Go.Den
section
noncomputable section
variable {P:Program} {α:AM}
theorem JQ(ts:Array TypeId)(t:TypeId){m m' k:Value}(h:VR α m m')(hk:kR k=true): fU P VR α (Builtin.delete_ ts t #[m,k]) (Builtin.delete_ ts t #[m',k]):=by
 unfold Builtin.delete_;simp only [List.getElem?_toArray,List.getElem?_cons_zero,List.getElem?_cons_succ];cases ts[0]? with
 | none=>exact cO
 | some mt=>
  dsimp only;refine bV (dA mt) ?_;rintro β d d' hle ⟨rfl,-⟩;cases d with
  | map kt elem=>
   have hm:=h.mono hle;cases hm with
   | mapN=>
    refine bV (lH _ _ 9999 kt hk) ?_;intro _ _ _ _ _;exact cZ (.tuple rfl fun i h=>absurd h (Nat.not_lt_zero _))
   | map hb=>
    dsimp only;refine bV (kV hb) ?_;intro β0 _ _ hle0 he;cases he with
    | siter x p=>exact cO
    | @map es es' he cl=>
    dsimp only;refine bV (lH _ _ 9999 kt hk) ?_;intro δ _ _ hle2 _;refine bV (oC kt hk (iI.f2 (he.mono hle2))) ?_;intro ε a b hle3 hab;have he2:=he.mono (hle2.trans hle3);have hb2:=hle3 _ _ (hle2 _ _ (hle0 _ _ hb));rcases hab with ⟨rfl,rfl⟩ | ⟨i,u,u',rfl,rfl,hu⟩
    ·dsimp only;refine bV (jL hb2 he2 _) ?_;intro _ _ _ _ _;exact cZ (.tuple rfl fun i h=>absurd h (Nat.not_lt_zero _))
    dsimp only;refine bV (jL hb2 (he2.erase i) _) ?_;intro _ _ _ _ _;exact cZ (.tuple rfl fun i h=>absurd h (Nat.not_lt_zero _))
   | _=>exact cO
  | _=>exact cO
theorem Ti(ts:Array TypeId)(t:TypeId){m m':Value}(h:VR α m m'): fU P VR α (Builtin.len_ ts t #[m]) (Builtin.len_ ts t #[m']):=by
 unfold Builtin.len_;simp only [List.getElem?_toArray,List.getElem?_cons_zero];cases ts[0]? with
 | none=>exact cO
 | some mt=>
  dsimp only;refine bV (dA mt) ?_;rintro β d d' hle ⟨rfl,-⟩;have hm:=h.mono hle;cases d with
  | array n _=>cases hm <;> exact cZ (.int _ _)
  | pointer arr=>
   cases hm <;> (
    dsimp only
    refine bV (dA arr) ?_
    rintro γ d d' hle ⟨rfl,-⟩
    cases d <;> first | exact cO | exact cZ (.int _ _))
  | string=>cases hm <;> first | exact cZ (.int _ _) | exact cO
  | slice _=>cases hm <;> first | exact cZ (.int _ _) | exact cO
  | map _ _=>
   cases hm with
   | mapN=>exact cZ (.int _ _)
   | map hb=>
    dsimp only;refine bV (kV hb) ?_;intro β0 _ _ hle0 he;cases he with
    | siter x p=>exact cO
    | @map es es' he cl=>
    dsimp only;rw [he.1];exact cZ (.int _ _)
   | _=>exact cO
  | _=>cases hm <;> exact cO
theorem EW(ts:Array TypeId)(t:TypeId){r:Nat}{L:pY}(h:α r=some L): fU P VR α (Builtin.clear_ ts t #[.map (some r)]) (Builtin.clear_ ts t #[.map (some L.blk)]):=by
 unfold Builtin.clear_;simp only [List.getElem?_toArray,List.getElem?_cons_zero];cases ts[0]? with
 | none=>exact cO
 | some mt=>
  dsimp only;refine bV (dA mt) ?_;rintro β d d' hle ⟨rfl,-⟩;have hb:=hle _ _ h;have key:fU P VR β
    (do
     let .map _ clock ←getObj r | stuck "clear: map expected"
     setObj r (.map #[] clock)
     pure (.tuple #[]))
    (do
     let .map _ clock ←getObj L.blk | stuck "clear: map expected"
     setObj L.blk (.map #[] clock)
     pure (.tuple #[])):=by
   refine bV (kV hb) ?_;intro β0 _ _ hle0 he;cases he with
   | siter x p=>exact cO
   | @map es es' he cl=>
   dsimp only;refine bV (jL (hle0 _ _ hb) .nil cl) ?_;intro _ _ _ _ _;exact cZ (.tuple rfl fun i h=>absurd h (Nat.not_lt_zero _))
  cases d <;> exact key
theorem Ip (x : ByteArray) (p : Nat) : fU P VR α (do pure (Value.pointer (some ⟨← newObj (.stringIter x p), 0, none⟩))) (do pure (Value.pointer (some ⟨← newObj (.stringIter x p), 0, none⟩))) :=
  fU.newObj (.siter x p) fun β b L _ h hs => .pure (by
    have := VR.ptr (α := β) (off := 0) h
    rw [hs] at this
    exact this)
theorem Oi(t:TypeId){v v':Value}(h:VR α v v'): fU P VR α (Instr.range t v) (Instr.range t v'):=by
 unfold Instr.range;refine bV (dA t) ?_;rintro β d d' hle ⟨rfl,-⟩;have h2:=h.mono hle;cases d with
 | string=>
  cases h2 with
  | string s=>exact Ip s 0
  | _=>exact cO
 | map _ _=>
  cases h2 with
  | mapN=>exact .dead fun m=>rfl
  | map hb=>
   refine fU.getObj hb fun _ _ he=>?_;cases he with
   | map he cl=>exact .dead fun m=>rfl
   | siter x p=>exact cO
  | _=>exact cO
 | _=>cases h2 <;> exact cO
theorem Pj(t:TypeId){v v':Value}(h:VR α v v'): fU P VR α (Instr.next v true t) (Instr.next v' true t):=by
 unfold Instr.next;have over:∀{β:AM},fU P VR β (pure (Value.tuple #[.bool false])) (pure (Value.tuple #[.bool false])):=fun {β}=>cZ (VR.refl rfl);cases h with
 | @ptr b off L hb=>
  cases off with
  | succ n=>exact cO
  | zero=>
   by_cases hs:L.sh=0
   ·rw [hs];refine bV (kV hb) fun β _ _ hle he=>?_;have hb:=hle _ _ hb;cases he with
    | map he cl=>exact cO
    | siter x p=>
     dsimp only;by_cases hp:p<x.size
     ·simp only [hp,if_true];refine fU.setObj hb (.siter _ _) ?_;exact cZ (VR.refl rfl)
     simp only [hp,if_false];exact over
   exact fU.getBad hb hs
 | _=>exact cO
theorem lG{v v':Value}(h:VR α v v')(n:Nat)(c:BoundsCode): fU P (fun _ a b=>a=b∧a≤n) α (Instr.sliceBound v n c) (Instr.sliceBound v' n c):=by
 unfold Instr.sliceBound;refine bV (oH h) ?_;rintro β ⟨k,i⟩ _ hle rfl;dsimp only;split
 ·exact cZ ⟨rfl,by omega⟩
 exact jD
def OR(α:AM)(a b:Option Value): Prop:=(a=none∧b=none)∨∃v v',a=some v∧b=some v'∧VR α v v'
theorem OR.mono{β:AM}(h:Le α β){a b:Option Value}(k:OR α a b): OR β a b:=by
 rcases k with k | ⟨v,v',h1,h2,h3⟩
 ·exact .inl k
 exact .inr ⟨v,v',h1,h2,h3.mono h⟩
theorem jB(isS:Bool)(len cap:Nat){lo lo' hi hi' mx mx':Option Value}(hl:OR α lo lo')(hh:OR α hi hi')(hm:OR α mx mx'):
  fU P (fun _ a b=>a=b∧a.2.2≤cap) α (Instr.sliceBounds isS len cap lo hi mx) (Instr.sliceBounds isS len cap lo' hi' mx'):=by
 unfold Instr.sliceBounds;have e:mx'.isSome=mx.isSome:=by rcases hm with ⟨rfl,rfl⟩ | ⟨_,_,rfl,rfl,_⟩ <;> rfl
 rw [e];have fin:∀{β:AM} (m h:Nat),m≤cap→Le α β→fU P (fun _ a b=>a=b∧a.2.2≤cap) β
   (do
    let l ←match lo with
     | some v=>Instr.sliceBound v h (if mx.isSome then .slice3C else .sliceB)
     | none=>pure 0
    pure (l,h,m))
   (do
    let l ←match lo' with
     | some v=>Instr.sliceBound v h (if mx.isSome then .slice3C else .sliceB)
     | none=>pure 0
    pure (l,h,m)):=by
  intro β m h hc hle;rcases hl.mono hle with ⟨rfl,rfl⟩ | ⟨v,v',rfl,rfl,hv⟩
  ·exact cZ ⟨rfl,hc⟩
  dsimp only;refine bV (lG hv _ _) ?_;rintro γ a _ - ⟨rfl,-⟩;exact cZ ⟨rfl,hc⟩
 rcases hm with ⟨rfl,rfl⟩ | ⟨m,m',rfl,rfl,hm⟩
 ·simp only [pure_bind];rcases hh with ⟨rfl,rfl⟩ | ⟨h,h',rfl,rfl,hh⟩
  ·exact fin _ _ (Nat.le_refl _) (.refl _)
  dsimp only;refine bV (lG hh _ _) ?_;rintro γ a _ hle ⟨rfl,-⟩;exact fin _ _ (Nat.le_refl _) hle
 dsimp only;refine bV (lG hm _ _) ?_;rintro γ a _ hle ⟨rfl,hc⟩;rcases hh with ⟨rfl,rfl⟩ | ⟨h,h',rfl,rfl,hh⟩
 ·exact cO
 dsimp only;refine bV (lG (hh.mono hle) _ _) ?_;rintro δ b _ hle2 ⟨rfl,-⟩;exact fin _ _ hc (hle.trans hle2)
def RY:Value→Bool
 | .slice (some _) _ cap=>Nat.blt cap G
 | _=>true
theorem AR.slice{a a':Addr}(h:AR α a a')(l:Nat){c:Nat}(hc:c<G): VR α (.slice (some a) l c) (.slice (some a') l c):=by obtain⟨b,off,L,rfl,h2,rfl⟩:=h;exact .sliceX h2 hc
theorem o5 {a a' : Addr} (ha : AR α a a') (elem : TypeId) (l h m : Nat) (hm : m < G) : fU P VR α
    (do let size ← sizeOf elem
        pure (.slice (some (if m = l then a else a.add (l * size))) (h - l) (m - l)))
    (do let size ← sizeOf elem
        pure (.slice (some (if m = l then a' else a'.add (l * size))) (h - l) (m - l))) := by
  refine bV (fV elem) ?_
  rintro δ s _ hle2 ⟨rfl, -⟩
  have ha2 := ha.mono hle2
  split
  · exact cZ (ha2.slice _ (by omega))
  · exact cZ ((ha2.add _).slice _ (by omega))
theorem OA(hz:jc P){t:TypeId}(ht:t<P.types.size){v v':Value}(h:VR α v v')(hn:RY v=true){lo lo' hi hi' mx mx':Option Value}(hl:OR α lo lo')(hh:OR α hi hi')(hm:OR α mx mx'):
  fU P VR α (Instr.slice t v lo hi mx) (Instr.slice t v' lo' hi' mx'):=by
 unfold Instr.slice;refine bV (dA t) ?_;rintro β d d' hle ⟨rfl,hd⟩;have h2:=h.mono hle;have hl2:=hl.mono hle;have hh2:=hh.mono hle;have hm2:=hm.mono hle;cases d with
 | string=>
  cases h2 with
  | string s=>
   dsimp only;have e:mx'.isSome=mx.isSome:=(by rcases hm with ⟨rfl,rfl⟩ | ⟨_,_,rfl,rfl,_⟩ <;> rfl);rw [e];split
   ·exact nO
   refine bV (jB false _ _ hl2 hh2 (.inl ⟨rfl,rfl⟩)) ?_;rintro γ ⟨l,h,m⟩ _ - ⟨rfl,-⟩;exact cZ (.string _)
  | _=>exact cO
 | slice elem=>
  cases h2 with
  | sliceN l c=>
   dsimp only;refine bV (jB true _ _ hl2 hh2 hm2) ?_;rintro γ ⟨l,h,m⟩ _ - ⟨rfl,-⟩;dsimp only;refine bV (fV elem) ?_;rintro δ s _ - ⟨rfl,-⟩;split <;> exact cZ (.sliceN _ _)
  | @sliceX b off len cap L hb hc=>
   have ha:AR β ⟨b,off,none⟩ ⟨L.blk,L.sh+off,none⟩:=⟨_,_,_,rfl,hb,rfl⟩;dsimp only;refine bV (jB true _ _ hl2 hh2 hm2) ?_;rintro γ ⟨l,h,m⟩ _ hle2 ⟨rfl,hmc⟩;have hmc':m≤cap:=hmc;have:=o5 (P:=P) (ha.mono hle2) elem l h m (by omega);dsimp only;refine bV (fV elem) ?_;rintro δ s _ hle3 ⟨rfl,-⟩;have ha2:=(ha.mono hle2).mono hle3;split
   ·exact cZ (ha2.slice _ (by omega))
   exact cZ ((ha2.add _).slice _ (by omega))
  | sliceG h hl ht=>
   have:=dR.1 hn;omega
  | sliceE h=>
   have:=dR.1 hn;omega
  | _=>exact cO
 | pointer arr=>
  have fin:∀{a a':Addr},AR β a a'→fU P VR β
    (do
     let .array n elem ←underlying arr | stuck "Slice: array type expected"
     let (l,h,m) ←Instr.sliceBounds false n n lo hi mx
     let size ←sizeOf elem
     pure (.slice (some (if m=l then a else a.add (l*size))) (h - l) (m - l)))
    (do
     let .array n elem ←underlying arr | stuck "Slice: array type expected"
     let (l,h,m) ←Instr.sliceBounds false n n lo' hi' mx'
     let size ←sizeOf elem
     pure (.slice (some (if m=l then a' else a'.add (l*size))) (h - l) (m - l))):=by
   intro a a' ha;refine bV (dA arr) ?_;rintro γ e _ hle2 ⟨rfl,he⟩;cases e with
   | array n elem=>
    dsimp only;refine bV (jB false _ _ (hl2.mono hle2) (hh2.mono hle2) (hm2.mono hle2)) ?_;rintro δ ⟨l,h,m⟩ _ hle3 ⟨rfl,hmc⟩;have hmc':m≤n:=hmc;exact o5 ((ha.mono hle2).mono hle3) elem l h m (Nat.lt_of_le_of_lt hmc' (hz.arr _ _ _ (hz.pt _ _ ht hd) he))
   | _=>exact cO
  cases h2 with
  | ptrN=>
   dsimp only;exact .dead fun m=>uP (asAddr (.pointer none)) _ (fun m=>by unfold asAddr;exact gK _ m) m
  | ptr hb=>exact fin ⟨_,_,_,rfl,hb,rfl⟩
  | _=>exact nO
 | _=>cases h2 <;> exact cO
theorem Hy(hz:jc P){t:TypeId}(ht:t<P.types.size){v v':Value}(h:VR α v v')(hn:RY v=true){lo lo' hi hi' mx mx':Option Value}(hl:OR α lo lo')(hh:OR α hi hi')(hm:OR α mx mx'):
  fU P VR α (Instr.sliceAt t v lo hi mx) (Instr.sliceAt t v' lo' hi' mx'):=by
 unfold Instr.sliceAt;refine bV (dA t) ?_;rintro β d d' hle ⟨rfl,hd⟩;have h2:=h.mono hle;cases d with
 | array n elem=>
  dsimp only;refine bV (lK h2) ?_;intro γ a a' hle2 ha;refine bV (jB false _ _ ((hl.mono hle).mono hle2) ((hh.mono hle).mono hle2) ((hm.mono hle).mono hle2)) ?_;rintro δ ⟨l,h,m⟩ _ hle3 ⟨rfl,hmc⟩;have hmc':m≤n:=hmc;exact o5 (ha.mono hle3) elem l h m (Nat.lt_of_le_of_lt hmc' (hz.arr _ _ _ ht hd))
 | _=>exact OA hz ht h2 hn (hl.mono hle) (hh.mono hle) (hm.mono hle)
end
end
section
noncomputable section
variable {P:Program} {α:AM}
structure Wx(P:Program)(w:World)(size:Nat)(x:Value)(n:Nat)(news:List Value): Prop where
 len:Builtin.lenOf x=pure n
 cells:∀w':World,w'.heap=w.heap→(Builtin.firstCells size n x).run P w'=.ok news.toArray w'
 size:news.length=n*size
theorem yQ{ts:Array TypeId}{t u ty e:TypeId}{d:TypeDesc}{i:TypeInfo}(ht0:ts[0]?=some t)(ht1:ts[1]?=some u)(hu:P.underlying u=some d)(hd:(∃e2,d=.slice e2)∨d=.string)
  (ht:P.underlying t=some (.slice e)) (hi:P.info? e=some i) {w:World} {base:Addr} {sLen sCap n:Nat} {x:Value} {news:List Value}
  (hx:Wx P w i.size x n news) (hr:sLen+n≤sCap) {w':World} (hs:(storeCells (base.add (sLen*i.size)) news).run P w=.ok () w') :
  (Builtin.append_ ts ty #[.slice (some base) sLen sCap,x]).run P w=.ok (.slice (some base) (sLen+n) sCap) w':=by
 have hc:=hx.cells w rfl;rcases hd with ⟨e2,rfl⟩ | rfl <;> simp [Builtin.append_,ht0,ht1,run_underlying ht,run_underlying hu,sizeOf,typeInfo,hi,hx.len,hr,hc,hs]
theorem xP{ts:Array TypeId}{t u ty e:TypeId}{d:TypeDesc}{i:TypeInfo}{z:Value}(ht0:ts[0]?=some t)(ht1:ts[1]?=some u)(hu:P.underlying u=some d)(hd:(∃e2,d=.slice e2)∨d=.string)
  (ht:P.underlying t=some (.slice e)) (hi:P.info? e=some i) (hz:i.zero=some z) {w:World} {base:Option Addr} {sLen sCap n:Nat} {x:Value} {olds news:List Value}
  (hx:Wx P w i.size x n news) (ho:∀w':World,w'.heap=w.heap→(Builtin.firstCells i.size sLen (.slice base sLen sCap)).run P w'=.ok olds.toArray w') (hg:sCap<sLen+n) (h63:sLen+n<4611686018427387904)
  (hfit:(sLen+n)*i.bytes≤140737488355328) :
  (Builtin.append_ ts ty #[.slice base sLen sCap,x]).run P w=.ok (.slice (some ⟨w.heap.size,0,none⟩) (sLen+n) (grownCap w (sLen+n) sCap e))
   (w.drew.alloc (.cells (olds.toArray ++ news.toArray ++ Builtin.zeroCells z.cells (grownCap w (sLen+n) sCap e - (sLen+n))) e)):=by
 have hn:¬(sLen+n≤sCap):=by omega
 have h63':¬(9223372036854775807<((sLen:Int)+(n:Int))):=by omega
 have hfit':=growslice_fits hg hfit;have h48':¬(281474976710656<Builtin.nextslicecap (sLen+n) sCap*i.bytes):=by omega
 have hc:=hx.cells w.drew rfl;have hoc:=ho w.drew rfl;rcases hd with ⟨e2,rfl⟩ | rfl <;> simp [Builtin.append_,ht0,ht1,run_underlying ht,run_underlying hu,sizeOf,typeInfo,zeroValue,hi,hz,hx.len,hn,h63',h48',Question.forced,hc,hoc,newRow,grownCap] <;> (congr 2;apply Array.ext';simp [List.append_assoc])
theorem Gy(w:World){need old:Nat}(e:TypeId): need≤grownCap w need old e:=by show need≤need+_;omega
theorem zZ(z:Array Value)(n:Nat): (Builtin.zeroCells z n).size=n*z.size:=by simp [Builtin.zeroCells]
theorem kL{ts:Array TypeId}{t u ty e:TypeId}{d:TypeDesc}{i:TypeInfo}(ht0:ts[0]?=some t)(ht1:ts[1]?=some u)(hu:P.underlying u=some d)(hd:(∃e2,d=.slice e2)∨d=.string)
  (ht:P.underlying t=some (.slice e)) (hi:P.info? e=some i) {w:World} {base:Option Addr} {sLen sCap:Nat} {x:Value}
  (hx:Wx P w i.size x 0 []) (hr:sLen≤sCap):(Builtin.append_ ts ty #[.slice base sLen sCap,x]).run P w=.ok (.slice base sLen sCap) w:=by
 have hc:=hx.cells w rfl;rcases hd with ⟨e2,rfl⟩ | rfl <;> cases base <;> simp [Builtin.append_,ht0,ht1,run_underlying ht,run_underlying hu,sizeOf,typeInfo,hi,hx.len,hr,hc,storeCells]
end
end
section
noncomputable section
variable {P:Program} {α:AM}
def loadN(m:dJ)(b:Nat): Nat→Nat→Option (List Value)
 | _,0=>some []
 | off,k+1=>match m.cell ⟨b,off,none⟩with
  | some v=>match loadN m b (off+1) k with
   | some l=>some (v :: l)
   | none=>none
  | none=>none
theorem lL.loadN{m:dJ}{w:World}(h:lL P α m w){b:Nat}{L:pY}(hb:α b=some L): ∀(k off:Nat) (l:List Value),Den.loadN m b off k=some l→
  ∃l':List Value,l.length=k∧l'.length=k∧F2 (VR α) l l'∧∀j v,l'[j]?=some v→w.cell? ⟨L.blk,L.sh+off+j,none⟩=some v
 | 0,off,l,e=>by simp only [Den.loadN,Option.some.injEq]at e;subst e;exact⟨[],rfl,rfl,.nil,fun j v hv=>by simp at hv⟩
 | k+1,off,l,e=>by
  simp only [Den.loadN]at e;cases hc:m.cell ⟨b,off,none⟩with
  | none=>rw [hc]at e;cases e
  | some v=>
   rw [hc]at e;cases hl:Den.loadN m b (off+1) k with
   | none=>rw [hl]at e;cases e
   | some l2=>
    rw [hl]at e;cases e;obtain⟨v',h1,h2⟩:=h.cell hb hc;obtain⟨l',h3,h4,h5,h6⟩:=h.loadN hb k (off+1) l2 hl;refine⟨v' :: l',by simp [h3],by simp [h4],.cons h2 h5,fun j u hu=>?_⟩;cases j with
    | zero=>simp at hu;subst hu;exact h1
    | succ j=>
     have:=h6 j u (by simpa using hu);rw [show L.sh+off+(j+1)=L.sh+(off+1)+j from by omega];exact this
theorem jR(b o j:Nat): (⟨b,o,none⟩:Addr).add j=⟨b,o+j,none⟩:=by
 unfold Addr.add;split
 ·rename_i h;subst h;rfl
 rfl
theorem tN{w w':World}(h:w'.heap=w.heap)(a:Addr): w'.cell? a=w.cell? a:=by simp only [World.cell?,h]
def sW(s:ByteArray): List Value:=s.data.toList.map fun b=>.int .u8 b.toNat
def yj(m:dJ)(size:Nat): Value→Option (Nat×List Value)
 | .slice none l _=>bif Nat.beq l 0 then some (0,[]) else none
 | .slice (some ⟨b,off,none⟩) n _=>match loadN m b off (n*size)with
  | some l=>some (n,l)
  | none=>none
 | .string s=>bif Nat.beq size 1 then some (s.size,sW s) else none
 | _=>none
theorem F2.len{A B:Type}{R:A→B→Prop}: ∀{l l'},F2 R l l'→l.length=l'.length
 | _,_,.nil=>rfl
 | _,_,.cons _ k=>by simp [F2.len k]
theorem F2.refl{A:Type}{R:A→A→Prop}: ∀{l:List A},(∀a∈l,R a a)→F2 R l l
 | [],_=>.nil
 | a :: l,h=>.cons (h a (by simp)) (F2.refl fun b hb=>h b (by simp [hb]))
theorem lL.src{m:dJ}{w:World}(h:lL P α m w){size n:Nat}{x x':Value}{l:List Value}(hx:VR α x x')(e:yj m size x=some (n,l)):
  l.length=n*size∧∃l',F2 (VR α) l l'∧Wx P w size x' n l':=by
 cases hx with
 | sliceN k c=>
  simp only [yj]at e;cases hk:Nat.beq k 0 with
  | false=>rw [hk]at e;cases e
  | true=>
   rw [hk,cond_true]at e;have:k=0:=Nat.eq_of_beq_eq_true hk;subst this;cases e;exact⟨by simp,[],.nil,⟨rfl,fun w' _=>by simp [run_firstCells_none],by simp⟩⟩
 | @sliceX b off len cap L hb hc=>
  simp only [yj]at e;cases hl:Den.loadN m b off (len*size)with
  | none=>rw [hl]at e;cases e
  | some l2=>
   rw [hl]at e;cases e;obtain⟨l',h1,h2,h3,h4⟩:=h.loadN hb _ _ _ hl;exact⟨h1,l',h3,⟨rfl,fun w' hw=>run_firstCells_some w' size _ _ _ _ l' h2 fun j v hv=>by rw [jR,tN hw];exact h4 j v hv,h2⟩⟩
 | @sliceG b off len cap es L hb hl' ht=>
  simp only [yj]at e;cases hl:Den.loadN m b off (len*size)with
  | none=>rw [hl]at e;cases e
  | some l2=>
   rw [hl]at e;cases e;obtain⟨l',h1,h2,h3,h4⟩:=h.loadN hb _ _ _ hl;exact⟨h1,l',h3,⟨rfl,fun w' hw=>run_firstCells_some w' size _ _ _ _ l' h2 fun j v hv=>by rw [jR,tN hw];exact h4 j v hv,h2⟩⟩
 | sliceE hb=>
  simp only [yj,Nat.zero_mul,Den.loadN]at e;cases e;refine⟨by simp,[],.nil,⟨rfl,fun w' _=>?_,by simp⟩⟩;exact run_firstCells_some w' size 0 _ 0 0 [] (by simp) (by simp)
 | string s=>
  simp only [yj]at e;cases hk:Nat.beq size 1 with
  | false=>rw [hk]at e;cases e
  | true=>
   rw [hk,cond_true]at e;have:size=1:=Nat.eq_of_beq_eq_true hk;subst this;cases e;have hs:(sW s).length=s.size*1:=(by simp [sW]);refine⟨hs,sW s,.refl fun a ha=>?_,⟨rfl,fun w' _=>?_,hs⟩⟩
   ·simp only [sW,List.mem_map]at ha;obtain⟨b,_,rfl⟩:=ha;exact .int _ _
   simp [Builtin.firstCells,sW];apply Array.ext';simp
 | _=>simp [yj]at e
theorem rH{blk:Nat}{e:TypeId}{lo hi:Nat}: ∀(l:List Value) (w:World) (off i:Nat) (cc:Array Value),w.heap[blk]?=some (.cells cc e (lo,hi))→(∀v∈l,jb v=false)→off+i+l.length≤cc.size→
  (∀j,j<cc.size→¬(lo≤j∧j<hi))→
  ∃w' cc',(storeCells ⟨blk,off,none⟩ l i).run P w=.ok () w'∧w'.os=w.os∧w'.tape=w.tape∧w'.output=w.output∧w'.heap.size=w.heap.size∧(∀k,k≠blk→w'.heap[k]?=w.heap[k]?)∧
   w'.heap[blk]?=some (.cells cc' e (lo,hi))∧cc'.size=cc.size∧∀j,cc'[j]?=if off+i≤j∧j<off+i+l.length then l[j - (off+i)]? else cc[j]?
 | [],w,off,i,cc,hw,_,_,_=>⟨w,cc,rfl,rfl,rfl,rfl,rfl,fun _ _=>rfl,hw,rfl,fun j=>by rw [if_neg (by simp)]⟩
 | v :: l,w,off,i,cc,hw,hn,hs,hf=>by
  have hlt:off+i<cc.size:=by simp at hs;omega
  have h1:w.cell? ⟨blk,off+i,none⟩=some cc[off+i]:=by simp [World.cell?,hw,hlt]
  have h2:w.frozen? ⟨blk,off+i,none⟩=false:=by have:=hf (off+i) hlt;simp only [World.frozen?,hw];simpa using this
  have hw1:(w.setCell ⟨blk,off+i,none⟩ v).heap[blk]?=some (.cells (cc.setIfInBounds (off+i) v) e (lo,hi)):=by simp [World.setCell,Array.getElem?_modify,hw]
  obtain⟨w',cc',r1,r2,r3,r4,r5,r6,r7,r8,r9⟩:=rH l (w.setCell ⟨blk,off+i,none⟩ v) off (i+1) _ hw1 (fun u hu=>hn u (by simp [hu])) (by simp at hs ⊢;omega) (by simpa using hf);refine⟨w',cc',?_,r2,r3,r4,by rw [r5];simp [World.setCell],fun k hk=>(r6 k hk).trans (heap_setCell _ _ _ _ hk),r7,by rw [r8];simp,fun j=>?_⟩
  ·unfold storeCells;rw [Sem.run_bind,jR];have:(store ⟨blk,off+i,none⟩ v).run P w=.ok () (w.setCell ⟨blk,off+i,none⟩ v):=CX (hn v (by simp)) h1 h2;rw [this];exact r1
  rw [r9];by_cases hj:off+i+1≤j∧j<off+i+1+l.length
  ·rw [if_pos (by omega),if_pos (by simp;omega)];rw [show j - (off+i)=(j - (off+(i+1)))+1 from by omega];simp
  rw [if_neg (by omega)];by_cases he:j=off+i
  ·subst he;rw [if_pos (by simp)];simp [hlt]
  rw [if_neg (by simp;omega),Array.getElem?_setIfInBounds,if_neg (by omega)]
theorem lL.kill{m:dJ}{w:World}(h:lL P α m w){b:Nat}{L:pY}{ob:Ob}(hb:α b=some L)(hg:m.t.get b=some ob): nY P α m w α ⟨Tr.set (b+1) m.t b .dead,m.next⟩ w:=by
 have key:∀{b' o'},(Tr.set (b+1) m.t b .dead).get b'=some o'→lU o'→b'≠b∧m.t.get b'=some o':=by
  intro b' o' hx hl;rw [fA]at hx;by_cases e:b'=b
  ·subst e;rw [if_pos rfl]at hx;cases hx;exact absurd hl (by simp [lU])
  rw [if_neg e]at hx;exact⟨e,hx⟩
 refine⟨.refl _,fun _ _=>rfl,Nat.le_refl _,⟨h.dom,?_,?_,fun b' hb'=>by rw [fA,if_neg (fun e=>by have h1:=(h.dom _ _ hb).1;have h2:m.next≤b':=hb';omega)];exact h.top b' hb'⟩,rfl,rfl,rfl,Nat.le_refl _,fun _ _ _=>rfl,?_,fun b' _ hn=>?_⟩
 ·intro b' o' L' hx hL;cases o' with
  | dead=>trivial
  | _=>exact h.obj _ _ _ (key hx trivial).2 hL
 ·intro b1 b2 o1 o2 L1 L2 g1 l1 x1 g2 l2 x2 he;exact h.inj _ _ _ _ _ _ (key g1 l1).2 l1 x1 (key g2 l2).2 l2 x2 he
 ·rintro cb ⟨b',o',L',hx,hl,hL,he⟩;exact .inl ⟨b',o',L',(key hx hl).2,hl,hL,he⟩
 rw [fA,if_neg (fun e=>by rw [e,hb,hg]at hn;rcases hn with hn | hn <;> cases hn)]
theorem lL.inplace{m:dJ}{w w':World}(h:lL P α m w){b:Nat}{L L':pY}{ob o:Ob}(hb:α b=some L)(hg:m.t.get b=some ob)(hlv:lU ob)(hbn:b<m.next)
  (hs:w'.heap.size=w.heap.size) (hos:w'.os=w.os) (ht:w'.tape=w.tape) (hu:w'.output=w.output) (hk:∀cb,cb≠L.blk→w'.heap[cb]?=w.heap[cb]?) (hL':L'.blk=L.blk)
  (ho:uV P (ext α m.next L') L' w' o) :
  nY P α m w (ext α m.next L') ⟨Tr.set (m.next+1) (Tr.set (b+1) m.t b .dead) m.next o,m.next+1⟩ w':=by
 have hle:=h.le_ext L';have hd:=(h.kill hb hg).rel;have dead:∀{b' o' L2},(Tr.set (b+1) m.t b .dead).get b'=some o'→lU o'→α b'=some L2→L2.blk≠L.blk∧m.t.get b'=some o':=by
  intro b' o' L2 hx hl hy;rw [fA]at hx;by_cases e:b'=b
  ·subst e;rw [if_pos rfl]at hx;cases hx;exact absurd hl (by simp [lU])
  rw [if_neg e]at hx;exact⟨fun he=>e (h.inj _ _ _ _ _ _ hx hl hy hg hlv hb he),hx⟩
 have back:∀{b' o' L2},(Tr.set (m.next+1) (Tr.set (b+1) m.t b .dead) m.next o).get b'=some o'→ext α m.next L' b'=some L2→(b'=m.next∧o'=o∧L2=L')∨(b'≠m.next∧(Tr.set (b+1) m.t b .dead).get b'=some o'∧α b'=some L2):=by
  intro b' o' L2 hx hy;rw [fA]at hx;by_cases e1:b'=m.next
  ·subst e1;rw [if_pos rfl]at hx;rw [jw]at hy;cases hx;cases hy;exact .inl ⟨rfl,rfl,rfl⟩
  rw [if_neg e1]at hx;rw [nI _ _ e1]at hy;exact .inr ⟨e1,hx,hy⟩
 refine⟨hle,fun b hb=>nI _ _ (by omega),Nat.le_succ _,⟨?_,?_,?_,fun b' hb'=>by have h2:m.next+1≤b':=hb';rw [fA,if_neg (by omega),fA,if_neg (by omega)];exact h.top b' (by omega)⟩,hos,ht,hu,by omega,?_,?_,fun b' hb' hn=>by rw [fA,if_neg (by omega),fA,if_neg (fun e=>by rw [e,hb,hg]at hn;rcases hn with hn | hn <;> cases hn)]⟩
 ·intro b' L2 hb';by_cases e1:b'=m.next
  ·subst e1;rw [jw]at hb';cases hb';exact⟨Nat.lt_succ_self _,by rw [hs,hL'];exact (h.dom _ _ hb).2⟩
  rw [nI _ _ e1]at hb';have:=h.dom _ _ hb';exact⟨Nat.lt_succ_of_lt this.1,by rw [hs];exact this.2⟩
 ·intro b' o' L2 hx hy;rcases back hx hy with ⟨rfl,rfl,rfl⟩ | ⟨e1,hx,hy⟩
  ·exact ho
  by_cases hl:lU o'
  ·exact ((h.obj _ _ _ (dead hx hl hy).2 hy).heap (hk _ (dead hx hl hy).1)).mono hle
  cases o' with
  | dead=>trivial
  | _=>exact absurd trivial hl
 ·intro b1 b2 o1 o2 L1 L2 g1 l1 x1 g2 l2 x2 he;rcases back g1 x1 with ⟨p1,_,q1⟩ | ⟨e1,y1,z1⟩ <;> rcases back g2 x2 with ⟨p2,_,q2⟩ | ⟨e2,y2,z2⟩
  ·exact p1.trans p2.symm
  ·subst q1;exact absurd (he.symm.trans hL') (dead y2 l2 z2).1
  ·subst q2;exact absurd (he.trans hL') (dead y1 l1 z1).1
  exact h.inj _ _ _ _ _ _ (dead y1 l1 z1).2 l1 z1 (dead y2 l2 z2).2 l2 z2 he
 ·intro cb hcb hn;exact hk cb fun e=>hn ⟨b,_,L,hg,hlv,hb,e.symm⟩
 rintro cb ⟨b',o',L2,hx,hl,hy,rfl⟩;rcases back hx hy with ⟨_,_,rfl⟩ | ⟨e1,hx,hy⟩
 ·exact .inl ⟨b,ob,L,hg,hlv,hb,hL'.symm⟩
 exact .inl ⟨b',o',L2,(dead hx hl hy).2,hl,hy,rfl⟩
theorem F2.get{A B:Type}{R:A→B→Prop}: ∀{l:List A} {l':List B},F2 R l l'→∀(i:Nat),i<l.length→∃a b,l[i]?=some a∧l'[i]?=some b∧R a b
 | _,_,.nil,i,h=>absurd h (by simp)
 | _,_,.cons h _,0,_=>⟨_,_,rfl,rfl,h⟩
 | _,_,.cons _ k,i+1,hi=>by obtain⟨a,b,h1,h2,h3⟩:=k.get i (by simpa using hi);exact⟨a,b,by simpa using h1,by simpa using h2,h3⟩
theorem F2.append{A B:Type}{R:A→B→Prop}: ∀{l k:List A} {l' k':List B},F2 R l l'→F2 R k k'→F2 R (l ++ k) (l' ++ k')
 | _,_,_,_,.nil,h=>h
 | _,_,_,_,.cons a b,h=>.cons a (F2.append b h)
theorem lL.grown{m:dJ}{w:World}(h:lL P α m w){l l':List Value}(hl:F2 (VR α) l l')(rest:Array Value)(e e':TypeId)(n:Nat)(hn:l.length=n):
  nY P α m w (ext α m.next ⟨w.heap.size,0,l.length+rest.size⟩) ⟨Tr.set (m.next+1) m.t m.next (.cells (qm l) n e true),m.next+1⟩
   (w.drew.alloc (.cells (l'.toArray ++ rest) e')):=by
 have hs:=hl.len;have hh:(w.drew.alloc (.cells (l'.toArray ++ rest) e')).heap=w.heap.push (.cells (l'.toArray ++ rest) e'):=rfl;refine h.new (L:=⟨w.heap.size,0,l.length+rest.size⟩) (by rw [hh];simp) rfl rfl rfl (fun cb h1 h2=>by rw [hh];simp [Array.getElem?_push];omega) (by rw [hh];simp) (fun⟨b,o,L,_,_,h3,h4⟩=>?_) (Nat.le_refl _) ?_
 ·have:=(h.dom _ _ h3).2;simp at h4;omega
 refine⟨l'.toArray ++ rest,e',0,0,by rw [hh];simp,by simp [hs],by simp;omega,fun i _=>by omega,(fun hf=>by cases hf),fun i hi=>?_⟩;obtain⟨a,b,h1,h2,h3⟩:=hl.get i (by omega);refine⟨a,b,?_,?_,h3.mono (h.le_ext _)⟩
 ·rw [qg,if_pos (by omega)];simpa using h1
 have:i<l'.length:=by omega
 simp only [Nat.zero_add];rw [Array.getElem?_append_left (by simpa using this)];simpa using h2
end
end
section
noncomputable section
variable {P:Program} {α:AM}
def QT:TypeDesc→Bool
 | .slice _ | .string=>true
 | _=>false
theorem Pq{d:TypeDesc}(h:QT d=true): (∃e2,d=.slice e2)∨d=.string:=by cases d <;> first | (simp [QT]at h;done) | exact .inl ⟨_,rfl⟩ | exact .inr rfl
def yh{B:Type}(m:dJ)(cells:List Value)(n:Nat)(e:TypeId)(c:Value→dJ→B)(len es:Nat): B:=
 vO cells fun t=>gQ n fun n=>m.push (.cells t n e true) fun m'=>c (.slice (some ⟨m.next,0,none⟩) len (G+es)) m'
def pG(i:TypeInfo)(e:TypeId)(s:Value)(n:Nat)(news:List Value)(m:dJ): Option (Value×dJ):=
 match s with
 | .slice none l c=>bif Nat.beq l 0 && Nat.beq c 0 && Nat.ble (n*i.bytes) 140737488355328 && Nat.blt n 4611686018427387904 then yh m news (n*i.size) e (fun v m=>some (v,m)) n i.size else none
 | .slice (some ⟨b,off,none⟩) l c=>
  match m.t.get b with
  | some (.cells _ cn _ g)=>
   bif Nat.ble ((l+n)*i.bytes) 140737488355328 && Nat.blt (l+n) 4611686018427387904 && Nat.blt b m.next then
    match loadN m b off (l*i.size)with
    | some olds=>
     bif Nat.ble G c then
      bif Nat.beq (c - G) i.size then m.put b .dead fun m=>yh m (olds ++ news) ((l+n)*i.size) e (fun v m=>some (v,m)) (l+n) i.size else none
     else bif Nat.ble (l+n) c then
      bif !g && Nat.ble (off+i.size*c) cn && Nat.blt c G then m.put b .dead fun m=>yh m (olds ++ news) ((l+n)*i.size) e (fun v m=>some (v,m)) (l+n) i.size else none
     else yh m (olds ++ news) ((l+n)*i.size) e (fun v m=>some (v,m)) (l+n) i.size
    | none=>none
   else none
  | _=>none
 | _=>none
def FO(P:Program)(ts:Array TypeId)(s x:Value)(m:dJ): Option (Value×dJ):=
 match ts[0]? with
 | none=>none
 | some t=>match ts[1]? with
  | none=>none
  | some u=>match P.underlying t with
   | some (.slice e)=>(match P.underlying u with
    | some d=>bif QT d then
      (match P.info? e with
      | some i=>(match i.zero with
       | some z=>bif Nat.beq z.cells.size i.size then
         (match yj m i.size x with
         | some (n,news)=>bif news.all (fun v=>!(jb v)) then bif Nat.beq n 0 then
           (match s with
           | .slice _ l c=>bif Nat.ble l c then some (s,m) else none
           | _=>none)
          else pG i e s n news m else none
         | none=>none)
        else none
       | none=>none)
      | none=>none)
     else none
    | none=>none)
   | _=>none
theorem dE{A:Type}{b:Bool}{x:Option A}{y:A}(h:(bif b then x else none)=some y): b=true∧x=some y:=by
 cases b
 ·cases h
 exact⟨rfl,h⟩
theorem F2.notCell'{l l':List Value}(h:F2 (VR α) l l')(hn:∀v∈l,jb v=false): ∀v∈l',jb v=false:=by
 induction h with
 | nil=>intro v hv;simp at hv
 | cons h k ih=>
  intro v hv;rcases List.mem_cons.1 hv with rfl | hv
  ·exact uA h (hn _ (by simp))
  exact ih (fun u hu=>hn u (by simp [hu])) v hv
theorem Ce{ts:Array TypeId}{ty:TypeId}{s s' x x' v:Value}{m m1:dJ}{w:World}(hr:lL P α m w)(hs:VR α s s')(hx:VR α x x')
  (h:FO P ts s x m=some (v,m1)):∃β v' w1,VR β v v'∧nY P α m w β m1 w1∧(Builtin.append_ ts ty #[s',x']).run P w=.ok v' w1:=by
 unfold FO at h;cases ht0:ts[0]? with
 | none=>rw [ht0]at h;cases h
 | some t=>
 cases ht1:ts[1]? with
 | none=>rw [ht0,ht1]at h;cases h
 | some u=>
 rw [ht0,ht1]at h;simp only []at h;split at h;case h_2=>cases h
 rename_i e ht;split at h;case h_2=>cases h
 rename_i d hu;have h0:=dE h;clear h;obtain⟨hd,h⟩:=h0;have hd:=Pq hd;split at h;case h_2=>cases h
 rename_i i hi;split at h;case h_2=>cases h
 rename_i z hz;have h0:=dE h;clear h;obtain⟨hzs,h⟩:=h0;have hzs:z.cells.size=i.size:=Nat.eq_of_beq_eq_true hzs;split at h;case h_2=>cases h
 rename_i n news hsrc;have h0:=dE h;clear h;obtain⟨hnc,h⟩:=h0;obtain⟨hln,news',hnews,hX⟩:=hr.src hx hsrc;have hnc:∀v∈news',jb v=false:=hnews.notCell' fun v hv=>by simpa using List.all_eq_true.1 hnc v hv
 cases hn0:Nat.beq n 0 with
 | true=>
  rw [hn0,cond_true]at h;have hn:n=0:=Nat.eq_of_beq_eq_true hn0;subst hn;have hnil:news'=[]:=by have:=hX.size;simpa using this
  subst hnil;split at h;case h_2=>cases h
  have h0:=dE h;clear h;obtain⟨hc,h⟩:=h0;cases h;refine⟨α,s',w,hs,.refl hr,?_⟩;cases hs with
  | sliceN l c=>exact kL ht0 ht1 hu hd ht hi hX (Nat.le_of_ble_eq_true hc)
  | sliceX hb hcap=>exact kL ht0 ht1 hu hd ht hi hX (Nat.le_of_ble_eq_true hc)
  | sliceG hb hl htot=>exact kL ht0 ht1 hu hd ht hi hX hl
  | sliceE hb=>exact kL ht0 ht1 hu hd ht hi hX (Nat.le_refl _)
 | false=>
  rw [hn0,cond_false]at h;have hn:0<n:=by
   rcases Nat.eq_zero_or_pos n with e | e
   ·subst e;cases hn0
   exact e
  have grow:∀{base:Option Addr} {l c:Nat} {olds olds':List Value} {m0:dJ} (hr0:lL P α m0 w),F2 (VR α) olds olds'→olds.length=l*i.size→c<l+n→l+n<4611686018427387904→
    (l+n)*i.bytes≤140737488355328→(∀w':World,w'.heap=w.heap→(Builtin.firstCells i.size l (.slice base l c)).run P w'=.ok olds'.toArray w')→
    yh m0 (olds ++ news) ((l+n)*i.size) e (fun v m=>some (v,m)) (l+n) i.size=some (v,m1)→
    ∃β v' w1,VR β v v'∧nY P α m0 w β m1 w1∧(Builtin.append_ ts ty #[.slice base l c,x']).run P w=.ok v' w1:=by
   intro base l c olds olds' m0 hr0 ho hol hg h63 hfit hrun he;simp only [yh,jl,dW,dJ.push_eq,Option.some.injEq,Prod.mk.injEq]at he;obtain⟨rfl,rfl⟩:=he;have hcap:=Gy w (need:=l+n) (old:=c) e;have hlen:(olds ++ news).length=(l+n)*i.size:=(by rw [List.length_append,hol,hln,Nat.add_mul]);have hstp:=hr0.grown (ho.append hnews) (Builtin.zeroCells z.cells (grownCap w (l+n) c e - (l+n))) e e ((l+n)*i.size) hlen;have hrun:=xP (ty:=ty) ht0 ht1 hu hd ht hi hz hX hrun hg h63 hfit;refine⟨_,.slice (some ⟨w.heap.size,0,none⟩) (l+n) (grownCap w (l+n) c e),_,?_,hstp,by rw [hrun];simp only [List.append_toArray]⟩;have hv:=VR.sliceG (α:=ext α m0.next ⟨w.heap.size,0,(olds ++ news).length+(Builtin.zeroCells z.cells (grownCap w (l+n) c e - (l+n))).size⟩) (off:=0) (len:=l+n) (cap:=grownCap w (l+n) c e) (es:=i.size) (jw _ _ _) hcap
    (by rw [zZ,hlen,hzs,←Nat.add_mul,Nat.add_sub_cancel' hcap,Nat.mul_comm];simp)
   simpa using hv
  have place:∀{b off l cap:Nat} {L:pY} {cc:Tr Value} {cn ce:Nat} {g:Bool} {olds:List Value},α b=some L→m.t.get b=some (.cells cc cn ce g)→b<m.next→Den.loadN m b off (l*i.size)=some olds→
    l+n≤cap→L.sh+off+i.size*cap≤L.tot→
    yh ⟨Tr.set (b+1) m.t b .dead,m.next⟩ (olds ++ news) ((l+n)*i.size) e (fun v m=>some (v,m)) (l+n) i.size=some (v,m1)→
    ∃β v' w1,VR β v v'∧nY P α m w β m1 w1∧(Builtin.append_ ts ty #[.slice (some ⟨L.blk,L.sh+off,none⟩) l cap,x']).run P w=.ok v' w1:=by
   intro b off l cap L cc cn ce g olds hb hg hbn hol hcap htot he;simp only [yh,jl,dW,dJ.push_eq,Option.some.injEq,Prod.mk.injEq]at he;obtain⟨rfl,rfl⟩:=he;obtain⟨olds',ho1,ho2,ho3,ho4⟩:=hr.loadN hb _ _ _ hol;obtain⟨cells,e',lo,hi',h1,h2,h3,h4,h5,h7⟩:=hr.cells hb hg;have hlen:(olds ++ news).length=(l+n)*i.size:=(by rw [List.length_append,ho1,hln,Nat.add_mul]);have hmul:i.size*cap=cap*i.size:=Nat.mul_comm _ _;have hmul2:(l+n)*i.size≤cap*i.size:=Nat.mul_le_mul_right _ hcap;have hadd:(l+n)*i.size=l*i.size+n*i.size:=Nat.add_mul _ _ _;have hn2:news'.length=n*i.size:=hX.size;obtain⟨w',cells',r1,r2,r3,r4,r5,r6,r7,r8,r9⟩:=rH (P:=P) news' w (L.sh+off+l*i.size) 0 cells h1 hnc (by omega) (by rw [h2];exact h4);have hstp:=hr.inplace (L':=⟨L.blk,L.sh+off,L.tot⟩) (o:=.cells (qm (olds ++ news)) ((l+n)*i.size) e true) hb hg trivial hbn r5 r2 r3 r4 r6 rfl
    ⟨cells',e',lo,hi',r7,by rw [r8];exact h2,by show L.sh+off+(l+n)*i.size≤L.tot;omega,h4,(fun hf=>by cases hf),fun j hj=>by
     obtain⟨a,b',g1,g2,g3⟩:=(ho3.append hnews).get j (by omega);refine⟨a,b',?_,?_,g3.mono (hr.le_ext _)⟩
     ·rw [qg,if_pos (by omega)];simpa using g1
     show cells'[L.sh+off+j]?=some b';rw [r9];by_cases hj2:j<l*i.size
     ·rw [if_neg (by omega)];rw [List.getElem?_append_left (by omega)]at g2;have:=ho4 j b' g2;simpa [World.cell?,h1]using this
     rw [if_pos (by omega)];rw [List.getElem?_append_right (by omega),ho2]at g2;rw [show L.sh+off+j - (L.sh+off+l*i.size+0)=j - l*i.size from by omega];exact g2⟩
   refine⟨_,_,w',?_,hstp,yQ (ty:=ty) ht0 ht1 hu hd ht hi hX hcap (by rw [jR];exact r1)⟩;have hv:=VR.sliceG (α:=ext α m.next ⟨L.blk,L.sh+off,L.tot⟩) (off:=0) (len:=l+n) (cap:=cap) (es:=i.size) (jw _ _ _) hcap (by simpa using htot);simpa using hv
  cases hs with
  | sliceN l c=>
   simp only [pG]at h;cases hc:(Nat.beq l 0 && Nat.beq c 0 && Nat.ble (n*i.bytes) 140737488355328 && Nat.blt n 4611686018427387904)with
   | false=>rw [hc]at h;cases h
   | true=>
    rw [hc,cond_true]at h;simp only [Bool.and_eq_true,Nat.beq_eq,Nat.ble_eq,Nat.blt_eq]at hc;obtain⟨⟨⟨rfl,rfl⟩,h1⟩,h2⟩:=hc;refine grow (base:=none) (l:=0) (c:=0) (olds:=[]) (olds':=[]) hr .nil (by simp) (by omega) (by omega) (by simpa using h1) (fun w' _=>by simp [run_firstCells_none]) ?_;simpa using h
  | @sliceX b off l cap L hb hcap=>
   simp only [pG,dJ.put_eq]at h;split at h;case h_2=>cases h
   rename_i cc cn ce g hg;cases hc:(Nat.ble ((l+n)*i.bytes) 140737488355328 && Nat.blt (l+n) 4611686018427387904 && Nat.blt b m.next)with
   | false=>rw [hc]at h;cases h
   | true=>
   rw [hc,cond_true]at h;simp only [Bool.and_eq_true,Nat.ble_eq,Nat.blt_eq]at hc;obtain⟨⟨c1,c2⟩,c3⟩:=hc;split at h;case h_2=>cases h
   rename_i olds hol;obtain⟨olds',ho1,ho2,ho3,ho4⟩:=hr.loadN hb _ _ _ hol;have hG:Nat.ble G cap=false:=by
    cases hh:Nat.ble G cap with
    | false=>rfl
    | true=>have:=Nat.le_of_ble_eq_true hh;omega
   rw [hG,cond_false]at h;cases hle:Nat.ble (l+n) cap with
   | true=>
    rw [hle,cond_true]at h;cases hc2:(!g && Nat.ble (off+i.size*cap) cn && Nat.blt cap G)with
    | false=>rw [hc2]at h;cases h
    | true=>
     rw [hc2,cond_true]at h;simp only [Bool.and_eq_true,Nat.ble_eq,Bool.not_eq_true']at hc2;obtain⟨⟨rfl,c4⟩,-⟩:=hc2;obtain⟨cells,e',lo,hi',h1,h2,h3,h4,h5,h7⟩:=hr.cells hb hg;have h5':=h5 rfl;exact place hb hg c3 hol (Nat.le_of_ble_eq_true hle) (by omega) h
   | false=>
    rw [hle,cond_false]at h;have hg2:cap<l+n:=by
     rcases Nat.lt_or_ge cap (l+n)with h' | h'
     ·exact h'
     have:Nat.ble (l+n) cap=true:=(by rw [Nat.ble_eq];exact h');rw [this]at hle;cases hle
    exact grow (base:=some _) hr ho3 ho1 hg2 c2 c1 (fun w' hw=>run_firstCells_some w' i.size _ _ _ _ olds' ho2 fun j v hv=>by rw [jR,tN hw];exact ho4 j v hv) h
  | @sliceG b off l cap es L hb hl htot=>
   simp only [pG,dJ.put_eq]at h;split at h;case h_2=>cases h
   rename_i cc cn ce g hg;cases hc:(Nat.ble ((l+n)*i.bytes) 140737488355328 && Nat.blt (l+n) 4611686018427387904 && Nat.blt b m.next)with
   | false=>rw [hc]at h;cases h
   | true=>
   rw [hc,cond_true]at h;simp only [Bool.and_eq_true,Nat.ble_eq,Nat.blt_eq]at hc;obtain⟨⟨c1,c2⟩,c3⟩:=hc;split at h;case h_2=>cases h
   rename_i olds hol;obtain⟨olds',ho1,ho2,ho3,ho4⟩:=hr.loadN hb _ _ _ hol;have hG:Nat.ble G (G+es)=true:=(by rw [Nat.ble_eq];omega);rw [hG,cond_true,Nat.add_sub_cancel_left]at h;cases hc2:(Nat.beq es i.size)with
   | false=>rw [hc2]at h;cases h
   | true=>
    rw [hc2,cond_true]at h;obtain rfl:es=i.size:=Nat.eq_of_beq_eq_true hc2;by_cases hle:l+n≤cap
    ·exact place hb hg c3 hol hle htot h
    have hk:=hr.kill hb hg;obtain⟨β,v',w1,r1,r2,r3⟩:=grow (base:=some ⟨L.blk,L.sh+off,none⟩) (l:=l) (c:=cap) hk.rel ho3 ho1 (by omega) c2 c1 (fun w' hw=>run_firstCells_some w' i.size _ _ _ _ olds' ho2 fun j v hv=>by rw [jR,tN hw];exact ho4 j v hv) h;exact⟨β,v',w1,r1,hk.trans r2,r3⟩
  | @sliceE b off es a L hb=>
   simp only [pG,dJ.put_eq]at h;split at h;case h_2=>cases h
   rename_i cc cn ce g hg;cases hc:(Nat.ble ((0+n)*i.bytes) 140737488355328 && Nat.blt (0+n) 4611686018427387904 && Nat.blt b m.next)with
   | false=>rw [hc]at h;cases h
   | true=>
   rw [hc,cond_true]at h;simp only [Bool.and_eq_true,Nat.ble_eq,Nat.blt_eq]at hc;obtain⟨⟨c1,c2⟩,c3⟩:=hc;simp only [Nat.zero_mul,Den.loadN]at h;have hG:Nat.ble G (G+es)=true:=(by rw [Nat.ble_eq];omega);rw [hG,cond_true,Nat.add_sub_cancel_left]at h;cases hc2:(Nat.beq es i.size)with
   | false=>rw [hc2]at h;cases h
   | true=>
    rw [hc2,cond_true]at h;have hk:=hr.kill hb hg;obtain⟨β,v',w1,r1,r2,r3⟩:=grow (base:=some a) (l:=0) (c:=0) (olds:=[]) (olds':=[]) hk.rel .nil (by simp) (by omega) c2 c1 (fun w' _=>run_firstCells_some w' i.size 0 _ 0 0 [] (by simp) (by simp)) h;exact⟨β,v',w1,r1,hk.trans r2,r3⟩
  | _=>simp [pG]at h
end
end
end Go.Den
