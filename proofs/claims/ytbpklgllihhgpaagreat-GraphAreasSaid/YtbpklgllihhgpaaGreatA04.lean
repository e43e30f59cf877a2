import Derived.Test.YtbpklgllihhgpaaGreatA03
set_option maxRecDepth 100000
set_option maxHeartbeats 16000000
namespace Go.Den
section
noncomputable section
variable {P:Program} {α:AM}
structure eX where
 t:Tr Value
 n:Nat
def eX.get(E:eX)(i:Nat): Value:=match E.t.get i with | some v=>v | none=>undef
def eX.put{B:Type}(E:eX)(dst:Option Tmp)(v:Value)(c:eX→B): B:=
 match dst with
 | none=>c E
 | some d=>match E with | ⟨t,n⟩=>bif Nat.blt d n then Bi v fun v=>Tr.setK (d+1) t d v fun t=>c ⟨t,n⟩ else c ⟨t,n⟩
def qA(α:AM)(E:eX)(tmps:Array Value): Prop:=tmps.size=E.n∧∀i,i<E.n→VR α (E.get i) (tmps.getD i undef)
theorem qA.mono{β:AM}(hle:Le α β){E:eX}{x:Array Value}(h:qA α E x): qA β E x:=⟨h.1,fun i hi=>(h.2 i hi).mono hle⟩
def eX.put'(E:eX)(dst:Option Tmp)(v:Value): eX:=
 match dst with
 | none=>E
 | some d=>bif Nat.blt d E.n then ⟨Tr.set (d+1) E.t d v,E.n⟩ else E
theorem eX.put_eq{B:Type}(E:eX)(dst:Option Tmp)(v:Value)(c:eX→B): E.put dst v c=c (E.put' dst v):=by
 obtain⟨t,n⟩:=E;unfold eX.put eX.put';cases dst with
 | none=>rfl
 | some d=>simp only [nJ,Tr.setK_eq];cases Nat.blt d n <;> rfl
theorem qA.put{E:eX}{a:Act}(h:qA α E a.tmps)(dst:Option Tmp){v v':Value}(hv:VR α v v'): qA α (E.put' dst v) (a.put dst v').tmps:=by
 unfold eX.put' Act.put;cases dst with
 | none=>exact h
 | some d=>
  simp only [];cases hd:Nat.blt d E.n with
  | false=>
   rw [cond_false];have:¬d<a.tmps.size:=(by rw [h.1];intro e;rw [dR.2 e]at hd;cases hd);rw [Array.setIfInBounds_eq_of_size_le (Nat.le_of_not_lt this)];exact h
  | true=>
   have hd':=dR.1 hd;rw [cond_true];refine⟨by simp [h.1],fun i hi=>?_⟩;simp only [eX.get,Tr.get_set _ _ _ _ _ (Nat.lt_succ_self d)];by_cases e:i=d
   ·subst e;have:i<a.tmps.size:=(by rw [h.1];exact hi);simp only [if_true];simpa [this]using hv
   simp only [e,if_false];have:=h.2 i hi;simp only [eX.get]at this;simpa [Ne.symm e,Array.getElem?_setIfInBounds]using this
def ev(E:eX): Operand→Value
 | .tmp t=>E.get t
 | .const v=>v
 | .global _=>.nilIface
 | .func f=>.func (.func f) #[] #[]
def jM(E:eX): Operand→Bool
 | .tmp t=>Nat.blt t E.n
 | .const v=>ig v
 | .global _=>false
 | .func _=>true
theorem qA.ev{E:eX}{a:Act}(h:qA α E a.tmps){x:Operand}(hx:jM E x=true): VR α (ev E x) (a.eval x):=by
 cases x with
 | tmp t=>exact h.2 t (dR.1 hx)
 | const v=>exact VR.refl hx
 | global g=>cases hx
 | func f=>exact .func rfl rfl (fun i h=>absurd h (Nat.not_lt_zero _)) (fun i h=>absurd h (Nat.not_lt_zero _))
def gq{A:Type}(P:Program): Sem A→Option A
 | .pure a=>some a
 | .program k=>gq P (k P)
 | .mark _ k=>gq P k
 | _=>none
theorem wJ{A:Type}: ∀(s:Sem A) {a:A} (w:World),gq P s=some a→s.run P w=.ok a w
 | .pure _,_,_,h=>by cases h;rfl
 | .program k,_,w,h=>wJ (k P) w h
 | .mark _ k,_,w,h=>wJ k w h
 | .load ..,_,_,h=>by cases h
 | .store ..,_,_,h=>by cases h
 | .new ..,_,_,h=>by cases h
 | .shape ..,_,_,h=>by cases h
 | .freeze ..,_,_,h=>by cases h
 | .frozen ..,_,_,h=>by cases h
 | .getObj ..,_,_,h=>by cases h
 | .setObj ..,_,_,h=>by cases h
 | .choose ..,_,_,h=>by cases h
 | .sys ..,_,_,h=>by cases h
 | .halt _,_,_,h=>by cases h
def Eh(E:eX)(c:Call): Bool:=
 match c.callee with
 | .builtin .len=>(match c.args with | ⟨[_]⟩=>true | _=>false)
 | .builtin .delete=>(match c.args with | ⟨[_,k]⟩=>kR (ev E k) | _=>false)
 | .builtin .clear=>(match c.args with | ⟨[x]⟩=>(match ev E x with | .map (some _)=>true | _=>false) | _=>false)
 | _=>false
def lI(E:eX): Op→Bool
 | .move _ | .assign _ | .pick .. | .alloc _ | .box .. | .build .. | .load .. | .store .. | .nilCheck _ | .fieldAddr .. | .field .. | .indexAddr .. | .index .. | .makeInterface .. | .entryStore .. | .extract ..=>true
 | .makeSlice ..=>true
 | .makeMap _ none | .range .. | .next _ true=>true
 | .buildSlice _ len _=>Nat.blt len G
 | .lookup _ _ k _ | .mapEntry _ _ k | .mapUpdate _ _ k _ | .insert _ _ k _=>kR (ev E k)
 | .makeFunc (.func _) _ _=>true
 | .slice _ x _ _ _=>RY (ev E x)
 | .call c=>Eh E c
 | _=>false
theorem DJ{E:eX}{a:Act}{parts:Array (Nat×Operand)}(hp:∀x∈(parts.toList.map (·.2)).toArray,VR α (ev E x) (a.eval x)):
  PR α (parts.map fun (i,x)=>(i,ev E x)).toList (parts.map fun (i,x)=>(i,a.eval x)).toList:=by
 obtain⟨l⟩:=parts;simp only [List.map_toArray];induction l with
 | nil=>exact .nil
 | cons p l ih=>exact .cons ⟨rfl,hp p.2 (by simp)⟩ (ih fun x hx=>hp x (by simp at hx ⊢;exact .inr hx))
theorem BB{E:eX}{a:Act}{xs:Array Operand}(hp:∀x∈xs,VR α (ev E x) (a.eval x)): kN α (xs.map (ev E)) (xs.map a.eval):=by refine⟨by simp,fun i h1 h2=>?_⟩;simp only [Array.getElem_map];exact hp _ (by simp)
theorem mV{E:eX}{a:Act}{x:Option Operand}(hp:∀y,x=some y→VR α (ev E y) (a.eval y)): OR α (x.map (ev E)) (x.map a.eval):=by
 cases x with
 | none=>exact .inl ⟨rfl,rfl⟩
 | some y=>exact .inr ⟨_,_,rfl,rfl,hp y rfl⟩
theorem iH(ρ:Operand→Value)(dst:Option Tmp)(b:Builtin)(args:Array Operand)(ats:Array TypeId)(type:TypeId)(pos:String)(after:Array Edge)(guard:Option (Nat×Bool)):
 execOp ρ ⟨dst,.call ⟨.builtin b,args,ats⟩,type,pos,after,guard⟩=builtin b ats type (args.map fun | .const _=>true | _=>false) (args.map ρ):=rfl
theorem zu{A B:Type}(f:A→B)(x:A): Array.map f ⟨[x]⟩=#[f x]:=by simp
theorem EY{A B:Type}(f:A→B)(x y:A): Array.map f ⟨[x,y]⟩=#[f x,f y]:=by simp
def QY(P:Program): Op→Bool
 | .alloc t | .build t _ | .buildSlice t _ _ | .makeSlice t _ _ | .lookup t _ _ _ | .mapEntry t _ _ | .slice t _ _ _ _=>Nat.blt t P.types.size
 | _=>true
theorem sG(hz:jc P){E:eX}{a:Act}{o:Oper}(hok:∀x∈o.op.operands,VR α (ev E x) (a.eval x))(hs:lI E o.op=true)(hT:QY P o.op=true):
  fU P NR α (execOp (ev E) o) (execOp a.eval o):=by
 obtain⟨dst,op,type,pos,after,guard⟩:=o;have one:∀{x:Operand},x∈op.operands→VR α (ev E x) (a.eval x):=fun hx=>hok _ hx;cases op with
 | move x=>exact cZ (.value (one (by simp [Op.operands])))
 | assign x=>exact cZ (.value (one (by simp [Op.operands])))
 | pick c x y=>
  have hc:=one (x:=c) (by simp [Op.operands]);have hx:=one (x:=x) (by simp [Op.operands]);have hy:=one (x:=y) (by simp [Op.operands]);simp only [execOp];generalize ev E c=u at *;generalize a.eval c=u' at *;cases hc with
  | bool b=>cases b <;> first | exact cZ (.value hx) | exact cZ (.value hy)
  | _=>exact cO
 | alloc e=>exact eU (NE hz (dR.1 hT))
 | box e x=>exact eU (Uc e (one (by simp [Op.operands])))
 | build t ps=>exact eU (NJ hz (dR.1 hT) (DJ fun x hx=>hok x hx))
 | buildSlice t len ps=>exact eU (AV hz (dR.1 hT) len (dR.1 hs) (DJ fun x hx=>hok x hx))
 | load t x=>exact eU (bV (lK (one (by simp [Op.operands]))) fun _ _ _ _ ha=>yl t ha)
 | store t x y=>
  have hy:=one (x:=y) (by simp [Op.operands]);exact vk (bV (lK (one (by simp [Op.operands]))) fun _ _ _ hle ha=>Eu t ha (hy.mono hle))
 | nilCheck x=>
  have hx:=one (x:=x) (by simp [Op.operands]);have h0:=hx;simp only [execOp];generalize ev E x=u at *;generalize a.eval x=u' at *;cases hx <;> first | exact lW | exact cZ (.value h0)
 | fieldAddr s x f=>exact eU (IG s (one (by simp [Op.operands])) f)
 | field s x f=>exact eU (MM s (one (by simp [Op.operands])) f)
 | indexAddr t x i=>exact eU (GY t (one (by simp [Op.operands])) (one (by simp [Op.operands])))
 | index t x i=>exact eU (Oz t (one (by simp [Op.operands])) (one (by simp [Op.operands])))
 | makeInterface t x=>exact eU (vF t (one (by simp [Op.operands])))
 | makeSlice t l c=>exact eU (Cm hz (dR.1 hT) (one (by simp [Op.operands])) (one (by simp [Op.operands])))
 | makeMap t r=>
  cases r with
  | none=>exact eU (Hl t)
  | some _=>cases hs
 | range t x=>exact eU (Oi t (one (by simp [Op.operands])))
 | next x isS=>
  cases isS with
  | true=>exact eU (Pj type (one (by simp [Op.operands])))
  | false=>cases hs
 | lookup t x k ok=>
  have hk:=one (x:=k) (by simp [Op.operands]);have hx:=one (x:=x) (by simp [Op.operands]);simp only [execOp];rw [hk.scalar_eq hs];exact eU (I4 hz (dR.1 hT) hx hs ok)
 | mapEntry t x k=>
  have hk:=one (x:=k) (by simp [Op.operands]);have hx:=one (x:=x) (by simp [Op.operands]);simp only [execOp];rw [hk.scalar_eq hs];exact eU (Ee hz (dR.1 hT) hx hs)
 | mapUpdate t x k y=>
  have hk:=one (x:=k) (by simp [Op.operands]);have hx:=one (x:=x) (by simp [Op.operands]);have hy:=one (x:=y) (by simp [Op.operands]);simp only [execOp];rw [hk.scalar_eq hs];exact vk (um t hx hs hy)
 | insert t x k y=>
  have hk:=one (x:=k) (by simp [Op.operands]);have hx:=one (x:=x) (by simp [Op.operands]);have hy:=one (x:=y) (by simp [Op.operands]);simp only [execOp];rw [hk.scalar_eq hs];exact vk (um t hx hs hy)
 | entryStore t x k y=>exact vk (zN t (one (by simp [Op.operands])) (one (by simp [Op.operands])) (one (by simp [Op.operands])))
 | extract x i=>exact eU (GK (one (by simp [Op.operands])) i)
 | makeFunc fn first captured=>
  cases fn with
  | func f=>
   have h1:=BB (E:=E) (a:=a) (xs:=first) fun x hx=>hok x (by simp [Op.operands,hx]);have h2:=BB (E:=E) (a:=a) (xs:=captured) fun x hx=>hok x (by simp [Op.operands,hx]);exact cZ (.value (.func h1.1 h2.1 h1.2 h2.2))
  | _=>cases hs
 | slice t x lo hi mx=>
  refine eU (Hy hz (dR.1 hT) (one (by simp [Op.operands])) hs (mV fun y e=>?_) (mV fun y e=>?_) (mV fun y e=>?_))
  ·subst e;exact hok _ (by simp [Op.operands])
  ·subst e;exact hok _ (by simp [Op.operands])
  subst e;exact hok _ (by simp [Op.operands])
 | call c=>
  obtain⟨callee,args,ats⟩:=c;simp only [lI,Eh]at hs;cases callee with
  | builtin b=>
   cases b with
   | len=>
    simp only at hs;split at hs
    ·rename_i x;have hx:=one (x:=x) (by simp [Op.operands,Call.operands]);rw [iH,iH,zu (ev E),zu a.eval];exact eU (Ti _ _ hx)
    cases hs
   | delete=>
    simp only at hs;split at hs
    ·rename_i x k;have hk:=one (x:=k) (by simp [Op.operands,Call.operands]);have hx:=one (x:=x) (by simp [Op.operands,Call.operands]);rw [iH,iH,EY (ev E),EY a.eval,hk.scalar_eq hs];exact eU (JQ ats type hx hs)
    cases hs
   | clear=>
    simp only at hs;split at hs
    ·rename_i x;have hx:=one (x:=x) (by simp [Op.operands,Call.operands]);split at hs
     ·rename_i r hr;rw [hr]at hx;rw [iH,iH,zu (ev E),zu a.eval,hr];generalize a.eval x=u at *;cases hx with
      | map hb=>exact eU (EW _ _ hb)
     cases hs
    cases hs
   | _=>cases hs
  | _=>cases hs
 | _=>cases hs
end
end
section
noncomputable section
variable {P:Program} {α:AM}
def UC:Option Value→Nat→Option Nat
 | none,d=>some d
 | some (.int _ (.ofNat n)),_=>some n
 | _,_=>none
def FQ(P:Program)(t:TypeId)(x:Value)(lo hi mx:Option Value): Option Value:=
 match x,mx with
 | .slice (some ⟨b,off,none⟩) len cap,none=>bif Nat.ble G cap then
   match P.underlying t with
   | some (.slice elem)=>match P.info? elem with
    | some i=>bif Nat.beq (cap - G) i.size then
      match UC lo 0 with
      | some l=>match UC hi len with
       | some h=>bif Nat.ble l h && Nat.ble h len then some (.slice (some ⟨b,off+l*i.size,none⟩) (h - l) cap) else none
       | none=>none
      | none=>none
     else none
    | none=>none
   | _=>none
  else none
 | _,_=>none
theorem rM{v:Value}{n y:Nat}{c:BoundsCode}{w:World}{k:IntKind}(hv:v=.int k n)(h:n≤y): (Instr.sliceBound v y c).run P w=.ok n w:=by subst hv;simp [Instr.sliceBound,asIntOf,h]
theorem yP{len cap l h:Nat}{lo hi:Option Value}{w:World}(hl:(lo=none∧l=0)∨∃k,lo=some (.int k l))(hh:(hi=none∧h=len)∨∃k,hi=some (.int k h))(h1:l≤h)(h2:h≤cap):
  (Instr.sliceBounds true len cap lo hi none).run P w=.ok (l,h,cap) w:=by
 unfold Instr.sliceBounds;rcases hh with ⟨rfl,rfl⟩ | ⟨k,rfl⟩ <;> rcases hl with ⟨rfl,rfl⟩ | ⟨k',rfl⟩ <;> simp [rM (P:=P) rfl h2,rM (P:=P) rfl h1]
theorem LC{x x':Option Value}{d n:Nat}(h:OR α x x')(e:UC x d=some n): (x'=none∧n=d)∨∃k,x'=some (.int k n):=by
 rcases h with ⟨rfl,rfl⟩ | ⟨v,v',rfl,rfl,hv⟩
 ·cases e;exact .inl ⟨rfl,rfl⟩
 cases hv with
 | int k i=>
  cases i with
  | ofNat j=>cases e;exact .inr ⟨k,rfl⟩
  | negSucc j=>cases e
 | _=>cases e
theorem wF{t:TypeId}{x x' v:Value}{lo lo' hi hi' mx mx':Option Value}{w:World}(hx:VR α x x')(hl:OR α lo lo')(hh:OR α hi hi')(hm:OR α mx mx')
  (h:FQ P t x lo hi mx=some v):∃v',VR α v v'∧(Instr.sliceAt t x' lo' hi' mx').run P w=.ok v' w:=by
 unfold FQ at h;split at h;case h_2=>cases h
 rename_i b off len cap;have h0:=dE h;clear h;obtain⟨hG,h⟩:=h0;have hG:=Nat.le_of_ble_eq_true hG;have hmx:mx'=none:=by rcases hm with ⟨_,rfl⟩ | ⟨_,_,h,_⟩ <;> first | rfl | cases h
 subst hmx;split at h;case h_2=>cases h
 rename_i elem ht;split at h;case h_2=>cases h
 rename_i i hi2;have h0:=dE h;clear h;obtain⟨hes,h⟩:=h0;have hes:=Nat.eq_of_beq_eq_true hes;split at h;case h_2=>cases h
 rename_i l hbl;split at h;case h_2=>cases h
 rename_i u hbh;have h0:=dE h;clear h;obtain⟨hc,h⟩:=h0;cases h;simp only [Bool.and_eq_true,Nat.ble_eq]at hc;obtain⟨h1,h2⟩:=hc;have hL:=LC hl hbl;have hU:=LC hh hbh;have run:∀(a:Addr) (cap':Nat),len≤cap'→(Instr.sliceAt t (.slice (some a) len cap') lo' hi' none).run P w=.ok (.slice (some (if cap'=l then a else a.add (l*i.size))) (u - l) (cap' - l)) w:=by intro a cap' hcap;have hb:=yP (P:=P) (w:=w) (len:=len) (cap:=cap') hL hU h1 (by omega);unfold Instr.sliceAt;simp only [Sem.run_bind,run_underlying ht,Result.andThen];unfold Instr.slice;simp [run_underlying ht,hb,sizeOf,typeInfo,hi2];split <;> rfl
 cases hx with
 | sliceX hb hc=>exact absurd hc (by omega)
 | @sliceG _ _ _ cap' es L hb hlc htot=>
  have hes':es=i.size:=by omega
  subst hes';refine⟨_,?_,run ⟨L.blk,L.sh+off,none⟩ cap' hlc⟩;by_cases e:cap'=l
  ·have e1:u - l=0:=(by omega);have e2:cap' - l=0:=(by omega);rw [if_pos e,e1,e2];exact .sliceE hb
  rw [if_neg e,jR];have hv:=VR.sliceG (α:=α) (off:=off+l*i.size) (len:=u - l) (cap:=cap' - l) (es:=i.size) hb (by omega) (by
   have e3:l*i.size+i.size*(cap' - l)=i.size*cap':=(by rw [Nat.mul_comm l,←Nat.mul_add,Nat.add_sub_cancel' (by omega)]);omega)
  rw [show L.sh+(off+l*i.size)=L.sh+off+l*i.size from by omega]at hv;exact hv
 | @sliceE _ _ es a L hb=>
  have e1:l=0:=by omega
  have e2:u=0:=by omega
  subst e1 e2;refine⟨_,?_,run a 0 (Nat.le_refl _)⟩;simp only [if_true];exact .sliceE hb
def zI:List Value→Option (List UInt8)
 | []=>some []
 | .int .u8 n :: l=>match zI l with
  | some bs=>some (UInt8.ofNat n.toNat :: bs)
  | none=>none
 | _=>none
theorem yu:∀{l l':List Value} {bs:List UInt8},F2 (VR α) l l'→zI l=some bs→∃ns:List Int,l'=ns.map (Value.int .u8)∧bs=ns.map fun n=>UInt8.ofNat n.toNat
 | _,_,_,.nil,h=>by cases h;exact⟨[],rfl,rfl⟩
 | _,_,bs,@F2.cons _ _ _ a b l l' hab k,h=>by
  unfold zI at h;split at h
  ·cases ‹_ :: _=[]›
  ·rename_i n l2 e;cases e;split at h
   ·rename_i bs2 hb;cases h;obtain⟨ns,rfl,rfl⟩:=yu k hb;cases hab;exact⟨n :: ns,rfl,rfl⟩
   cases h
  cases h
theorem Bl:∀(ns:List Int) (s:ByteArray),ns.foldl (fun r n=>r.push (UInt8.ofNat n.toNat)) s=⟨s.data ++ (ns.map fun n=>UInt8.ofNat n.toNat).toArray⟩
 | [],s=>by simp
 | n :: ns,s=>by rw [List.foldl_cons,Bl ns];congr 1;apply Array.ext';simp [ByteArray.push]
def O9(P:Program)(s d:TypeId)(x:Value)(m:dJ): Option (Value×dJ):=
 match P.underlying s,P.underlying d with
 | some (.slice e),some .string=>(match P.underlying e with
  | some (.int .u8)=>(match x with
   | .slice (some ⟨b,off,none⟩) len _=>match loadN m b off len with
    | some l=>match zI l with
     | some bs=>some (.string ⟨⟨bs⟩⟩,m)
     | none=>none
    | none=>none
   | _=>none)
  | _=>none)
 | _,_=>none
theorem FZ{s d:TypeId}{x x' v:Value}{m m1:dJ}{w:World}(hr:lL P α m w)(hx:VR α x x')(h:O9 P s d x m=some (v,m1)):
  ∃v',VR α v v'∧m1=m∧(convert s d x').run P w=.ok v' w:=by
 unfold O9 at h;split at h;case h_2=>cases h
 rename_i e hs hd;split at h;case h_2=>cases h
 rename_i he;split at h;case h_2=>cases h
 rename_i b off len cap;split at h;case h_2=>cases h
 rename_i l hl;split at h;case h_2=>cases h
 rename_i bs hb;cases h;have fin:∀(a:Addr) (cap':Nat) (l':List Value),F2 (VR α) l l'→(loadCells a len).run P w=.ok l'.toArray w→(convert s d (.slice (some a) len cap')).run P w=.ok (.string ⟨⟨bs⟩⟩) w:=by intro a cap' l' hf hrun;obtain⟨ns,rfl,rfl⟩:=yu hf hb;rw [run_convert_bytes_string w s d e _ _ _ hs he hd,run_bytesToString w a len cap' ns hrun,Bl];simp
 have cells:∀{L:pY},α b=some L→∃l',F2 (VR α) l l'∧(loadCells ⟨L.blk,L.sh+off,none⟩ len).run P w=.ok l'.toArray w:=by
  intro L hL;obtain⟨l',h1,h2,h3,h4⟩:=hr.loadN hL _ _ _ hl;refine⟨l',h3,?_⟩;have:=run_firstCells_some (P:=P) w 1 len ⟨L.blk,L.sh+off,none⟩ len 0 l' (by omega) fun j v hv=>by rw [jR];exact h4 j v hv
  simpa [Builtin.firstCells]using this
 cases hx with
 | sliceX hL hc=>obtain⟨l',h1,h2⟩:=cells hL;exact⟨_,.string _,rfl,fin _ _ l' h1 h2⟩
 | sliceG hL hc ht=>obtain⟨l',h1,h2⟩:=cells hL;exact⟨_,.string _,rfl,fin _ _ l' h1 h2⟩
 | sliceE hL=>
  simp only [Den.loadN]at hl;cases hl;exact⟨_,.string _,rfl,fin _ _ [] .nil rfl⟩
end
end
section
noncomputable section
variable {P:Program} {α:AM}
def qE(d:TypeDesc)(cst:Bool)(x y:Value): Option Bool:=
 match d,x,y with
 | .pointer _,.pointer none,.pointer b=>some b.isNone
 | .pointer _,.pointer (some _),.pointer none=>some false
 | .slice _,.slice none _ _,.slice b _ _=>some b.isNone
 | .slice _,.slice (some _) _ _,.slice none _ _=>some false
 | .map _ _,.map none,.map b=>some b.isNone
 | .map _ _,.map (some _),.map none=>some false
 | .func _ _ _,.nilFunc,.nilFunc=>some true
 | .func _ _ _,.nilFunc,.func _ _ _=>some false
 | .func _ _ _,.func _ _ _,.nilFunc=>some false
 | .interface _,.nilIface,.iface _ _=>some false
 | .interface _,.iface _ _,.nilIface=>some false
 | .interface _,.nilIface,.nilIface=>bif cst then some true else none
 | _,_,_=>none
theorem Dh{d:TypeDesc}{cst:Bool}{x x' y y':Value}{r:Bool}(hx:VR α x x')(hy:VR α y y')(h:qE d cst x y=some r): qE d cst x' y'=some r:=by cases d <;> cases hx <;> first | (simp [qE]at h;done) | (cases hy <;> first | exact h | (simp [qE]at h;done))
theorem O5{d:TypeDesc}{cst:Bool}{x y:Value}{r:Bool}{t:TypeId}{n:Nat}{w:World}(ht:P.underlying t=some d)(h:qE d cst x y=some r): (Op.equalIn (n+1) t x y).run P w=.ok r w:=by
 unfold Op.equalIn;rw [Sem.run_bind,run_underlying ht];unfold qE at h;split at h;case h_12=>
  cases cst with
  | false=>cases h
  | true=>cases h;rfl
 case h_13=>cases h
 all_goals (cases h;rfl)
theorem Dk{d:TypeDesc}{cst:Bool}{op:BinOp}{x y:Value}{r:Bool}{t:TypeId}{ox oy:Operand}{w:World}(hop:op=.eql∨op=.neq)(hc:cst=true→(∃v,ox=.const v)∨∃v,oy=.const v)(h:qE d cst x y=some r):
  (eqGuard op t ox oy x y).run P w=.ok () w:=by
 unfold qE at h;split at h;case h_12=>
  cases cst with
  | false=>cases h
  | true=>
   rcases hop with rfl | rfl <;> rcases hc rfl with ⟨v,rfl⟩ | ⟨v,rfl⟩ <;> first | rfl | (cases ox <;> rfl)
 case h_13=>cases h
 all_goals (rcases hop with rfl | rfl <;> rfl)
theorem Nr {d : TypeDesc} {cst : Bool} {x y : Value} {r : Bool} {t : TypeId} {w : World} (ht : P.underlying t = some d) (h : qE d cst x y = some r) :
    (binOp .eql t x y).run P w = .ok (.bool r) w ∧ (binOp .neq t x y).run P w = .ok (.bool (!r)) w := by
  have he : (Op.equal t x y).run P w = .ok r w := O5 (n := 9999) ht h
  have e1 : binOp .eql t x y = (do pure (.bool (← Op.equal t x y))) ∧ binOp .neq t x y = (do pure (.bool (!(← Op.equal t x y)))) := by
    unfold qE at h
    split at h
    case h_13 => cases h
    all_goals exact ⟨rfl, rfl⟩
  rw [e1.1, e1.2]
  constructor <;> (rw [Sem.run_bind, he]; rfl)
theorem DV {d : TypeDesc} {cst : Bool} {x y : Value} {r : Bool} {t : TypeId} {ox oy : Operand} {w : World} (ht : P.underlying t = some d) (hc : cst = true → (∃ v, ox = .const v) ∨ ∃ v, oy = .const v) (h : qE d cst x y = some r) :
    (do eqGuard .eql t ox oy x y; binOp .eql t x y).run P w = .ok (.bool r) w ∧ (do eqGuard .neq t ox oy x y; binOp .neq t x y).run P w = .ok (.bool (!r)) w := by
  have g1 := Dk (P := P) (w := w) (op := .eql) (t := t) (.inl rfl) hc h
  have g2 := Dk (P := P) (w := w) (op := .neq) (t := t) (.inr rfl) hc h
  have hb := Nr (w := w) ht h
  constructor
  · rw [Sem.run_bind, g1]; exact hb.1
  · rw [Sem.run_bind, g2]; exact hb.2
def TP(P:Program)(op:BinOp)(t:TypeId)(cst:Bool)(x y:Value): Option Value:=
 match P.underlying t with
 | some d=>match qE d cst x y with
  | some r=>match op with
   | .eql=>some (.bool r)
   | .neq=>some (.bool (!r))
   | _=>none
  | none=>none
 | none=>none
def zF:Operand→Bool
 | .const _=>true
 | _=>false
def Gz(E:eX)(o:Op): Bool:=
 (match o with
 | .binOp .. | .unOp .. | .convert ..=>true
 | .call c=>(match c.callee with | .builtin .max | .builtin .min=>true | _=>false)
 | _=>false) && o.operands.toList.all fun x=>ig (ev E x)
def N8(s:Sem Value): Sem Next:=do pure (.value (←s))
def WR(s:Sem Unit): Sem Next:=do s;pure .skip
def Vt(E:eX)(c a b:Operand): Sem Next:=do pure (.value (if ←asBool (ev E c) then ev E a else ev E b))
def RQ(t:TypeId): Sem Next:=N8 (Instr.alloc t true (.tuple #[]))
def Wp(E:eX)(t:TypeId)(x:Operand): Sem Next:=N8 (Instr.box t (ev E x))
def ja(E:eX)(parts:Array (Nat×Operand)): Array (Nat×Value):=parts.map fun (i,x)=>(i,ev E x)
def KN(E:eX)(t:TypeId)(parts:Array (Nat×Operand)): Sem Next:=N8 (Instr.build t (ja E parts))
def Ep(E:eX)(t:TypeId)(len:Nat)(parts:Array (Nat×Operand)): Sem Next:=N8 (Instr.buildSlice t len (ja E parts))
def Vm(E:eX)(t:TypeId)(a:Operand): Sem Next:=N8 (Instr.loadAt t (ev E a))
def Si(E:eX)(t:TypeId)(a x:Operand): Sem Next:=WR (Instr.storeAt t (ev E a) (ev E x))
def VX (E : eX) (op : BinOp) (t : TypeId) (x y : Operand) : Sem Next := N8 (do eqGuard op t x y (ev E x) (ev E y); binOp op t (ev E x) (ev E y))
def Ht(E:eX)(t:TypeId)(x:Operand)(f:Nat): Sem Next:=N8 (Instr.fieldAt t (ev E x) f)
def Td(E:eX)(t:TypeId)(x:Operand)(f:Nat): Sem Next:=N8 (Instr.field t (ev E x) f)
def Iq(E:eX)(t:TypeId)(x i:Operand): Sem Next:=N8 (Instr.indexAt t (ev E x) (ev E i))
def SQ(E:eX)(t:TypeId)(x i:Operand): Sem Next:=N8 (Instr.index t (ev E x) (ev E i))
def MG(E:eX)(x:Operand)(i:Nat): Sem Next:=N8 (Instr.extract (ev E x) i)
def BO(E:eX)(o:Oper): Sem Next:=
 match o.op with
 | .move x=>.pure (.value (ev E x))
 | .assign x=>.pure (.value (ev E x))
 | .pick c a b=>Vt E c a b
 | .alloc t=>RQ t
 | .box t x=>Wp E t x
 | .build t parts=>KN E t parts
 | .buildSlice t len parts=>Ep E t len parts
 | .load t a=>Vm E t a
 | .store t a x=>Si E t a x
 | .binOp op t x y _=>VX E op t x y
 | .fieldAddr t x f=>Ht E t x f
 | .field t x f=>Td E t x f
 | .indexAddr t x i=>Iq E t x i
 | .index t x i=>SQ E t x i
 | .extract x i=>MG E x i
 | _=>execOp (ev E) o
theorem pR(E:eX)(o:Oper): BO E o=execOp (ev E) o:=by obtain⟨dst,op,ty,pos,af,g⟩:=o;cases op <;> rfl
def Wi(P:Program)(E:eX)(o:Oper)(m:dJ): Option (Next×dJ):=
 match o.op with
 | .call c=>(match c.callee with
  | .builtin .append=>(match c.args with
   | ⟨[x,y]⟩=>(match FO P c.argTypes (ev E x) (ev E y) m with
    | some (v,m)=>some (.value v,m)
    | none=>none)
   | _=>none)
  | .value f=>(match ev E f with
   | .func (.func g) first cap=>(match P.funcs[g]? with
    | some fn=>bif fn.body.isSome then some (.enter g (first ++ c.args.map (ev E) ++ cap),m) else none
    | none=>none)
   | _=>none)
  | _=>none)
 | .slice t x lo hi mx=>(match FQ P t (ev E x) (lo.map (ev E)) (hi.map (ev E)) (mx.map (ev E))with
  | some v=>some (.value v,m)
  | none=>none)
 | .convert s d x=>(match O9 P s d (ev E x) m with
  | some (v,m)=>some (.value v,m)
  | none=>none)
 | .binOp op t x y _=>(match TP P op t (zF x || zF y) (ev E x) (ev E y)with
  | some v=>some (.value v,m)
  | none=>none)
 | _=>none
def Rz(P:Program)(E:eX)(o:Oper)(m:dJ): Option (Next×dJ):=
 bif o.op.operands.toList.all (jM E) then
  bif lI E o.op then dO P (BO E o) m
  else bif Gz E o.op then
   match gq P (BO E o)with
   | some (.value v)=>bif ig v then some (.value v,m) else none
   | _=>none
  else Wi P E o m
 else none
def uI(P:Program): Prop:=∀(f:FuncId) (fn:Func),P.funcs[f]?=some fn→(fn.name == "runtime.NumGoroutine")=false
theorem xR (hz : jc P) (hn : uI P) {E : eX} {a : Act} {m m1 : dJ} {w : World} {o : Oper} {nx : Next} (hr : lL P α m w) (hE : ∀ x ∈ o.op.operands, jM E x = true → VR α (ev E x) (a.eval x)) (hT : QY P o.op = true) (h : Rz P E o m = some (nx, m1)) :
    ∃ β nx' w1, NR β nx nx' ∧ nY P α m w β m1 w1 ∧ (execOp a.eval o).run P w = .ok nx' w1 := by
  unfold Rz at h
  rw [pR] at h
  have h0 := dE h
  clear h
  obtain ⟨hok0, h⟩ := h0
  have hok : ∀ x ∈ o.op.operands, jM E x = true := fun x hx => List.all_eq_true.1 hok0 x (by simpa using hx)
  clear hok0
  cases hs : lI E o.op with
  | true =>
    rw [hs, cond_true] at h
    exact Tz (sG hz (fun x hx => hE x hx (hok x hx)) hs hT) m w nx m1 hr h
  | false =>
  rw [hs, cond_false] at h
  cases hg : Gz E o.op with
  | true =>
    rw [hg, cond_true] at h
    simp only [Gz, Bool.and_eq_true] at hg
    have hgr : ∀ x ∈ o.op.operands, a.eval x = ev E x := fun x hx => VR.eq (List.all_eq_true.1 hg.2 x (by simpa using hx)) (hE x hx (hok x hx))
    split at h
    case h_2 => cases h
    rename_i v hv
    have h0 := dE h
    clear h
    obtain ⟨hgv, h⟩ := h0
    cases h
    refine ⟨α, .value v, w, .value (VR.refl hgv), .refl hr, ?_⟩
    have hc : execOp a.eval o = execOp (ev E) o := execOp_congr o (fun cs b e => by rw [e] at hg; simp at hg) hgr
    rw [hc]
    exact wJ _ w hv
  | false =>
  rw [hg, cond_false] at h
  obtain ⟨dst, op, type, pos, after, guard⟩ := o
  have one : ∀ {x : Operand}, x ∈ op.operands → VR α (ev E x) (a.eval x) := fun hx => hE _ hx (hok _ hx)
  unfold Wi at h
  split at h
  · rename_i c hc
    simp only at hc
    subst hc
    obtain ⟨callee, args, ats⟩ := c
    simp only at h
    split at h
    · split at h
      · rename_i x y
        split at h
        · rename_i v m' hap
          cases h
          obtain ⟨β, v', w1, r1, r2, r3⟩ := Ce (ty := type) hr (one (x := x) (by simp [Op.operands, Call.operands])) (one (x := y) (by simp [Op.operands, Call.operands])) hap
          refine ⟨β, .value v', w1, .value r1, r2, ?_⟩
          rw [iH, EY a.eval]
          show ((Builtin.append_ ats type #[a.eval x, a.eval y]) >>= fun v => pure (Next.value v)).run P w = _
          rw [Sem.run_bind, r3]; rfl
        · cases h
      · cases h
    · rename_i f
      split at h
      · rename_i g first cap hf
        split at h
        · rename_i fn hfn
          have h0 := dE h
          clear h
          obtain ⟨hb, h⟩ := h0
          cases h
          have hv := one (x := f) (by simp [Op.operands, Call.operands])
          have hargs := BB (E := E) (a := a) (xs := args) fun x hx => one (x := x) (by simp [Op.operands, Call.operands, hx])
          rw [hf] at hv
          generalize hu : a.eval f = u at hv
          cases hv with
          | @func _ first first' cap cap' hx hy h1 h2 =>
            refine ⟨α, .enter g (first' ++ args.map a.eval ++ cap'), w, .enter ((kN.append ⟨hx, h1⟩ hargs).append ⟨hy, h2⟩), .refl hr, ?_⟩
            have hbn : ¬ fn.body = none := by intro hh; rw [hh] at hb; cases hb
            have hname : ¬ fn.name = "runtime.NumGoroutine" := by have := hn g fn hfn; simpa using this
            simp [execOp, resolve, Deferred.ofValue, hu, invoke, callFunc, program, Sem.run, hfn, hname, hbn]
        · cases h
      · cases h
    · cases h
  · rename_i t x lo hi mx hc
    simp only at hc
    subst hc
    split at h
    · rename_i v hv
      cases h
      have hl := mV (E := E) (a := a) (x := lo) (by intro y e; subst e; exact one (x := y) (by simp [Op.operands]))
      have hh := mV (E := E) (a := a) (x := hi) (by intro y e; subst e; exact one (x := y) (by simp [Op.operands]))
      have hm := mV (E := E) (a := a) (x := mx) (by intro y e; subst e; exact one (x := y) (by simp [Op.operands]))
      obtain ⟨v', r1, r2⟩ := wF (w := w) (one (x := x) (by simp [Op.operands])) hl hh hm hv
      refine ⟨α, .value v', w, .value r1, .refl hr, ?_⟩
      show ((Instr.sliceAt t (a.eval x) (lo.map a.eval) (hi.map a.eval) (mx.map a.eval)) >>= fun v => pure (Next.value v)).run P w = _
      rw [Sem.run_bind, r2]; rfl
    · cases h
  · rename_i s d x hc
    simp only at hc
    subst hc
    split at h
    · rename_i v m' hv
      cases h
      obtain ⟨v', r1, rfl, r2⟩ := FZ hr (one (x := x) (by simp [Op.operands])) hv
      refine ⟨α, .value v', w, .value r1, .refl hr, ?_⟩
      show ((convert s d (a.eval x)) >>= fun v => pure (Next.value v)).run P w = _
      rw [Sem.run_bind, r2]; rfl
    · cases h
  · rename_i bop t x y yt hc
    simp only at hc
    subst hc
    split at h
    · rename_i v hv
      cases h
      unfold TP at hv
      split at hv
      case h_2 => cases hv
      rename_i d hd
      split at hv
      case h_2 => cases hv
      rename_i r hnil
      have hx := one (x := x) (by simp [Op.operands])
      have hy := one (x := y) (by simp [Op.operands])
      have hrun := DV (P := P) (w := w) (ox := x) (oy := y) hd (by
        intro hcst
        simp only [Bool.or_eq_true] at hcst
        rcases hcst with hcst | hcst
        · cases x <;> first | exact .inl ⟨_, rfl⟩ | cases hcst
        · cases y <;> first | exact .inr ⟨_, rfl⟩ | cases hcst) (Dh hx hy hnil)
      split at hv
      · cases hv
        refine ⟨α, .value (.bool r), w, .value (.bool _), .refl hr, ?_⟩
        show ((do eqGuard .eql t x y (a.eval x) (a.eval y); binOp .eql t (a.eval x) (a.eval y)) >>= fun v => pure (Next.value v)).run P w = _
        rw [Sem.run_bind, hrun.1]; rfl
      · cases hv
        refine ⟨α, .value (.bool (!r)), w, .value (.bool _), .refl hr, ?_⟩
        show ((do eqGuard .neq t x y (a.eval x) (a.eval y); binOp .neq t (a.eval x) (a.eval y)) >>= fun v => pure (Next.value v)).run P w = _
        rw [Sem.run_bind, hrun.2]; rfl
      · cases hv
    · cases h
  · cases h
end
end
section
noncomputable section
variable {P:Program}
def Cc{R:Type}(E:eX)(x:Operand)(c:Value→Option R): Option R:=
 match x with
 | .tmp t=>(match E with | ⟨tr,n⟩=>Bool.casesOn (Nat.blt t n) none (match tr.get t with | some v=>c v | none=>c undef))
 | .const v=>Bool.casesOn (ig v) none (c v)
 | _=>none
theorem gu{R:Type}{E:eX}{x:Operand}{c:Value→Option R}{r:R}(h:Cc E x c=some r): jM E x=true∧c (ev E x)=some r:=by
 obtain⟨tr,n⟩:=E;cases x with
 | tmp t=>
  unfold Cc at h;simp only at h;unfold jM ev eX.get;simp only;cases hb:Nat.blt t n with
  | false=>rw [hb]at h;cases h
  | true=>
   rw [hb]at h;refine⟨rfl,?_⟩;simp only at h;cases hg:tr.get t with
   | none=>rw [hg]at h;exact h
   | some v=>rw [hg]at h;exact h
 | const v=>
  unfold Cc at h;simp only at h;unfold jM ev;simp only;cases hb:ig v with
  | false=>rw [hb]at h;cases h
  | true=>rw [hb]at h;exact⟨rfl,h⟩
 | _=>cases h
abbrev CE:=Option (Next×dJ)
def UB(E:eX)(m:dJ)(x:Operand): CE:=Cc E x fun v=>some (.value v,m)
def VZ(E:eX)(m:dJ)(c a b:Operand): CE:=Cc E c fun vc=>Cc E a fun va=>Cc E b fun vb=>match vc with
 | .bool k=>some (.value (Bool.casesOn k vb va),m)
 | _=>none
def Q3(E:eX)(m:dJ)(x:Operand)(i:Nat): CE:=Cc E x fun v=>match v with
 | .tuple ⟨l⟩=>(match l[i]? with | some u=>some (.value u,m) | none=>none)
 | _=>none
def Lm(P:Program)(s:TypeId)(f:Nat): Option Nat:=
 match P.underlying s with
 | some (.struct fields)=>(match fields[f]? with
  | some x=>(match gq P (sizeOf x.type)with
   | some (_+1)=>some x.offset
   | _=>none)
  | none=>none)
 | _=>none
def I7(P:Program)(E:eX)(m:dJ)(s:TypeId)(x:Operand)(f:Nat): CE:=Cc E x fun v=>match v with
 | .pointer (some ⟨b,off,none⟩)=>(match Lm P s f with
  | some k=>some (.value (.pointer (some ⟨b,off+k,none⟩)),m)
  | none=>none)
 | _=>none
def FY(P:Program)(t:TypeId): Bool:=match gq P (isAgg t)with | some false=>true | _=>false
def Ws(P:Program)(E:eX)(m:dJ)(t:TypeId)(x:Operand): CE:=Cc E x fun v=>match v with
 | .pointer (some a)=>Bool.casesOn (FY P t) none (match m.cell a with | some u=>some (.value u,m) | none=>none)
 | _=>none
def VI(m:dJ)(op:BinOp)(x y:Int): CE:=
 match op with
 | .eql=>some (.value (.bool (x == y)),m)
 | .neq=>some (.value (.bool (x != y)),m)
 | .lss=>some (.value (.bool (x<y)),m)
 | .leq=>some (.value (.bool (x≤y)),m)
 | .gtr=>some (.value (.bool (x > y)),m)
 | .geq=>some (.value (.bool (x≥y)),m)
 | _=>none
def WM(E:eX)(m:dJ)(op:BinOp)(x y:Operand): CE:=Cc E x fun u=>Cc E y fun v=>match u with
 | .int k a=>(match v with
  | .int l b=>Bool.casesOn (Nat.beq k.ctorIdx l.ctorIdx) none (match op with
   | .add=>some (.value (.int k (k.wrap (a+b))),m)
   | .sub=>some (.value (.int k (k.wrap (a - b))),m)
   | .mul=>some (.value (.int k (k.wrap (a*b))),m)
   | op=>VI m op a b)
  | _=>none)
 | _=>none
def WF(P:Program)(E:eX)(m:dJ)(o:Op): CE:=
 match o with
 | .move x=>UB E m x
 | .assign x=>UB E m x
 | .pick c a b=>VZ E m c a b
 | .extract x i=>Q3 E m x i
 | .fieldAddr s x f=>I7 P E m s x f
 | .load t x=>Ws P E m t x
 | .binOp op _ x y _=>WM E m op x y
 | _=>none
theorem xZ{A:Type}: ∀(s:Sem A) (m:dJ) {a:A},gq P s=some a→dO P s m=some (a,m)
 | .pure _,_,_,h=>by cases h;rfl
 | .program k,m,_,h=>xZ (k P) m h
 | .mark _ k,m,_,h=>xZ k m h
 | .load ..,_,_,h=>by cases h
 | .store ..,_,_,h=>by cases h
 | .new ..,_,_,h=>by cases h
 | .shape ..,_,_,h=>by cases h
 | .freeze ..,_,_,h=>by cases h
 | .frozen ..,_,_,h=>by cases h
 | .getObj ..,_,_,h=>by cases h
 | .setObj ..,_,_,h=>by cases h
 | .choose ..,_,_,h=>by cases h
 | .sys ..,_,_,h=>by cases h
 | .halt _,_,_,h=>by cases h
theorem dH{A C:Type}{s:Sem A}{a:A}(f:A→Sem C)(m:dJ)(h:gq P s=some a): dO P (s >>= f) m=dO P (f a) m:=by show dO P (s.bind f) m=_;rw [gz,xZ s m h];rfl
theorem Ua{E:eX}{o:Oper}{m:dJ}{r:Next×dJ}(h:WF P E m o.op=some r): Rz P E o m=some r:=by
 unfold Rz;rw [pR];obtain⟨d,op,t,p,af,g⟩:=o;simp only at h ⊢;cases op with
 | move x=>
  obtain⟨h1,h2⟩:=gu h;have e:(Op.move x).operands.toList.all (jM E)=true:=by simp [Op.operands,h1]
  rw [e];exact h2
 | assign x=>
  obtain⟨h1,h2⟩:=gu h;have e:(Op.assign x).operands.toList.all (jM E)=true:=by simp [Op.operands,h1]
  rw [e];exact h2
 | pick c a b=>
  obtain⟨h1,h2⟩:=gu h;obtain⟨h3,h4⟩:=gu h2;obtain⟨h5,h6⟩:=gu h4;have e:(Op.pick c a b).operands.toList.all (jM E)=true:=by simp [Op.operands,h1,h3,h5]
  rw [e];simp only [cond_true,lI,execOp];split at h6
  ·rename_i k hk;rw [hk];cases k <;> exact h6
  cases h6
 | extract x i=>
  obtain⟨h1,h2⟩:=gu h;have e:(Op.extract x i).operands.toList.all (jM E)=true:=by simp [Op.operands,h1]
  rw [e];simp only [cond_true,lI,execOp];split at h2
  ·rename_i l hl;rw [hl];have hx:(⟨l⟩:Array Value)[i]?=l[i]?:=(by simp);unfold Instr.extract;simp only;rw [hx];cases hu:l[i]? with
   | none=>rw [hu]at h2;cases h2
   | some u=>rw [hu]at h2;exact h2
  cases h2
 | fieldAddr st x f=>
  obtain⟨h1,h2⟩:=gu h;have e:(Op.fieldAddr st x f).operands.toList.all (jM E)=true:=by simp [Op.operands,h1]
  rw [e];simp only [cond_true,lI,execOp];split at h2
  ·rename_i b off hv;rw [hv];unfold Lm at h2;split at h2
   ·rename_i k hk;split at hk
    ·rename_i fields hf;split at hk
     ·rename_i fx hx;split at hk
      ·rename_i sz hz;cases hk;have hun:gq P (underlying st)=some (.struct fields):=(by have:gq P (underlying st)=gq P (match P.underlying st with | some d=>(pure d:Sem TypeDesc) | none=>stuck "no such type"):=rfl;rw [this,hf];rfl);have main:dO P (Instr.fieldAt st (.pointer (some ⟨b,off,none⟩)) f) m=some (.pointer (some ⟨b,off+fx.offset,none⟩),m):=(by unfold Instr.fieldAt;rw [dH _ _ hun];simp only [hx];show dO P (fieldPlace ⟨b,off,none⟩ fx >>= _) m=_;have hp:dO P (fieldPlace ⟨b,off,none⟩ fx) m=some (⟨b,off+fx.offset,none⟩,m):=(by unfold fieldPlace;rw [dH _ _ hz,if_neg (Nat.succ_ne_zero _)];show some (Addr.add ⟨b,off,none⟩ fx.offset,m)=_;simp [Addr.add]);show dO P ((fieldPlace ⟨b,off,none⟩ fx).bind _) m=_;rw [gz,hp];rfl);show dO P ((Instr.fieldAt st (.pointer (some ⟨b,off,none⟩)) f).bind _) m=_;rw [gz,main];cases h2;rfl
      cases hk
     cases hk
    cases hk
   cases h2
  cases h2
 | load t x=>
  obtain⟨h1,h2⟩:=gu h;have e:(Op.load t x).operands.toList.all (jM E)=true:=by simp [Op.operands,h1]
  rw [e];simp only [cond_true,lI,execOp];split at h2
  ·rename_i a hv;rw [hv];cases ho:FY P t with
   | false=>rw [ho]at h2;cases h2
   | true=>
    rw [ho]at h2;simp only at h2;have ha:gq P (isAgg t)=some false:=by
     unfold FY at ho;split at ho
     ·assumption
     cases ho
    cases hc:m.cell a with
    | none=>rw [hc]at h2;cases h2
    | some u=>
     rw [hc]at h2;cases h2;have main:dO P (Instr.loadAt t (.pointer (some a))) m=some (u,m):=(by show dO P (isAgg t >>= _) m=_;rw [dH _ _ ha];show dO P (load a) m=_;simp only [load,dO,hc]);show dO P ((Instr.loadAt t (.pointer (some a))).bind _) m=_;rw [gz,main];rfl
  cases h2
 | binOp op t x y z=>
  obtain⟨h1,h2⟩:=gu h;obtain⟨h3,h4⟩:=gu h2;have e:(Op.binOp op t x y z).operands.toList.all (jM E)=true:=by simp [Op.operands,h1,h3]
  rw [e];split at h4
  ·rename_i k a hu;split at h4
   ·rename_i l b hv;have hg:Gz E (.binOp op t x y z)=true:=(by simp [Gz,Op.operands,hu,hv,ig,kM,jI]);have hs:lI E (.binOp op t x y z)=false:=rfl;simp only [cond_true,hs,cond_false,hg,execOp,hu,hv];have hk:k=l:=by
     cases hb:Nat.beq k.ctorIdx l.ctorIdx with
     | false=>rw [hb]at h4;cases h4
     | true=>cases k <;> cases l <;> first | rfl | cases hb
    subst hk;rw [Nat.beq_refl]at h4;simp only at h4;cases op <;> first
     | (cases h4;simp [eqGuard,binOp,Op.intArith,Op.intCmp,gq,ig,kM,jI,bind,Sem.bind,pure];done)
     | (simp [VI]at h4;done)
     | (simp only [VI,Option.some.injEq]at h4;cases h4;simp [eqGuard,binOp,Op.intArith,Op.intCmp,gq,ig,kM,jI,bind,Sem.bind,pure];done)
     | skip
   cases h4
  cases h4
 | _=>cases h
end
end
end Go.Den
