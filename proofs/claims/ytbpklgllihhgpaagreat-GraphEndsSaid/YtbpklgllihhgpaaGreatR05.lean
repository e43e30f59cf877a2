import Derived.Test.YtbpklgllihhgpaaGreatR04
set_option maxRecDepth 100000
set_option maxHeartbeats 16000000
namespace Go.Den
section
noncomputable section
variable {P:Program}
def ldrop{A:Type}(l:List A): Nat→List A:=List.rec (fun _=>[]) (fun a l ih k=>Nat.casesOn k (a :: l) ih) l
theorem ldrop_eq{A:Type}: ∀(l:List A) (k:Nat),ldrop l k=l.drop k
 | [],k=>by cases k <;> rfl
 | _ :: _,0=>rfl
 | _ :: l,k+1=>ldrop_eq l k
def ltakeK{A B:Type}(l:List A): Nat→(List A→B)→B→B:=
 List.rec (fun n c d=>Nat.casesOn n (c []) fun _=>d) (fun a _ ih n c d=>Nat.casesOn n (c []) fun n=>ih n (fun r=>c (a :: r)) d) l
theorem ltakeK_eq{A B:Type}: ∀(l:List A) (n:Nat) (c:List A→B) (d:B),ltakeK l n c d=if n≤l.length then c (l.take n) else d
 | [],0,_,_=>rfl
 | [],_+1,_,_=>rfl
 | _ :: _,0,_,_=>by simp;rfl
 | a :: l,n+1,c,d=>by show ltakeK l n (fun r=>c (a :: r)) d=_;rw [ltakeK_eq l n];simp
def lsplK{A B:Type}(l:List A): Nat→List A→(List A→B)→B→B:=
 List.rec (fun _ cs c d=>List.casesOn cs (c []) fun _ _=>d)
  (fun a l ih k cs c d=>Nat.casesOn k (List.casesOn cs (c (a :: l)) fun x cs=>ih 0 cs (fun r=>c (x :: r)) d) fun k=>ih k cs (fun r=>c (a :: r)) d) l
theorem lsplK_some{A B:Type}: ∀(l:List A) (k:Nat) (cs:List A) (c:List A→Option B) (x:B),lsplK l k cs c none=some x→
  ∃r,c r=some x∧r.length=l.length∧∀i,r[i]?=if k≤i∧i<k+cs.length then cs[i - k]? else l[i]?
 | [],k,[],c,x,h=>⟨[],h,rfl,fun i=>by rw [if_neg (by simp)]⟩
 | [],_,_ :: _,_,_,h=>by cases h
 | a :: l,0,[],c,x,h=>⟨a :: l,h,rfl,fun i=>by rw [if_neg (by simp)]⟩
 | a :: l,0,y :: cs,c,x,h=>by
  obtain⟨r,h1,h2,h3⟩:=lsplK_some l 0 cs (fun r=>c (y :: r)) x h;refine⟨y :: r,h1,by simp [h2],fun i=>?_⟩;cases i with
  | zero=>simp
  | succ i=>
   simp only [List.getElem?_cons_succ];rw [h3];simp
 | a :: l,k+1,cs,c,x,h=>by
  obtain⟨r,h1,h2,h3⟩:=lsplK_some l k cs (fun r=>c (a :: r)) x h;refine⟨a :: r,h1,by simp [h2],fun i=>?_⟩;cases i with
  | zero=>simp
  | succ i=>
   simp only [List.getElem?_cons_succ];rw [h3];have e:i+1 - (k+1)=i - k:=(by omega);rw [e];by_cases hc:k≤i∧i<k+cs.length
   ·rw [if_pos hc,if_pos (by omega)]
   rw [if_neg hc,if_neg (by omega)]
inductive ObEq:Option Ob→Option Ob→Prop where
 | refl (a:Option Ob):ObEq a a
 | cells {c d:Tr Value} {n:Nat} {e f:TypeId} {g:Bool} (h:∀i,i<n→c.get i=d.get i):ObEq (some (.cells c n e g)) (some (.cells d n f g))
structure MemEq(m m':Mem): Prop where
 next:m.next=m'.next
 ob:∀b,ObEq (m.t.get b) (m'.t.get b)
theorem ObEq.some_right{x:Option Ob}{o:Ob}(h:ObEq x (some o)): ∃o',x=some o'∧(Live o→Live o')∧∀{α:AM} {L:Loc} {w:World},ObR P α L w o'→ObR P α L w o:=by
 cases h with
 | refl=>exact⟨o,rfl,id,id⟩
 | cells h=>
  refine⟨_,rfl,id,?_⟩;rintro α L w ⟨cc,e',lo,hi,h1,h2,h3,h4,h5,h7⟩;exact⟨cc,e',lo,hi,h1,h2,h3,h4,h5,fun i hi=>let ⟨v,v',a,b,c⟩:=h7 i hi;⟨v,v',(h i hi).symm.trans a,b,c⟩⟩
theorem ObEq.none_left{x:Option Ob}(h:ObEq none x): x=none:=by cases h;rfl
theorem Stp.memEq{α β:AM}{m m1 m2:Mem}{w w1:World}(h:Stp P α m w β m1 w1)(e:MemEq m1 m2)(hg:∀b,m1.t.get b=m2.t.get b∨(α b≠none∧m.t.get b≠none)): Stp P α m w β m2 w1 where
 le:=h.le
 old:=h.old
 next:=e.next ▸ h.next
 rel:=by
  refine⟨fun b L hb=>e.next ▸ h.rel.dom b L hb,fun b o L hx hb=>?_,?_,fun b hb=>?_⟩
  ·have hob:=e.ob b;rw [hx]at hob;obtain⟨o',h1,_,h2⟩:=hob.some_right (P:=P);exact h2 (h.rel.obj b o' L h1 hb)
  ·intro b b' o o' L L' x1 l1 y1 x2 l2 y2 he;have k1:=e.ob b;rw [x1]at k1;have k2:=e.ob b';rw [x2]at k2;obtain⟨p,p1,p2,_⟩:=k1.some_right (P:=P);obtain⟨q,q1,q2,_⟩:=k2.some_right (P:=P);exact h.rel.inj b b' p q L L' p1 (p2 l1) y1 q1 (q2 l2) y2 he
  have k1:=e.ob b;rw [h.rel.top b (e.next ▸ hb)]at k1;exact k1.none_left
 os:=h.os
 tape:=h.tape
 output:=h.output
 size:=h.size
 frame:=h.frame
 rng:=by rintro cb ⟨b,o,L,h1,h2,h3,h4⟩;have k1:=e.ob b;rw [h1]at k1;obtain⟨p,p1,p2,_⟩:=k1.some_right (P:=P);exact h.rng cb ⟨b,p,L,p1,p2 h2,h3,h4⟩
 ghost b hb hn:=by
  rcases hg b with h1 | ⟨h1,h2⟩
  ·rw [←h1];exact h.ghost b hb hn
  rcases hn with hn | hn
  ·exact absurd hn h1
  exact absurd hn h2
theorem get_cell{m:Mem}{b:Nat}{c:Tr Value}{N:Nat}{e:TypeId}{g:Bool}(hb:m.t.get b=some (.cells c N e g)){off:Nat}(ho:off<N): m.cell ⟨b,off,none⟩=c.get off:=by simp only [Mem.cell,hb,blt_iff.2 ho,cond_true]
theorem arun_loadCellsFrom{m:Mem}{b off:Nat}: ∀(r:List Value) (i:Nat) (acc:Array Value),(∀j,j<r.length→m.cell ⟨b,off+i+j,none⟩=r[j]?)→
  arun P (loadCellsFrom ⟨b,off,none⟩ i r.length acc) m=some (acc ++ r.toArray,m)
 | [],i,acc,_=>by simp [loadCellsFrom,arun,pure]
 | v :: r,i,acc,h=>by
  have h0:=h 0 (by simp);simp only [Nat.add_zero,List.getElem?_cons_zero]at h0;show arun P ((load (Addr.add ⟨b,off,none⟩ i)).bind _) m=_;rw [arun_bind];have e:arun P (load (Addr.add ⟨b,off,none⟩ i)) m=some (v,m):=by rw [addr_add];simp only [load,arun];rw [h0]
  rw [e];simp only [Option.bind_some];rw [arun_loadCellsFrom r (i+1) (acc.push v) fun j hj=>by
   have:=h (j+1) (by simpa using hj);rw [List.getElem?_cons_succ]at this;rw [←this];congr 2;omega]
  simp
theorem arun_storeCells{b off N:Nat}{e:TypeId}{g:Bool}: ∀(cs:List Value) (i:Nat) (m:Mem) (c:Tr Value),m.t.get b=some (.cells c N e g)→off+i+cs.length≤N→(∀v∈cs,notCell v=false)→
  ∃m1 c1,arun P (storeCells ⟨b,off,none⟩ cs i) m=some ((),m1)∧m1.next=m.next∧(∀b',b'≠b→m1.t.get b'=m.t.get b')∧m1.t.get b=some (.cells c1 N e g)∧
   ∀j,c1.get j=if off+i≤j∧j<off+i+cs.length then cs[j - (off+i)]? else c.get j
 | [],i,m,c,hb,_,_=>⟨m,c,rfl,rfl,fun _ _=>rfl,hb,fun j=>by rw [if_neg (by simp)]⟩
 | v :: cs,i,m,c,hb,hN,hv=>by
  have hN':off+i+(cs.length+1)≤N:=by simpa using hN
  have e1:arun P (store (Addr.add ⟨b,off,none⟩ i) v) m=some ((),⟨Tr.set (b+1) m.t b (.cells (Tr.set (off+i+1) c (off+i) v) N e g),m.next⟩):=by rw [addr_add];simp only [store,arun,hv v (by simp),cond_false,hb,force_eq,Tr.setK_eq,Mem.put_eq];rw [blt_iff.2 (by omega)];rfl
  obtain⟨m1,c1,r1,r2,r3,r4,r5⟩:=arun_storeCells cs (i+1) ⟨Tr.set (b+1) m.t b (.cells (Tr.set (off+i+1) c (off+i) v) N e g),m.next⟩ (Tr.set (off+i+1) c (off+i) v)
   (by show (Tr.set (b+1) m.t b _).get b=_;rw [get_put,if_pos rfl]) (show off+(i+1)+cs.length≤N by omega) (fun v hv'=>hv v (by simp [hv']))
  refine⟨m1,c1,?_,r2,fun b' hb'=>?_,r4,fun j=>?_⟩
  ·show arun P ((store (Addr.add ⟨b,off,none⟩ i) v).bind _) m=_;rw [arun_bind,e1];exact r1
  ·rw [r3 b' hb'];show (Tr.set (b+1) m.t b _).get b'=_;rw [get_put,if_neg hb']
  rw [r5 j];by_cases h1:off+(i+1)≤j∧j<off+(i+1)+cs.length
  ·rw [if_pos h1,if_pos (by simp;omega)];obtain⟨d,rfl⟩:∃d,j=off+i+1+d:=⟨j - (off+i+1),by omega⟩;have a1:off+i+1+d - (off+(i+1))=d:=(by omega);have a2:off+i+1+d - (off+i)=d+1:=(by omega);rw [a1,a2];simp
  rw [if_neg h1,Tr.get_set _ _ _ _ _ (by omega)];by_cases h2:j=off+i
  ·subst h2;simp
  rw [if_neg h2,if_neg (by simp;omega)]
def aggSize(P:Program)(t:TypeId): Option Nat:=match prun P (isAgg t)with | some true=>prun P (sizeOf t) | _=>none
def cellsL(v:Value): List Value:=match v with | .agg ⟨cs⟩=>cs | v=>[v]
def fLoadA(P:Program)(E:Env)(m:Mem)(t:TypeId)(x:Operand): Res:=evK E x fun v=>match v with
 | .pointer (some ⟨b,off,none⟩)=>(match aggSize P t with
  | some n=>(match m.t.get b with
   | some (.cells c N _ _)=>(match c with
    | .L l=>bif Nat.ble (off+n) N then ltakeK (ldrop l off) n (fun r=>some (.value (.agg ⟨r⟩),m)) none else none
    | _=>none)
   | _=>none)
  | none=>none)
 | _=>none
def fStore(P:Program)(E:Env)(m:Mem)(t:TypeId)(x y:Operand): Res:=evK E x fun v=>evK E y fun u=>match v with
 | .pointer (some ⟨b,off,none⟩)=>(match prun P (sizeOf t)with
  | some n=>bif Nat.beq (cellsL u).length n && (cellsL u).all (fun v=>!notCell v) then (match m.t.get b with
   | some (.cells c N e g)=>(match c with
    | .L l=>bif Nat.ble (off+n) N then lsplK l off (cellsL u) (fun r=>m.put b (.cells (.L r) N e g) fun m=>some (.skip,m)) none else none
    | _=>none)
   | _=>none) else none
  | none=>none)
 | _=>none
def fNew(m:Mem)(t:TypeId)(v:Value): Res:=forceNat (cellsL v).length fun n=>m.push (.cells (.L (cellsL v)) n t false) fun m'=>some (.value (.pointer (some ⟨m.next,0,none⟩)),m')
def fBox(E:Env)(m:Mem)(t:TypeId)(x:Operand): Res:=evK E x fun v=>fNew m t v
def fAlloc(P:Program)(m:Mem)(t:TypeId): Res:=match prun P (zeroValue t)with | some v=>fNew m t v | none=>none
def fIndex(P:Program)(E:Env)(m:Mem)(t:TypeId)(x y:Operand): Res:=evK E x fun v=>evK E y fun u=>match v with
 | .agg ⟨cs⟩=>(match u with
  | .int _ (.ofNat i)=>(match P.underlying t with
   | some (.array len elem)=>bif Nat.blt i len then (match aggSize P elem with
    | some n=>ltakeK (ldrop cs (i*n)) n (fun r=>some (.value (.agg ⟨r⟩),m)) none
    | none=>none) else none
   | _=>none)
  | _=>none)
 | _=>none
def fillK(E:Env)(place:Nat→Option (Nat×Nat)): List (Nat×Operand)→List Value→(List Value→Res)→Res
 | [],cells,c=>c cells
 | (i,x) :: rest,cells,c=>evK E x fun v=>match place i with
  | some (off,size)=>Nat.casesOn size none fun k=>bif Nat.beq (cellsL v).length (k+1) then lsplK cells off (cellsL v) (fun cells=>fillK E place rest cells c) none else none
  | none=>none
def placesOf(P:Program)(fields:Array Field): Option (Array (Nat×Nat)):=prun P (fields.mapM fun f=>do pure (f.offset,←sizeOf f.type))
def fBuild(P:Program)(E:Env)(m:Mem)(t:TypeId)(parts:Array (Nat×Operand)): Res:=match prun P (zeroValue t)with
 | some z=>(match P.underlying t with
  | some (.struct fields)=>(match placesOf P fields with
   | some places=>fillK E (places[·]?) parts.toList (cellsL z) fun r=>some (.value (.agg ⟨r⟩),m)
   | none=>none)
  | some (.array _ elem)=>(match prun P (sizeOf elem)with
   | some size=>fillK E (fun i=>some (i*size,size)) parts.toList (cellsL z) fun r=>some (.value (.agg ⟨r⟩),m)
   | none=>none)
  | _=>none)
 | none=>none
def zrep(z:List Value)(n:Nat): List Value:=Nat.rec [] (fun _ ih=>z ++ ih) n
def fBuildSlice(P:Program)(E:Env)(m:Mem)(t:TypeId)(len:Nat)(parts:Array (Nat×Operand)): Res:=bif Nat.blt len G then (match P.underlying t with
 | some (.slice elem)=>(match prun P (sizeOf elem)with
  | some size=>bif Nat.ble (len*size) 16777216 then (match prun P (zeroValue elem)with
   | some z=>bif Nat.beq (cellsL z).length size then fillK E (fun i=>some (i*size,size)) parts.toList (zrep (cellsL z) len) fun r=>
    forceNat (len*size) fun n=>m.push (.cells (.L r) n elem false) fun m'=>some (.value (.slice (some ⟨m.next,0,none⟩) len len),m') else none
   | none=>none) else none
  | none=>none)
 | _=>none) else none
def gop(P:Program)(E:Env)(m:Mem)(o:Op): Res:=
 match o with
 | .load t x=>fLoadA P E m t x
 | .store t x y=>fStore P E m t x y
 | .box t x=>fBox E m t x
 | .alloc t=>fAlloc P m t
 | .index t x y=>fIndex P E m t x y
 | .build t parts=>fBuild P E m t parts
 | .buildSlice t len parts=>fBuildSlice P E m t len parts
 | _=>none
theorem cellsL_eq(v:Value): v.cells=⟨cellsL v⟩:=by cases v <;> rfl
theorem new_run(m:Mem)(t:TypeId)(v:Value){r:Next×Mem}(h:fNew m t v=some r):
  ∃a m1,r=(.value (.pointer (some a)),m1)∧arun P (newVar t v) m=some (a,m1):=by
 unfold fNew at h;rw [forceNat_eq,Mem.push_eq]at h;cases h;refine⟨_,_,rfl,?_⟩;unfold newVar newRow newObj;rw [cellsL_eq];show arun P (Sem.bind (.new (.cells ⟨cellsL v⟩ t) .pure) _) m=_;rw [arun_bind];simp only [arun,ofListK_eq,ofList,forceNat_eq,Mem.push_eq];rfl
theorem aggSize_spec{t:TypeId}{n:Nat}(h:aggSize P t=some n): prun P (isAgg t)=some true∧prun P (sizeOf t)=some n:=by
 unfold aggSize at h;split at h
 ·rename_i h1;exact⟨h1,h⟩
 cases h
theorem exV_run{s:Sem Value}{m m1:Mem}{v:Value}(h:arun P s m=some (v,m1)): arun P (exV s) m=some (.value v,m1):=by show arun P (s.bind _) m=_;rw [arun_bind,h];rfl
theorem exU_run{s:Sem Unit}{m m1:Mem}(h:arun P s m=some ((),m1)): arun P (exU s) m=some (.skip,m1):=by show arun P (s.bind _) m=_;rw [arun_bind,h];rfl
theorem foldl_set(off:Nat): ∀(cs:List Value) (k:Nat) (a:Array Value) (i:Nat),
  ((cs.zipIdx k).foldl (fun (cs:Array Value) (x:Value×Nat)=>cs.setIfInBounds (off+x.2) x.1) a)[i]?=if off+k≤i∧i<off+k+cs.length∧i<a.size then cs[i - (off+k)]? else a[i]?
 | [],k,a,i=>by rw [if_neg (by simp;omega)];rfl
 | c :: cs,k,a,i=>by
  rw [List.zipIdx_cons,List.foldl_cons,foldl_set off cs (k+1)];by_cases h1:off+(k+1)≤i∧i<off+(k+1)+cs.length∧i<(a.setIfInBounds (off+k) c).size
  ·rw [if_pos h1,if_pos (by simp at h1 ⊢;omega)];obtain⟨d,rfl⟩:∃d,i=off+k+1+d:=⟨i - (off+k+1),by omega⟩;have a1:off+k+1+d - (off+(k+1))=d:=(by omega);have a2:off+k+1+d - (off+k)=d+1:=(by omega);rw [a1,a2];simp
  rw [if_neg h1,Array.getElem?_setIfInBounds];simp only [Array.size_setIfInBounds]at h1;by_cases h2:off+k=i
  ·subst h2;rw [if_pos rfl];by_cases h3:off+k<a.size
   ·rw [if_pos h3,if_pos (by simp;omega)];simp
   rw [if_neg h3,if_neg (by omega),Array.getElem?_eq_none (by omega)]
  rw [if_neg h2,if_neg (by simp;omega)]
theorem fillK_fill{E:Env}{place:Nat→Option (Nat×Nat)}: ∀(parts:List (Nat×Operand)) (cells:List Value) (c:List Value→Res) {x:Next×Mem},fillK E place parts cells c=some x→
  (∀p∈parts,opOK E p.2=true)∧∃r,Instr.fill place ⟨cells⟩ (parts.map fun p=>(p.1,ev E p.2))=some ⟨r⟩∧c r=some x∧r.length=cells.length
 | [],cells,c,x,h=>⟨fun _ h=>(by simp at h),cells,rfl,h,rfl⟩
 | (i,y) :: rest,cells,c,x,h=>by
  obtain⟨h1,h2⟩:=evK_some h;simp only at h2;cases hp:place i with
  | none=>rw [hp]at h2;cases h2
  | some q=>
   obtain⟨off,size⟩:=q;rw [hp]at h2;cases size with
   | zero=>cases h2
   | succ k=>
    simp only at h2;obtain⟨hl,h2⟩:=cond_none h2;have hl:=Nat.eq_of_beq_eq_true hl;obtain⟨r,r1,r2,r3⟩:=lsplK_some _ _ _ _ _ h2;obtain⟨q1,s,q2,q3,q4⟩:=fillK_fill rest r c r1;refine⟨fun p hp=>?_,s,?_,q3,q4.trans r2⟩
    ·rcases List.mem_cons.1 hp with rfl | hp
     ·exact h1
     exact q1 p hp
    simp only [List.map_cons,Instr.fill,hp,cellsL_eq];have hb:off+(cellsL (ev E y)).length≤cells.length:=(by have:=r3 (off+k);rw [if_pos (by omega),show off+k - off=k by omega,List.getElem?_eq_getElem (show k<(cellsL (ev E y)).length by omega)]at this;have:=(List.getElem?_eq_some_iff.1 this).1;omega);rw [if_neg (by simp;omega)];have e:((⟨cellsL (ev E y)⟩:Array Value).zipIdx.foldl (fun (cs:Array Value) (x:Value×Nat)=>cs.setIfInBounds (off+x.2) x.1) ⟨cells⟩)=⟨r⟩:=by
     have e0:(⟨cellsL (ev E y)⟩:Array Value).zipIdx.foldl (fun (cs:Array Value) (x:Value×Nat)=>cs.setIfInBounds (off+x.2) x.1) ⟨cells⟩ =
       ((cellsL (ev E y)).zipIdx 0).foldl (fun (cs:Array Value) (x:Value×Nat)=>cs.setIfInBounds (off+x.2) x.1) ⟨cells⟩:=by
      rw [←Array.foldl_toList,Array.toList_zipIdx]
     rw [e0];refine Array.ext_getElem? fun j=>?_;rw [foldl_set];have hr:=r3 j;rw [show (⟨r⟩:Array Value)[j]?=r[j]? by simp,show (⟨cells⟩:Array Value)[j]?=cells[j]? by simp,hr];by_cases hc:off≤j∧j<off+(cellsL (ev E y)).length
     ·rw [if_pos hc,if_pos ⟨by omega,by omega,by show j<cells.length;omega⟩];rfl
     rw [if_neg hc,if_neg (by omega)]
    rw [e];exact q2
theorem prun_bind'{A C:Type}(f:A→Sem C): ∀(s:Sem A) {a:A},prun P s=some a→prun P (s.bind f)=prun P (f a)
 | .pure _,_,h=>by cases h;rfl
 | .program k,_,h=>prun_bind' f (k P) h
 | .mark _ k,_,h=>prun_bind' f k h
 | .load ..,_,h=>by cases h
 | .store ..,_,h=>by cases h
 | .new ..,_,h=>by cases h
 | .shape ..,_,h=>by cases h
 | .freeze ..,_,h=>by cases h
 | .frozen ..,_,h=>by cases h
 | .getObj ..,_,h=>by cases h
 | .setObj ..,_,h=>by cases h
 | .choose ..,_,h=>by cases h
 | .sys ..,_,h=>by cases h
 | .halt _,_,h=>by cases h
theorem zrep_get(z:List Value): ∀(len i:Nat),(zrep z len)[i]?=if i<len*z.length then z[i % z.length]? else none
 | 0,i=>by rw [if_neg (by omega)];rfl
 | len+1,i=>by
  show (z ++ zrep z len)[i]?=_;rw [Nat.add_mul,Nat.one_mul];by_cases h:i<z.length
  ·rw [List.getElem?_append_left h,if_pos (by omega),Nat.mod_eq_of_lt h]
  rw [List.getElem?_append_right (by omega),zrep_get z len];by_cases h2:i - z.length<len*z.length
  ·rw [if_pos h2,if_pos (by omega),←Nat.mod_eq_sub_mod (by omega)]
  rw [if_neg h2,if_neg (by omega)]
theorem zrep_range(z:Array Value)(len:Nat): (Array.range (len*z.size)).map (fun i=>z[i % z.size]!)=⟨zrep z.toList len⟩:=by
 refine Array.ext_getElem? fun i=>?_;rw [show (⟨zrep z.toList len⟩:Array Value)[i]?=(zrep z.toList len)[i]? by simp,zrep_get];simp only [Array.length_toList];by_cases h:i<len*z.size
 ·have h0:i % z.size<z.size:=Nat.mod_lt _ (by
   rcases Nat.eq_zero_or_pos z.size with e | e
   ·rw [e]at h;simp at h
   exact e)
  rw [if_pos h,Array.getElem?_map,Array.getElem?_range,if_pos h,Option.map_some,getElem!_pos z _ h0];simp [h0]
 rw [if_neg h,Array.getElem?_map,Array.getElem?_range,if_neg h];rfl
theorem gop_aop{E:Env}{o:Oper}{m m2:Mem}{nx:Next}(h:gop P E m o.op=some (nx,m2)):
  ∃m1,aop P E o m=some (nx,m1)∧MemEq m1 m2∧∀b,m1.t.get b=m2.t.get b∨(m.t.get b≠none∧∃x∈o.op.operands,opOK E x=true∧∃off,ev E x=.pointer (some ⟨b,off,none⟩)):=by
 have same:aop P E o m=some (nx,m2)→∃m1,aop P E o m=some (nx,m1)∧MemEq m1 m2∧∀b,m1.t.get b=m2.t.get b∨(m.t.get b≠none∧∃x∈o.op.operands,opOK E x=true∧∃off,ev E x=.pointer (some ⟨b,off,none⟩)):=
  fun h=>⟨m2,h,⟨rfl,fun _=>.refl _⟩,fun _=>.inl rfl⟩
 unfold aop at same ⊢;rw [execF_eq]at same ⊢;obtain⟨d,op,t,p,af,g⟩:=o;simp only at h same ⊢;cases op with
 | load t x=>
  refine same ?_;obtain⟨h1,h2⟩:=evK_some h;have e:(Op.load t x).operands.toList.all (opOK E)=true:=by simp [Op.operands,h1]
  rw [e];simp only [cond_true,simOK,execOp];split at h2
  ·rename_i b off hv;rw [hv];split at h2
   ·rename_i n hn;obtain⟨ha,hs⟩:=aggSize_spec hn;split at h2
    ·rename_i c N e g hb;split at h2
     ·rename_i l;obtain⟨hN,h2⟩:=cond_none h2;rw [ldrop_eq,ltakeK_eq]at h2;split at h2
      ·rename_i hl;cases h2;have hN:=Nat.le_of_ble_eq_true hN;refine exV_run ?_;show arun P (loadVar t ⟨b,off,none⟩) m=_;unfold loadVar;rw [arun_prun_bind _ _ ha];simp only [if_true];rw [arun_prun_bind _ _ hs];have hlen:((l.drop off).take n).length=n:=(by rw [List.length_take];omega);have:=arun_loadCellsFrom (P:=P) (m:=m) (b:=b) (off:=off) ((l.drop off).take n) 0 #[] (fun j hj=>by
        have hj':j<n:=(by rw [hlen]at hj;exact hj);rw [get_cell (off:=off+0+j) hb (by omega),Tr.get_L];rw [List.getElem?_take,if_pos hj',List.getElem?_drop];congr 1)
       rw [hlen]at this;show arun P ((loadCells ⟨b,off,none⟩ n).bind _) m=_;rw [arun_bind];unfold loadCells;rw [this];simp;rfl
      cases h2
     cases h2
    cases h2
   cases h2
  cases h2
 | store t x y=>
  obtain⟨h1,h2⟩:=evK_some h;obtain⟨h3,h4⟩:=evK_some h2;have e:(Op.store t x y).operands.toList.all (opOK E)=true:=by simp [Op.operands,h1,h3]
  rw [e];simp only [cond_true,simOK,execOp];split at h4
  ·rename_i b off hv;split at h4
   ·rename_i n hs;obtain⟨hc,h4⟩:=cond_none h4;rw [Bool.and_eq_true]at hc;obtain⟨hlen,hnc⟩:=hc;have hlen:=Nat.eq_of_beq_eq_true hlen;split at h4
    ·rename_i c N te g hb;split at h4
     ·rename_i l;obtain⟨hN,h4⟩:=cond_none h4;have hN:=Nat.le_of_ble_eq_true hN;obtain⟨r,r1,r2,r3⟩:=lsplK_some _ _ _ _ _ h4;rw [Mem.put_eq]at r1;cases r1;obtain⟨m1,c1,q1,q2,q3,q4,q5⟩:=arun_storeCells (P:=P) (off:=off) (cellsL (ev E y)) 0 m (.L l) hb (by omega) (fun v hv'=>by
       have:=List.all_eq_true.1 hnc v hv';simpa using this)
      refine⟨m1,?_,⟨q2,fun b'=>?_⟩,fun b'=>?_⟩
      ·refine exU_run ?_;show arun P (Instr.storeAt t (ev E x) (ev E y)) m=_;rw [hv];show arun P (storeVar t ⟨b,off,none⟩ (ev E y)) m=_;unfold storeVar;rw [arun_prun_bind _ _ hs];rw [cellsL_eq];rw [if_neg (by simp [hlen])];exact q1
      ·show ObEq (m1.t.get b') ((Tr.set (b+1) m.t b (.cells (.L r) N te g)).get b');rw [get_put];by_cases hbb:b'=b
       ·subst hbb;rw [if_pos rfl,q4];refine .cells fun i _=>?_;rw [q5 i,Tr.get_L,Tr.get_L,r3 i];rfl
       rw [if_neg hbb,q3 b' hbb];exact .refl _
      by_cases hbb:b'=b
      ·subst hbb;exact .inr ⟨(by rw [hb];exact fun h=>by cases h),x,by simp [Op.operands],h1,off,hv⟩
      refine .inl ?_;show m1.t.get b'=(Tr.set (b+1) m.t b (.cells (.L r) N te g)).get b';rw [get_put,if_neg hbb,q3 b' hbb]
     cases h4
    cases h4
   cases h4
  cases h4
 | box t x=>
  refine same ?_;obtain⟨h1,h2⟩:=evK_some h;have e:(Op.box t x).operands.toList.all (opOK E)=true:=by simp [Op.operands,h1]
  rw [e];simp only [cond_true,simOK,execOp];obtain⟨a,m1,r1,r2⟩:=new_run (P:=P) m t _ h2;cases r1;refine exV_run ?_;show arun P ((newVar t (ev E x)).bind _) m=_;rw [arun_bind,r2];rfl
 | alloc t=>
  refine same ?_;simp only [gop,fAlloc]at h;split at h
  ·rename_i v hz;obtain⟨a,m1,r1,r2⟩:=new_run (P:=P) m t v h;cases r1;refine exV_run (s:=Instr.alloc t true (.tuple #[])) ?_;unfold Instr.alloc;show arun P (zeroValue t >>= _) m=_;rw [arun_prun_bind _ _ hz];show arun P ((newVar t v).bind _) m=_;rw [arun_bind,r2];rfl
  cases h
 | index t x y=>
  refine same ?_;obtain⟨h1,h2⟩:=evK_some h;obtain⟨h3,h4⟩:=evK_some h2;have e:(Op.index t x y).operands.toList.all (opOK E)=true:=by simp [Op.operands,h1,h3]
  rw [e];simp only [cond_true,simOK,execOp];split at h4
  ·rename_i cs hv;split at h4
   ·rename_i k i hu;split at h4
    ·rename_i len elem hun;obtain⟨hi,h4⟩:=cond_none h4;have hi:=blt_iff.1 hi;split at h4
     ·rename_i n hn;obtain⟨ha,hs⟩:=aggSize_spec hn;rw [ldrop_eq,ltakeK_eq]at h4;split at h4
      ·cases h4;refine exV_run ?_;rw [hv,hu];have hun':prun P (underlying t)=some (.array len elem):=(by have:prun P (underlying t)=prun P (match P.underlying t with | some d=>(pure d:Sem TypeDesc) | none=>stuck "no such type"):=rfl;rw [this,hun];rfl);show arun P (underlying t >>= _) m=_;rw [arun_prun_bind _ _ hun'];simp only;rw [if_pos ⟨Int.natCast_nonneg _,Int.ofNat_lt.2 hi⟩];show arun P (sizeOf elem >>= _) m=_;rw [arun_prun_bind _ _ hs];unfold part;rw [arun_prun_bind _ _ ha];simp only [if_true];show arun P (sizeOf elem >>= _) m=_;rw [arun_prun_bind _ _ hs];simp [arun,pure,List.extract_eq_take_drop]
      cases h4
     cases h4
    cases h4
   cases h4
  cases h4
 | buildSlice t len parts=>
  refine same ?_;simp only [gop,fBuildSlice]at h;obtain⟨hG,h⟩:=cond_none h;split at h;case h_2=>cases h
  rename_i elem hun;split at h;case h_2=>cases h
  rename_i size hs;obtain⟨hb,h⟩:=cond_none h;have hb:=Nat.le_of_ble_eq_true hb;split at h;case h_2=>cases h
  rename_i z hz;obtain⟨hl,h⟩:=cond_none h;have hl:=Nat.eq_of_beq_eq_true hl;obtain⟨q1,r,q2,q3,q4⟩:=fillK_fill _ _ _ h;rw [forceNat_eq,Mem.push_eq]at q3;cases q3;have hzl:z.cells.size=size:=by rw [cellsL_eq];exact hl
  have hrl:r.length=len*size:=by
   have hno:(zrep (cellsL z) len)[len*size]?=none:=(by rw [zrep_get,hl,if_neg (by omega)]);have h1:=List.getElem?_eq_none_iff.1 hno;rcases Nat.eq_zero_or_pos (len*size)with e | e
   ·rw [q4];omega
   have hyes:(zrep (cellsL z) len)[len*size - 1]?≠none:=by
    rw [zrep_get,hl,if_pos (by omega)];have hp:0<size:=Nat.pos_of_ne_zero fun e0=>by rw [e0]at e;simp at e
    rw [List.getElem?_eq_getElem (by rw [hl];exact Nat.mod_lt _ hp)];exact fun h=>by cases h
   have h2:len*size - 1<(zrep (cellsL z) len).length:=(by apply Classical.byContradiction;intro hc;exact hyes (List.getElem?_eq_none (by omega)));rw [q4];omega
  have hop:(Op.buildSlice t len parts).operands.toList.all (opOK E)=true:=by refine List.all_eq_true.2 fun x hx=>?_;simp only [Op.operands]at hx;obtain⟨y,hy,rfl⟩:∃y∈parts.toList,y.2=x:=(by simpa using hx);exact q1 y hy
  rw [hop];simp only [cond_true,simOK,hG,execOp];refine exV_run (s:=Instr.buildSlice t len (exParts E parts)) ?_;have hun':prun P (underlying t)=some (.slice elem):=by have:prun P (underlying t)=prun P (match P.underlying t with | some d=>(pure d:Sem TypeDesc) | none=>stuck "no such type"):=rfl;rw [this,hun];rfl
  unfold Instr.buildSlice;rw [arun_prun_bind _ _ hun'];simp only;rw [arun_prun_bind _ _ hs,if_neg (by omega)];have hpt:(exParts E parts).toList=parts.toList.map fun p=>(p.1,ev E p.2):=by unfold exParts;simp
  have fin:∀(zc:Array Value),(Array.range (len*size)).map (fun i=>zc[i % zc.size]!)=⟨zrep (cellsL z) len⟩→
    arun P (do
     let some cells:=Instr.fill (fun i=>some (i*size,size)) ((Array.range (len*size)).map (fun i=>zc[i % zc.size]!)) (exParts E parts).toList | stuck "buildSlice: a part of the wrong size"
     pure (Value.slice (some (←newRow elem cells)) len len)) m=some (.slice (some ⟨m.next,0,none⟩) len len,⟨Tr.set (m.next+1) m.t m.next (.cells (.L r) (len*size) elem false),m.next+1⟩):=by
   intro zc hzc;rw [hzc,hpt,q2];show arun P ((newRow elem ⟨r⟩).bind _) m=_;unfold newRow newObj;rw [arun_bind];show (arun P (Sem.bind (.new (.cells ⟨r⟩ elem) .pure) _) m).bind _=_;rw [arun_bind];simp only [arun,ofListK_eq,ofList,forceNat_eq,Mem.push_eq];rw [←hrl];rfl
  by_cases h0:len*size=0
  ·simp only [h0,if_true];have:=fin #[] (by
    rw [h0];have:zrep (cellsL z) len=[]:=(by rw [←List.length_eq_zero_iff,←q4,hrl,h0]);rw [this];simp)
   rw [h0]at this;exact this
  simp only [h0,if_false];rw [arun_prun_bind _ _ hz];refine fin z.cells ?_;have:=zrep_range z.cells len;rw [hzl]at this;rw [hzl,this,cellsL_eq]
 | build t parts=>
  refine same ?_;have fin:∀(place:Nat→Option (Nat×Nat)) (z:Value),fillK E place parts.toList (cellsL z) (fun r=>some (.value (.agg ⟨r⟩),m))=some (nx,m2)→
    (Op.build t parts).operands.toList.all (opOK E)=true∧∃r,Instr.fill place z.cells (exParts E parts).toList=some r∧(nx,m2)=(.value (.agg r),m):=by
   intro place z hf;obtain⟨q1,r,q2,q3,-⟩:=fillK_fill _ _ _ hf;refine⟨List.all_eq_true.2 fun x hx=>?_,⟨r⟩,?_,(Option.some.inj q3).symm⟩
   ·simp only [Op.operands]at hx;obtain⟨y,hy,rfl⟩:∃y∈parts.toList,y.2=x:=(by simpa using hx);exact q1 y hy
   rw [cellsL_eq];have:(exParts E parts).toList=parts.toList.map fun p=>(p.1,ev E p.2):=(by unfold exParts;simp);rw [this];exact q2
  simp only [gop,fBuild]at h;split at h;case h_2=>cases h
  rename_i z hz;split at h
  ·rename_i fields hun;split at h
   ·rename_i places hpl;obtain⟨e,r,q1,q2⟩:=fin _ z h;rw [e];simp only [cond_true,simOK,execOp];cases q2;refine exV_run (s:=Instr.build t (exParts E parts)) ?_;unfold Instr.build;rw [arun_prun_bind _ _ hz];have hun':prun P (underlying t)=some (.struct fields):=(by have:prun P (underlying t)=prun P (match P.underlying t with | some d=>(pure d:Sem TypeDesc) | none=>stuck "no such type"):=rfl;rw [this,hun];rfl);show arun P (underlying t >>= _) m=_;rw [arun_prun_bind _ _ hun'];simp only;rw [arun_prun_bind _ _ hpl,q1];rfl
   cases h
  ·rename_i len elem hun;split at h
   ·rename_i size hs;obtain⟨e,r,q1,q2⟩:=fin _ z h;rw [e];simp only [cond_true,simOK,execOp];cases q2;refine exV_run (s:=Instr.build t (exParts E parts)) ?_;unfold Instr.build;rw [arun_prun_bind _ _ hz];have hun':prun P (underlying t)=some (.array len elem):=(by have:prun P (underlying t)=prun P (match P.underlying t with | some d=>(pure d:Sem TypeDesc) | none=>stuck "no such type"):=rfl;rw [this,hun];rfl);show arun P (underlying t >>= _) m=_;rw [arun_prun_bind _ _ hun'];simp only;rw [arun_prun_bind _ _ hs,q1];rfl
   cases h
  cases h
 | _=>cases h
theorem fBuild_prun{E:Env}{m m2:Mem}{nx:Next}{t:TypeId}{parts:Array (Nat×Operand)}(h:fBuild P E m t parts=some (nx,m2)):
  (∀x∈(Op.build t parts).operands,opOK E x=true)∧prun P (exBuild E t parts)=some nx:=by
 have fin:∀(place:Nat→Option (Nat×Nat)) (z:Value),fillK E place parts.toList (cellsL z) (fun r=>some (.value (.agg ⟨r⟩),m))=some (nx,m2)→
   (∀x∈(Op.build t parts).operands,opOK E x=true)∧∃r,Instr.fill place z.cells (exParts E parts).toList=some r∧(nx,m2)=(.value (.agg r),m):=by
  intro place z hf;obtain⟨q1,r,q2,q3,-⟩:=fillK_fill _ _ _ hf;refine⟨fun x hx=>?_,⟨r⟩,?_,(Option.some.inj q3).symm⟩
  ·simp only [Op.operands]at hx;obtain⟨y,hy,rfl⟩:∃y∈parts.toList,y.2=x:=(by simpa using hx);exact q1 y hy
  rw [cellsL_eq];have:(exParts E parts).toList=parts.toList.map fun p=>(p.1,ev E p.2):=by unfold exParts;simp
  rw [this];exact q2
 have exv:∀{s:Sem Value} {v:Value},prun P s=some v→prun P (exV s)=some (.value v):=by intro s v hs;show prun P (s.bind _)=_;rw [prun_bind' _ _ hs];rfl
 simp only [fBuild]at h;split at h;case h_2=>cases h
 rename_i z hz;split at h
 ·rename_i fields hun;split at h
  ·rename_i places hpl;obtain⟨e,r,q1,q2⟩:=fin _ z h;cases q2;refine⟨e,exv (s:=Instr.build t (exParts E parts)) ?_⟩;unfold Instr.build;refine (prun_bind' _ _ hz).trans ?_;have hun':prun P (underlying t)=some (.struct fields):=(by have:prun P (underlying t)=prun P (match P.underlying t with | some d=>(pure d:Sem TypeDesc) | none=>stuck "no such type"):=rfl;rw [this,hun];rfl);refine (prun_bind' _ _ hun').trans ?_;simp only;refine (prun_bind' _ _ hpl).trans ?_;rw [q1];rfl
  cases h
 ·rename_i len elem hun;split at h
  ·rename_i size hs;obtain⟨e,r,q1,q2⟩:=fin _ z h;cases q2;refine⟨e,exv (s:=Instr.build t (exParts E parts)) ?_⟩;unfold Instr.build;refine (prun_bind' _ _ hz).trans ?_;have hun':prun P (underlying t)=some (.array len elem):=(by have:prun P (underlying t)=prun P (match P.underlying t with | some d=>(pure d:Sem TypeDesc) | none=>stuck "no such type"):=rfl;rw [this,hun];rfl);refine (prun_bind' _ _ hun').trans ?_;simp only;refine (prun_bind' _ _ hs).trans ?_;rw [q1];rfl
  cases h
 cases h
def aopG(P:Program)(E:Env)(o:Oper)(m:Mem): Res:=
 match o with
 | ⟨d,op,t,p,af,g⟩=>match fop P E m op with
  | some r=>some r
  | none=>match gop P E m op with
   | some r=>some r
   | none=>aop P E ⟨d,op,t,p,af,g⟩ m
theorem aopG_sound{α:AM}(hz:ZeroOK P)(hn:CallOK P){E:Env}{a:Act}{m m2:Mem}{w:World}{o:Oper}{nx:Next}(hr:Rel P α m w)(hE:∀x∈o.op.operands,opOK E x=true→VR α (ev E x) (a.eval x))(hT:opT P o.op=true)(h:aopG P E o m=some (nx,m2)):
  ∃β nx' w1,NR β nx nx'∧Stp P α m w β m2 w1∧(execOp a.eval o).run P w=.ok nx' w1:=by
 obtain⟨d,op,t,p,af,g⟩:=o;unfold aopG at h;simp only at h;cases hf:fop P E m op with
 | some r=>
  rw [hf]at h;cases h;exact aop_sound hz hn hr hE hT (fop_aop (o:=⟨d,op,t,p,af,g⟩) hf)
 | none=>
  rw [hf]at h;cases hg:gop P E m op with
  | some r=>
   rw [hg]at h;cases h;obtain⟨m1,h1,h2,h3⟩:=gop_aop (o:=⟨d,op,t,p,af,g⟩) hg;obtain⟨β,nx',w1,r1,r2,r3⟩:=aop_sound hz hn hr hE hT h1;refine⟨β,nx',w1,r1,r2.memEq h2 fun b=>(h3 b).imp id ?_,r3⟩;rintro⟨q1,x,q2,q3,off,q4⟩;refine⟨?_,q1⟩;have hv:=hE x q2 q3;rw [q4]at hv;generalize a.eval x=u at hv;cases hv with
   | ptr hb=>rw [hb];exact fun h=>by cases h
  | none=>
   rw [hg]at h;exact aop_sound hz hn hr hE hT h
end
end
section
noncomputable section
variable {P:Program} {α:AM}
def rrun{A:Type}(P:Program)(D:Nat→Bool): Sem A→Mem→Option A
 | .pure a,_=>some a
 | .load _ a k,m=>bif D a.block then (match m.cell a with | some v=>rrun P D (k v) m | none=>none) else none
 | .getObj r k,m=>bif D r then (match m.t.get r with | some (.obj o)=>rrun P D (k o) m | _=>none) else none
 | .program k,m=>rrun P D (k P) m
 | .mark _ k,m=>rrun P D k m
 | _,_=>none
def nrun{A:Type}(P:Program): Sem A→Nat→Option (A×Ob)
 | .new o k,nx=>(match o with
  | .cells c e fz=>(match fz with
   | (0,0)=>(match prun P (k nx)with
    | some a=>ofListK c.toList fun t=>forceNat c.size fun n=>some (a,.cells t n e false)
    | none=>none)
   | _=>none)
  | .map es cl=>(match prun P (k nx)with
   | some a=>some (a,.obj (.map es cl))
   | none=>none)
  | _=>none)
 | .program k,nx=>nrun P (k P) nx
 | .mark _ k,nx=>nrun P k nx
 | _,_=>none
abbrev Self:=FuncId→Array Value→Mem→Option (Value×Mem)
def evOp(P:Program)(self:Self)(E:Env)(o:Oper)(m:Mem): Option (Env×Mem):=
 match aopG P E o m with
 | some (nx,m)=>(match nx with
  | .value v=>E.put o.dst v fun E=>some (E,m)
  | .skip=>E.put o.dst undef fun E=>some (E,m)
  | .enter f args=>(match self f args m with
   | some (v,m)=>E.put o.dst v fun E=>some (E,m)
   | none=>none)
  | _=>none)
 | none=>none
def wantE(ops:Array Oper)(E:Env)(o:Oper): Bool:=
 match o.guard with
 | none=>true
 | some (j,want)=>match ops[j]? with
  | some o'=>(match o'.dst with
   | some d=>bif Nat.blt d E.n then (match E.get d with | .bool b=>b == want | _=>false) else false
   | none=>false)
  | none=>false
def evList(P:Program)(self:Self)(ops:Array Oper): List Oper→Env→Mem→Option (Env×Mem)
 | [],E,m=>some (E,m)
 | o :: rest,E,m=>bif wantE ops E o then (match evOp P self E o m with
   | some (E,m)=>evList P self ops rest E m
   | none=>none)
  else E.put o.dst undef fun E=>evList P self ops rest E m
def foot(E:Env): Op→Option Nat
 | .load _ x=>(match ev E x with | .pointer (some a)=>some a.block | _=>none)
 | .lookup _ x _ _=>(match ev E x with | .map (some r)=>some r | _=>none)
 | .call c=>(match c.args with | ⟨[x]⟩=>(match ev E x with | .map (some r)=>some r | _=>none) | _=>none)
 | _=>none
def qSim(E:Env): Op→Bool
 | .move _ | .assign _ | .pick .. | .build .. | .load .. | .nilCheck _ | .fieldAddr .. | .field .. | .indexAddr .. | .index .. | .makeInterface .. | .extract ..=>true
 | .lookup _ _ k _=>scalar (ev E k)
 | .makeFunc (.func _) _ _=>true
 | .slice _ x _ _ _=>notG (ev E x)
 | .call c=>(match c.callee with | .builtin .len=>(match c.args with | ⟨[_]⟩=>true | _=>false) | _=>false)
 | _=>false
def nSim:Op→Bool
 | .alloc _ | .box ..=>true
 | .buildSlice _ len _=>Nat.blt len G
 | .makeMap _ none=>true
 | _=>false
def isFoot(f:Option Nat)(b:Nat): Bool:=match f with | some c=>Nat.beq b c | none=>false
def rowVal(P:Program)(m:Mem)(t:TypeId)(b off:Nat): Option Value:=match aggSize P t with
 | some n=>(match m.t.get b with
  | some (.cells c N _ _)=>(match c with
   | .L l=>bif Nat.ble (off+n) N then ltakeK (ldrop l off) n (fun r=>some (.agg ⟨r⟩)) none else none
   | _=>none)
  | _=>none)
 | none=>bif isOne P t then m.cell ⟨b,off,none⟩ else none
def fq(P:Program)(E:Env)(m:Mem): Op→Option Value
 | .load t x=>evK E x fun v=>match v with
  | .pointer (some ⟨b,off,none⟩)=>rowVal P m t b off
  | _=>none
 | .build t parts=>(match fBuild P E m t parts with
  | some (nx,_)=>(match nx with | .value v=>some v | _=>none)
  | none=>none)
 | .move x=>evK E x some
 | .assign x=>evK E x some
 | _=>none
def quietS(P:Program)(E:Env)(o:Oper)(m:Mem): Option Value:=
 bif o.op.operands.toList.all (opOK E) then
  bif qSim E o.op then (match rrun P (isFoot (foot E o.op)) (execF E o) m with
   | some (.value v)=>some v
   | _=>none)
  else bif grOK E o.op then (match prun P (execF E o)with
   | some (.value v)=>bif ground v then some v else none
   | _=>none)
  else (match o.op with
   | .slice t x lo hi mx=>aSlice P t (ev E x) (lo.map (ev E)) (hi.map (ev E)) (mx.map (ev E))
   | .binOp op t x y _=>aNil P op t (isConst x || isConst y) (ev E x) (ev E y)
   | _=>none)
 else none
def quietV(P:Program)(E:Env)(o:Oper)(m:Mem): Option Value:=
 match o with
 | ⟨d,op,t,p,af,g⟩=>match fq P E m op with
  | some v=>some v
  | none=>quietS P E ⟨d,op,t,p,af,g⟩ m
def newV(P:Program)(E:Env)(o:Oper)(id:Nat): Option (Value×Ob):=
 bif o.op.operands.toList.all (opOK E) && nSim o.op then (match nrun P (execF E o) id with
  | some (.value v,ob)=>some (v,ob)
  | _=>none)
 else none
inductive Kd where
 | skip
 | quiet (f:Option Nat)
 | new
 | eff
structure Row where
 o:Oper
 k:Kd
 E:Env
 m:Mem
 E':Env
 m':Mem
def dStep(P:Program)(self:Self)(ops:Array Oper)(o:Oper)(id:Nat)(E:Env)(m:Mem): Option Row:=
 bif wantE ops E o then
  match quietV P E o m with
  | some v=>E.put o.dst v fun E'=>some ⟨o,.quiet (foot E o.op),E,m,E',m⟩
  | none=>match newV P E o id with
   | some (v,ob)=>m.put id ob fun m'=>E.put o.dst v fun E'=>some ⟨o,.new,E,m,E',m'⟩
   | none=>match evOp P self E o m with
    | some (E',m')=>bif Nat.ble m.next m'.next then some ⟨o,.eff,E,m,E',m'⟩ else none
    | none=>none
 else E.put o.dst undef fun E'=>some ⟨o,.skip,E,m,E',m⟩
def dRun(P:Program)(self:Self)(ops:Array Oper): List Oper→Nat→Env→Mem→Option (List Row×Env×Mem)
 | [],_,E,m=>some ([],E,m)
 | o :: rest,id,E,m=>match dStep P self ops o id E m with
  | some r=>(match dRun P self ops rest (id+1) r.E' r.m' with
   | some (rs,E,m)=>some (r :: rs,E,m)
   | none=>none)
  | none=>none
def hasEdge(o:Oper)(j:Nat): Bool:=o.after.toList.any fun e=>Region.binds .any e && Nat.beq e.on j
def sameV:Value→Value→Bool
 | .bool a,.bool b=>a == b
 | .int k a,.int l b=>k == l && a == b
 | .string a,.string b=>a.data.toList == b.data.toList
 | .pointer a,.pointer b=>a == b
 | .slice a l c,.slice b m d=>a == b && Nat.beq l m && Nat.beq c d
 | .map a,.map b=>a == b
 | .nilFunc,.nilFunc=>true
 | .nilIface,.nilIface=>true
 | _,_=>false
def sameCells(c d:Tr Value): Nat→Bool
 | 0=>true
 | n+1=>(match c.get n,d.get n with | some x,some y=>sameV x y | _,_=>false) && sameCells c d n
def sameEnts:List MapEntry→List MapEntry→Bool
 | [],[]=>true
 | a :: x,b :: y=>sameV a.key b.key && sameV a.val b.val && Nat.beq a.born b.born && sameEnts x y
 | _,_=>false
def sameOb:Option Ob→Option Ob→Bool
 | some (.cells c n _ g),some (.cells d k _ h)=>Nat.beq n k && (g == h) && sameCells c d n
 | some (.obj (.map x c)),some (.obj (.map y d))=>Nat.beq c d && sameEnts x.toList y.toList
 | _,_=>false
def maskOf(o:Oper)(acc:List Nat): Nat:=o.after.toList.foldl (fun s e=>bif Region.binds .any e then (s ||| 2 ^ e.on) ||| acc.getD e.on 0 else s) 0
def cloL:List Oper→List Nat→List Nat
 | [],acc=>acc
 | o :: rest,acc=>forceNat (maskOf o acc) fun k=>cloL rest (acc ++ [k])
def hasPath(b:List Nat)(j i:Nat): Bool:=(b.getD j 0).testBit i
def chainOK(b:List Nat): List Row→Nat→Option Nat→Bool
 | [],_,_=>true
 | r :: rs,i,last=>match r.k with
  | .eff=>(match last with | some e=>hasPath b i e | none=>true) && chainOK b rs (i+1) (some i)
  | _=>chainOK b rs (i+1) last
def stableAt(cl:List Nat)(i:Nat)(b:Nat): List Row→Nat→Bool
 | [],_=>true
 | r :: rs,e=>(match r.k with
  | .eff=>Nat.beq i e || (Nat.blt i e && hasPath cl e i) || (Nat.blt e i && hasPath cl i e) || Nat.ble r.m.next b || sameOb (r.m.t.get b) (r.m'.t.get b)
  | _=>true) && stableAt cl i b rs (e+1)
def stableOK(cl:List Nat)(all:List Row): List Row→Nat→Bool
 | [],_=>true
 | r :: rs,i=>(match r.k with
  | .quiet (some b)=>stableAt cl i b all 0
  | _=>true) && stableOK cl all rs (i+1)
def evDraw(P:Program)(self:Self)(ops:Array Oper)(E:Env)(m:Mem): Option (Env×Mem):=
 forceNat (m.next+ops.toList.length) fun nx=>match dRun P self ops ops.toList m.next E ⟨m.t,nx⟩with
 | some (rs,E,m)=>forceL (cloL ops.toList []) fun cl=>bif chainOK cl rs 0 none && stableOK cl rs rs 0 then some (E,m) else none
 | none=>none
def dstIdx:List Oper→Nat→Nat→Option Nat
 | [],_,_=>none
 | o :: rest,t,i=>match o.dst with
  | some d=>bif Nat.beq d t then some i else dstIdx rest t (i+1)
  | none=>dstIdx rest t (i+1)
def statOp(ops:List Oper)(o:Oper)(i:Nat): Bool:=
 (o.after.toList.all fun e=>!(Region.binds .any e) || Nat.blt e.on i) &&
 (match o.dst with | some d=>dstIdx ops d 0 == some i | none=>true) &&
 (o.op.operands.toList.all fun x=>match x with
  | .tmp t=>(match dstIdx ops t 0 with
   | some j=>Nat.beq j i || (Nat.blt j i && hasEdge o j) || (Nat.blt i j && (match ops[j]? with | some p=>hasEdge p i | none=>false))
   | none=>true)
  | _=>true) &&
 (match o.guard with | some (j,_)=>Nat.blt j i && hasEdge o j | none=>true) &&
 (match o.op with | .select ..=>false | _=>true)
def statList(ops:List Oper): List Oper→Nat→Bool
 | [],_=>true
 | o :: rest,i=>statOp ops o i && statList ops rest (i+1)
def codeOK(P:Program): Code→Bool
 | .region _ ops draw=>(ops.toList.all fun o=>opT P o.op) && (!draw || statList ops.toList ops.toList 0)
 | .seq x y=>codeOK P x && codeOK P y
 | .cond _ x y=>codeOK P x && codeOK P y
 | .block _ c=>codeOK P c
 | .loop c=>codeOK P c
 | _=>true
def fnOK(P:Program)(fn:Func): Bool:=match fn.body with | some c=>codeOK P c | none=>true
inductive Ex where
 | normal
 | exit (id:Nat)
 | ret
def rounds(f:Env→Mem→Option (Ex×Env×Mem)): Nat→Env→Mem→Option (Ex×Env×Mem)
 | 0,_,_=>none
 | n+1,E,m=>match f E m with
  | some (ex,E,m)=>(match ex with
   | .normal=>rounds f n E m
   | ex=>some (ex,E,m))
  | none=>none
def evCode(P:Program)(self:Self)(lf:Nat): Code→Env→Mem→Option (Ex×Env×Mem)
 | .skip,E,m=>some (.normal,E,m)
 | .ret,E,m=>some (.ret,E,m)
 | .exit id,E,m=>some (.exit id,E,m)
 | .region _ ops draw,E,m=>(match (bif draw then evDraw P self ops E m else evList P self ops ops.toList E m)with
  | some (E,m)=>some (.normal,E,m)
  | none=>none)
 | .seq x y,E,m=>(match evCode P self lf x E m with
  | some (ex,E,m)=>(match ex with
   | .normal=>evCode P self lf y E m
   | ex=>some (ex,E,m))
  | none=>none)
 | .cond c x y,E,m=>bif opOK E c then (match ev E c with
   | .bool b=>(match b with
    | true=>evCode P self lf x E m
    | false=>evCode P self lf y E m)
   | _=>none)
  else none
 | .block id c,E,m=>(match evCode P self lf c E m with
  | some (ex,E,m)=>(match ex with
   | .exit j=>bif Nat.beq j id then some (.normal,E,m) else some (.exit j,E,m)
   | ex=>some (ex,E,m))
  | none=>none)
 | .loop c,E,m=>rounds (evCode P self lf c) lf E m
 | _,_,_=>none
def Env.at(E:Env)(t:Nat): Value:=bif Nat.blt t E.n then E.get t else undef
def resSem(fn:Func)(g:Nat→Value): Sem Value:=do
 let vs ←fn.results.mapM fun
  | .tmp t=>pure (g t)
  | .cell a t=>do loadVar t (←asAddr (g a))
 pure (if h:vs.size=1 then vs[0] else .tuple vs)
def resFast(P:Program)(g:Nat→Value)(m:Mem): List ResultVar→Option (List Value)
 | []=>some []
 | x :: l=>match (match x with
   | .tmp t=>some (g t)
   | .cell a t=>(match g a with
    | .pointer (some ⟨b,off,none⟩)=>rowVal P m t b off
    | _=>none))with
  | some v=>(match resFast P g m l with
   | some vs=>some (v :: vs)
   | none=>none)
  | none=>none
def resV(P:Program)(fn:Func)(g:Nat→Value)(m:Mem): Option Value:=
 match resFast P g m fn.results.toList with
 | some vs=>(match vs with
  | [v]=>some v
  | vs=>some (.tuple ⟨vs⟩))
 | none=>rrun P (fun _=>true) (resSem fn g) m
abbrev Ext:=FuncId→Option (Self→Array Value→Mem→Option (Value×Mem))
def evBody(P:Program)(lf:Nat)(self:Self)(f:FuncId)(args:Array Value)(m:Mem): Option (Value×Mem):=
 match P.funcs[f]? with
 | some fn=>(match fn.body with
  | some c=>forceL args.toList fun l=>ofEnvK l 0 .e fun t=>forceNat (l.length+(fn.ntmps - l.length)) fun n=>
   (match evCode P self lf c ⟨t,n⟩ m with
   | some (ex,E,m)=>(match ex with
    | .exit _=>none
    | _=>(match resV P fn E.at m with
     | some v=>force v fun v=>some (v,m)
     | none=>none))
   | none=>none)
  | none=>none)
 | none=>none
def evCall(P:Program)(X:Ext)(lf:Nat): Nat→Self
 | 0=>fun _ _ _=>none
 | n+1=>fun f args m=>match X f with
  | some g=>g (evCall P X lf n) args m
  | none=>evBody P lf (evCall P X lf n) f args m
end
end
end Go.Den
