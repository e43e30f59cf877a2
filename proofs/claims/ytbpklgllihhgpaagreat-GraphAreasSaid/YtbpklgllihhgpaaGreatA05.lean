import Derived.Test.YtbpklgllihhgpaaGreatA04
set_option maxRecDepth 100000
set_option maxHeartbeats 16000000
namespace Go.Den
section
noncomputable section
variable {P:Program}
def KR{A:Type}(l:List A): Nat→List A:=List.rec (fun _=>[]) (fun a l ih k=>Nat.casesOn k (a :: l) ih) l
theorem vT{A:Type}: ∀(l:List A) (k:Nat),KR l k=l.drop k
 | [],k=>by cases k <;> rfl
 | _ :: _,0=>rfl
 | _ :: l,k+1=>vT l k
def zW{A B:Type}(l:List A): Nat→(List A→B)→B→B:=
 List.rec (fun n c d=>Nat.casesOn n (c []) fun _=>d) (fun a _ ih n c d=>Nat.casesOn n (c []) fun n=>ih n (fun r=>c (a :: r)) d) l
theorem sJ{A B:Type}: ∀(l:List A) (n:Nat) (c:List A→B) (d:B),zW l n c d=if n≤l.length then c (l.take n) else d
 | [],0,_,_=>rfl
 | [],_+1,_,_=>rfl
 | _ :: _,0,_,_=>by simp;rfl
 | a :: l,n+1,c,d=>by show zW l n (fun r=>c (a :: r)) d=_;rw [sJ l n];simp
def Py{A B:Type}(l:List A): Nat→List A→(List A→B)→B→B:=
 List.rec (fun _ cs c d=>List.casesOn cs (c []) fun _ _=>d)
  (fun a l ih k cs c d=>Nat.casesOn k (List.casesOn cs (c (a :: l)) fun x cs=>ih 0 cs (fun r=>c (x :: r)) d) fun k=>ih k cs (fun r=>c (a :: r)) d) l
theorem qo{A B:Type}: ∀(l:List A) (k:Nat) (cs:List A) (c:List A→Option B) (x:B),Py l k cs c none=some x→
  ∃r,c r=some x∧r.length=l.length∧∀i,r[i]?=if k≤i∧i<k+cs.length then cs[i - k]? else l[i]?
 | [],k,[],c,x,h=>⟨[],h,rfl,fun i=>by rw [if_neg (by simp)]⟩
 | [],_,_ :: _,_,_,h=>by cases h
 | a :: l,0,[],c,x,h=>⟨a :: l,h,rfl,fun i=>by rw [if_neg (by simp)]⟩
 | a :: l,0,y :: cs,c,x,h=>by
  obtain⟨r,h1,h2,h3⟩:=qo l 0 cs (fun r=>c (y :: r)) x h;refine⟨y :: r,h1,by simp [h2],fun i=>?_⟩;cases i with
  | zero=>simp
  | succ i=>
   simp only [List.getElem?_cons_succ];rw [h3];simp
 | a :: l,k+1,cs,c,x,h=>by
  obtain⟨r,h1,h2,h3⟩:=qo l k cs (fun r=>c (a :: r)) x h;refine⟨a :: r,h1,by simp [h2],fun i=>?_⟩;cases i with
  | zero=>simp
  | succ i=>
   simp only [List.getElem?_cons_succ];rw [h3];have e:i+1 - (k+1)=i - k:=(by omega);rw [e];by_cases hc:k≤i∧i<k+cs.length
   ·rw [if_pos hc,if_pos (by omega)]
   rw [if_neg hc,if_neg (by omega)]
inductive Gv:Option Ob→Option Ob→Prop where
 | refl (a:Option Ob):Gv a a
 | cells {c d:Tr Value} {n:Nat} {e f:TypeId} {g:Bool} (h:∀i,i<n→c.get i=d.get i):Gv (some (.cells c n e g)) (some (.cells d n f g))
structure Qe(m m':dJ): Prop where
 next:m.next=m'.next
 ob:∀b,Gv (m.t.get b) (m'.t.get b)
theorem Gv.some_right{x:Option Ob}{o:Ob}(h:Gv x (some o)): ∃o',x=some o'∧(lU o→lU o')∧∀{α:AM} {L:pY} {w:World},uV P α L w o'→uV P α L w o:=by
 cases h with
 | refl=>exact⟨o,rfl,id,id⟩
 | cells h=>
  refine⟨_,rfl,id,?_⟩;rintro α L w ⟨cc,e',lo,hi,h1,h2,h3,h4,h5,h7⟩;exact⟨cc,e',lo,hi,h1,h2,h3,h4,h5,fun i hi=>let ⟨v,v',a,b,c⟩:=h7 i hi;⟨v,v',(h i hi).symm.trans a,b,c⟩⟩
theorem Gv.none_left{x:Option Ob}(h:Gv none x): x=none:=by cases h;rfl
theorem nY.memEq{α β:AM}{m m1 m2:dJ}{w w1:World}(h:nY P α m w β m1 w1)(e:Qe m1 m2)(hg:∀b,m1.t.get b=m2.t.get b∨(α b≠none∧m.t.get b≠none)): nY P α m w β m2 w1 where
 le:=h.le
 old:=h.old
 next:=e.next ▸ h.next
 rel:=by
  refine⟨fun b L hb=>e.next ▸ h.rel.dom b L hb,fun b o L hx hb=>?_,?_,fun b hb=>?_⟩
  ·have hob:=e.ob b;rw [hx]at hob;obtain⟨o',h1,_,h2⟩:=hob.some_right (P:=P);exact h2 (h.rel.obj b o' L h1 hb)
  ·intro b b' o o' L L' x1 l1 y1 x2 l2 y2 he;have k1:=e.ob b;rw [x1]at k1;have k2:=e.ob b';rw [x2]at k2;obtain⟨p,p1,p2,_⟩:=k1.some_right (P:=P);obtain⟨q,q1,q2,_⟩:=k2.some_right (P:=P);exact h.rel.inj b b' p q L L' p1 (p2 l1) y1 q1 (q2 l2) y2 he
  have k1:=e.ob b;rw [h.rel.top b (e.next ▸ hb)]at k1;exact k1.none_left
 os:=h.os
 tape:=h.tape
 output:=h.output
 size:=h.size
 frame:=h.frame
 rng:=by rintro cb ⟨b,o,L,h1,h2,h3,h4⟩;have k1:=e.ob b;rw [h1]at k1;obtain⟨p,p1,p2,_⟩:=k1.some_right (P:=P);exact h.rng cb ⟨b,p,L,p1,p2 h2,h3,h4⟩
 ghost b hb hn:=by
  rcases hg b with h1 | ⟨h1,h2⟩
  ·rw [←h1];exact h.ghost b hb hn
  rcases hn with hn | hn
  ·exact absurd hn h1
  exact absurd hn h2
theorem zO{m:dJ}{b:Nat}{c:Tr Value}{N:Nat}{e:TypeId}{g:Bool}(hb:m.t.get b=some (.cells c N e g)){off:Nat}(ho:off<N): m.cell ⟨b,off,none⟩=c.get off:=by simp only [dJ.cell,hb,dR.2 ho,cond_true]
theorem nR{m:dJ}{b off:Nat}: ∀(r:List Value) (i:Nat) (acc:Array Value),(∀j,j<r.length→m.cell ⟨b,off+i+j,none⟩=r[j]?)→
  dO P (loadCellsFrom ⟨b,off,none⟩ i r.length acc) m=some (acc ++ r.toArray,m)
 | [],i,acc,_=>by simp [loadCellsFrom,dO,pure]
 | v :: r,i,acc,h=>by
  have h0:=h 0 (by simp);simp only [Nat.add_zero,List.getElem?_cons_zero]at h0;show dO P ((load (Addr.add ⟨b,off,none⟩ i)).bind _) m=_;rw [gz];have e:dO P (load (Addr.add ⟨b,off,none⟩ i)) m=some (v,m):=by rw [jR];simp only [load,dO];rw [h0]
  rw [e];simp only [Option.bind_some];rw [nR r (i+1) (acc.push v) fun j hj=>by
   have:=h (j+1) (by simpa using hj);rw [List.getElem?_cons_succ]at this;rw [←this];congr 2;omega]
  simp
theorem qH{b off N:Nat}{e:TypeId}{g:Bool}: ∀(cs:List Value) (i:Nat) (m:dJ) (c:Tr Value),m.t.get b=some (.cells c N e g)→off+i+cs.length≤N→(∀v∈cs,jb v=false)→
  ∃m1 c1,dO P (storeCells ⟨b,off,none⟩ cs i) m=some ((),m1)∧m1.next=m.next∧(∀b',b'≠b→m1.t.get b'=m.t.get b')∧m1.t.get b=some (.cells c1 N e g)∧
   ∀j,c1.get j=if off+i≤j∧j<off+i+cs.length then cs[j - (off+i)]? else c.get j
 | [],i,m,c,hb,_,_=>⟨m,c,rfl,rfl,fun _ _=>rfl,hb,fun j=>by rw [if_neg (by simp)]⟩
 | v :: cs,i,m,c,hb,hN,hv=>by
  have hN':off+i+(cs.length+1)≤N:=by simpa using hN
  have e1:dO P (store (Addr.add ⟨b,off,none⟩ i) v) m=some ((),⟨Tr.set (b+1) m.t b (.cells (Tr.set (off+i+1) c (off+i) v) N e g),m.next⟩):=by rw [jR];simp only [store,dO,hv v (by simp),cond_false,hb,nJ,Tr.setK_eq,dJ.put_eq];rw [dR.2 (by omega)];rfl
  obtain⟨m1,c1,r1,r2,r3,r4,r5⟩:=qH cs (i+1) ⟨Tr.set (b+1) m.t b (.cells (Tr.set (off+i+1) c (off+i) v) N e g),m.next⟩ (Tr.set (off+i+1) c (off+i) v)
   (by show (Tr.set (b+1) m.t b _).get b=_;rw [fA,if_pos rfl]) (show off+(i+1)+cs.length≤N by omega) (fun v hv'=>hv v (by simp [hv']))
  refine⟨m1,c1,?_,r2,fun b' hb'=>?_,r4,fun j=>?_⟩
  ·show dO P ((store (Addr.add ⟨b,off,none⟩ i) v).bind _) m=_;rw [gz,e1];exact r1
  ·rw [r3 b' hb'];show (Tr.set (b+1) m.t b _).get b'=_;rw [fA,if_neg hb']
  rw [r5 j];by_cases h1:off+(i+1)≤j∧j<off+(i+1)+cs.length
  ·rw [if_pos h1,if_pos (by simp;omega)];obtain⟨d,rfl⟩:∃d,j=off+i+1+d:=⟨j - (off+i+1),by omega⟩;have a1:off+i+1+d - (off+(i+1))=d:=(by omega);have a2:off+i+1+d - (off+i)=d+1:=(by omega);rw [a1,a2];simp
  rw [if_neg h1,Tr.get_set _ _ _ _ _ (by omega)];by_cases h2:j=off+i
  ·subst h2;simp
  rw [if_neg h2,if_neg (by simp;omega)]
def vJ(P:Program)(t:TypeId): Option Nat:=match gq P (isAgg t)with | some true=>gq P (sizeOf t) | _=>none
def gU(v:Value): List Value:=match v with | .agg ⟨cs⟩=>cs | v=>[v]
def Vy(P:Program)(E:eX)(m:dJ)(t:TypeId)(x:Operand): CE:=Cc E x fun v=>match v with
 | .pointer (some ⟨b,off,none⟩)=>(match vJ P t with
  | some n=>(match m.t.get b with
   | some (.cells c N _ _)=>(match c with
    | .L l=>bif Nat.ble (off+n) N then zW (KR l off) n (fun r=>some (.value (.agg ⟨r⟩),m)) none else none
    | _=>none)
   | _=>none)
  | none=>none)
 | _=>none
def VN(P:Program)(E:eX)(m:dJ)(t:TypeId)(x y:Operand): CE:=Cc E x fun v=>Cc E y fun u=>match v with
 | .pointer (some ⟨b,off,none⟩)=>(match gq P (sizeOf t)with
  | some n=>bif Nat.beq (gU u).length n && (gU u).all (fun v=>!jb v) then (match m.t.get b with
   | some (.cells c N e g)=>(match c with
    | .L l=>bif Nat.ble (off+n) N then Py l off (gU u) (fun r=>m.put b (.cells (.L r) N e g) fun m=>some (.skip,m)) none else none
    | _=>none)
   | _=>none) else none
  | none=>none)
 | _=>none
def TY(m:dJ)(t:TypeId)(v:Value): CE:=gQ (gU v).length fun n=>m.push (.cells (.L (gU v)) n t false) fun m'=>some (.value (.pointer (some ⟨m.next,0,none⟩)),m')
def WH(E:eX)(m:dJ)(t:TypeId)(x:Operand): CE:=Cc E x fun v=>TY m t v
def O3(P:Program)(m:dJ)(t:TypeId): CE:=match gq P (zeroValue t)with | some v=>TY m t v | none=>none
def Vo(P:Program)(E:eX)(m:dJ)(t:TypeId)(x y:Operand): CE:=Cc E x fun v=>Cc E y fun u=>match v with
 | .agg ⟨cs⟩=>(match u with
  | .int _ (.ofNat i)=>(match P.underlying t with
   | some (.array len elem)=>bif Nat.blt i len then (match vJ P elem with
    | some n=>zW (KR cs (i*n)) n (fun r=>some (.value (.agg ⟨r⟩),m)) none
    | none=>none) else none
   | _=>none)
  | _=>none)
 | _=>none
def BA(E:eX)(place:Nat→Option (Nat×Nat)): List (Nat×Operand)→List Value→(List Value→CE)→CE
 | [],cells,c=>c cells
 | (i,x) :: rest,cells,c=>Cc E x fun v=>match place i with
  | some (off,size)=>Nat.casesOn size none fun k=>bif Nat.beq (gU v).length (k+1) then Py cells off (gU v) (fun cells=>BA E place rest cells c) none else none
  | none=>none
def OV(P:Program)(fields:Array Field): Option (Array (Nat×Nat)):=gq P (fields.mapM fun f=>do pure (f.offset,←sizeOf f.type))
def zS(P:Program)(E:eX)(m:dJ)(t:TypeId)(parts:Array (Nat×Operand)): CE:=match gq P (zeroValue t)with
 | some z=>(match P.underlying t with
  | some (.struct fields)=>(match OV P fields with
   | some places=>BA E (places[·]?) parts.toList (gU z) fun r=>some (.value (.agg ⟨r⟩),m)
   | none=>none)
  | some (.array _ elem)=>(match gq P (sizeOf elem)with
   | some size=>BA E (fun i=>some (i*size,size)) parts.toList (gU z) fun r=>some (.value (.agg ⟨r⟩),m)
   | none=>none)
  | _=>none)
 | none=>none
def zT(z:List Value)(n:Nat): List Value:=Nat.rec [] (fun _ ih=>z ++ ih) n
def yw(P:Program)(E:eX)(m:dJ)(t:TypeId)(len:Nat)(parts:Array (Nat×Operand)): CE:=bif Nat.blt len G then (match P.underlying t with
 | some (.slice elem)=>(match gq P (sizeOf elem)with
  | some size=>bif Nat.ble (len*size) 16777216 then (match gq P (zeroValue elem)with
   | some z=>bif Nat.beq (gU z).length size then BA E (fun i=>some (i*size,size)) parts.toList (zT (gU z) len) fun r=>
    gQ (len*size) fun n=>m.push (.cells (.L r) n elem false) fun m'=>some (.value (.slice (some ⟨m.next,0,none⟩) len len),m') else none
   | none=>none) else none
  | none=>none)
 | _=>none) else none
def VU(P:Program)(E:eX)(m:dJ)(o:Op): CE:=
 match o with
 | .load t x=>Vy P E m t x
 | .store t x y=>VN P E m t x y
 | .box t x=>WH E m t x
 | .alloc t=>O3 P m t
 | .index t x y=>Vo P E m t x y
 | .build t parts=>zS P E m t parts
 | .buildSlice t len parts=>yw P E m t len parts
 | _=>none
theorem lS(v:Value): v.cells=⟨gU v⟩:=by cases v <;> rfl
theorem Lu(m:dJ)(t:TypeId)(v:Value){r:Next×dJ}(h:TY m t v=some r):
  ∃a m1,r=(.value (.pointer (some a)),m1)∧dO P (newVar t v) m=some (a,m1):=by
 unfold TY at h;rw [dW,dJ.push_eq]at h;cases h;refine⟨_,_,rfl,?_⟩;unfold newVar newRow newObj;rw [lS];show dO P (Sem.bind (.new (.cells ⟨gU v⟩ t) .pure) _) m=_;rw [gz];simp only [dO,jl,qm,dW,dJ.push_eq];rfl
theorem pV{t:TypeId}{n:Nat}(h:vJ P t=some n): gq P (isAgg t)=some true∧gq P (sizeOf t)=some n:=by
 unfold vJ at h;split at h
 ·rename_i h1;exact⟨h1,h⟩
 cases h
theorem qx{s:Sem Value}{m m1:dJ}{v:Value}(h:dO P s m=some (v,m1)): dO P (N8 s) m=some (.value v,m1):=by show dO P (s.bind _) m=_;rw [gz,h];rfl
theorem SG{s:Sem Unit}{m m1:dJ}(h:dO P s m=some ((),m1)): dO P (WR s) m=some (.skip,m1):=by show dO P (s.bind _) m=_;rw [gz,h];rfl
theorem CV(off:Nat): ∀(cs:List Value) (k:Nat) (a:Array Value) (i:Nat),
  ((cs.zipIdx k).foldl (fun (cs:Array Value) (x:Value×Nat)=>cs.setIfInBounds (off+x.2) x.1) a)[i]?=if off+k≤i∧i<off+k+cs.length∧i<a.size then cs[i - (off+k)]? else a[i]?
 | [],k,a,i=>by rw [if_neg (by simp;omega)];rfl
 | c :: cs,k,a,i=>by
  rw [List.zipIdx_cons,List.foldl_cons,CV off cs (k+1)];by_cases h1:off+(k+1)≤i∧i<off+(k+1)+cs.length∧i<(a.setIfInBounds (off+k) c).size
  ·rw [if_pos h1,if_pos (by simp at h1 ⊢;omega)];obtain⟨d,rfl⟩:∃d,i=off+k+1+d:=⟨i - (off+k+1),by omega⟩;have a1:off+k+1+d - (off+(k+1))=d:=(by omega);have a2:off+k+1+d - (off+k)=d+1:=(by omega);rw [a1,a2];simp
  rw [if_neg h1,Array.getElem?_setIfInBounds];simp only [Array.size_setIfInBounds]at h1;by_cases h2:off+k=i
  ·subst h2;rw [if_pos rfl];by_cases h3:off+k<a.size
   ·rw [if_pos h3,if_pos (by simp;omega)];simp
   rw [if_neg h3,if_neg (by omega),Array.getElem?_eq_none (by omega)]
  rw [if_neg h2,if_neg (by simp;omega)]
theorem qC{E:eX}{place:Nat→Option (Nat×Nat)}: ∀(parts:List (Nat×Operand)) (cells:List Value) (c:List Value→CE) {x:Next×dJ},BA E place parts cells c=some x→
  (∀p∈parts,jM E p.2=true)∧∃r,Instr.fill place ⟨cells⟩ (parts.map fun p=>(p.1,ev E p.2))=some ⟨r⟩∧c r=some x∧r.length=cells.length
 | [],cells,c,x,h=>⟨fun _ h=>(by simp at h),cells,rfl,h,rfl⟩
 | (i,y) :: rest,cells,c,x,h=>by
  obtain⟨h1,h2⟩:=gu h;simp only at h2;cases hp:place i with
  | none=>rw [hp]at h2;cases h2
  | some q=>
   obtain⟨off,size⟩:=q;rw [hp]at h2;cases size with
   | zero=>cases h2
   | succ k=>
    simp only at h2;obtain⟨hl,h2⟩:=dE h2;have hl:=Nat.eq_of_beq_eq_true hl;obtain⟨r,r1,r2,r3⟩:=qo _ _ _ _ _ h2;obtain⟨q1,s,q2,q3,q4⟩:=qC rest r c r1;refine⟨fun p hp=>?_,s,?_,q3,q4.trans r2⟩
    ·rcases List.mem_cons.1 hp with rfl | hp
     ·exact h1
     exact q1 p hp
    simp only [List.map_cons,Instr.fill,hp,lS];have hb:off+(gU (ev E y)).length≤cells.length:=(by have:=r3 (off+k);rw [if_pos (by omega),show off+k - off=k by omega,List.getElem?_eq_getElem (show k<(gU (ev E y)).length by omega)]at this;have:=(List.getElem?_eq_some_iff.1 this).1;omega);rw [if_neg (by simp;omega)];have e:((⟨gU (ev E y)⟩:Array Value).zipIdx.foldl (fun (cs:Array Value) (x:Value×Nat)=>cs.setIfInBounds (off+x.2) x.1) ⟨cells⟩)=⟨r⟩:=by
     have e0:(⟨gU (ev E y)⟩:Array Value).zipIdx.foldl (fun (cs:Array Value) (x:Value×Nat)=>cs.setIfInBounds (off+x.2) x.1) ⟨cells⟩ =
       ((gU (ev E y)).zipIdx 0).foldl (fun (cs:Array Value) (x:Value×Nat)=>cs.setIfInBounds (off+x.2) x.1) ⟨cells⟩:=by
      rw [←Array.foldl_toList,Array.toList_zipIdx]
     rw [e0];refine Array.ext_getElem? fun j=>?_;rw [CV];have hr:=r3 j;rw [show (⟨r⟩:Array Value)[j]?=r[j]? by simp,show (⟨cells⟩:Array Value)[j]?=cells[j]? by simp,hr];by_cases hc:off≤j∧j<off+(gU (ev E y)).length
     ·rw [if_pos hc,if_pos ⟨by omega,by omega,by show j<cells.length;omega⟩];rfl
     rw [if_neg hc,if_neg (by omega)]
    rw [e];exact q2
theorem jm{A C:Type}(f:A→Sem C): ∀(s:Sem A) {a:A},gq P s=some a→gq P (s.bind f)=gq P (f a)
 | .pure _,_,h=>by cases h;rfl
 | .program k,_,h=>jm f (k P) h
 | .mark _ k,_,h=>jm f k h
 | .load ..,_,h=>by cases h
 | .store ..,_,h=>by cases h
 | .new ..,_,h=>by cases h
 | .shape ..,_,h=>by cases h
 | .freeze ..,_,h=>by cases h
 | .frozen ..,_,h=>by cases h
 | .getObj ..,_,h=>by cases h
 | .setObj ..,_,h=>by cases h
 | .choose ..,_,h=>by cases h
 | .sys ..,_,h=>by cases h
 | .halt _,_,h=>by cases h
theorem wS(z:List Value): ∀(len i:Nat),(zT z len)[i]?=if i<len*z.length then z[i % z.length]? else none
 | 0,i=>by rw [if_neg (by omega)];rfl
 | len+1,i=>by
  show (z ++ zT z len)[i]?=_;rw [Nat.add_mul,Nat.one_mul];by_cases h:i<z.length
  ·rw [List.getElem?_append_left h,if_pos (by omega),Nat.mod_eq_of_lt h]
  rw [List.getElem?_append_right (by omega),wS z len];by_cases h2:i - z.length<len*z.length
  ·rw [if_pos h2,if_pos (by omega),←Nat.mod_eq_sub_mod (by omega)]
  rw [if_neg h2,if_neg (by omega)]
theorem Jf(z:Array Value)(len:Nat): (Array.range (len*z.size)).map (fun i=>z[i % z.size]!)=⟨zT z.toList len⟩:=by
 refine Array.ext_getElem? fun i=>?_;rw [show (⟨zT z.toList len⟩:Array Value)[i]?=(zT z.toList len)[i]? by simp,wS];simp only [Array.length_toList];by_cases h:i<len*z.size
 ·have h0:i % z.size<z.size:=Nat.mod_lt _ (by
   rcases Nat.eq_zero_or_pos z.size with e | e
   ·rw [e]at h;simp at h
   exact e)
  rw [if_pos h,Array.getElem?_map,Array.getElem?_range,if_pos h,Option.map_some,getElem!_pos z _ h0];simp [h0]
 rw [if_neg h,Array.getElem?_map,Array.getElem?_range,if_neg h];rfl
theorem TS{E:eX}{o:Oper}{m m2:dJ}{nx:Next}(h:VU P E m o.op=some (nx,m2)):
  ∃m1,Rz P E o m=some (nx,m1)∧Qe m1 m2∧∀b,m1.t.get b=m2.t.get b∨(m.t.get b≠none∧∃x∈o.op.operands,jM E x=true∧∃off,ev E x=.pointer (some ⟨b,off,none⟩)):=by
 have same:Rz P E o m=some (nx,m2)→∃m1,Rz P E o m=some (nx,m1)∧Qe m1 m2∧∀b,m1.t.get b=m2.t.get b∨(m.t.get b≠none∧∃x∈o.op.operands,jM E x=true∧∃off,ev E x=.pointer (some ⟨b,off,none⟩)):=
  fun h=>⟨m2,h,⟨rfl,fun _=>.refl _⟩,fun _=>.inl rfl⟩
 unfold Rz at same ⊢;rw [pR]at same ⊢;obtain⟨d,op,t,p,af,g⟩:=o;simp only at h same ⊢;cases op with
 | load t x=>
  refine same ?_;obtain⟨h1,h2⟩:=gu h;have e:(Op.load t x).operands.toList.all (jM E)=true:=by simp [Op.operands,h1]
  rw [e];simp only [cond_true,lI,execOp];split at h2
  ·rename_i b off hv;rw [hv];split at h2
   ·rename_i n hn;obtain⟨ha,hs⟩:=pV hn;split at h2
    ·rename_i c N e g hb;split at h2
     ·rename_i l;obtain⟨hN,h2⟩:=dE h2;rw [vT,sJ]at h2;split at h2
      ·rename_i hl;cases h2;have hN:=Nat.le_of_ble_eq_true hN;refine qx ?_;show dO P (loadVar t ⟨b,off,none⟩) m=_;unfold loadVar;rw [dH _ _ ha];simp only [if_true];rw [dH _ _ hs];have hlen:((l.drop off).take n).length=n:=(by rw [List.length_take];omega);have:=nR (P:=P) (m:=m) (b:=b) (off:=off) ((l.drop off).take n) 0 #[] (fun j hj=>by
        have hj':j<n:=(by rw [hlen]at hj;exact hj);rw [zO (off:=off+0+j) hb (by omega),Tr.get_L];rw [List.getElem?_take,if_pos hj',List.getElem?_drop];congr 1)
       rw [hlen]at this;show dO P ((loadCells ⟨b,off,none⟩ n).bind _) m=_;rw [gz];unfold loadCells;rw [this];simp;rfl
      cases h2
     cases h2
    cases h2
   cases h2
  cases h2
 | store t x y=>
  obtain⟨h1,h2⟩:=gu h;obtain⟨h3,h4⟩:=gu h2;have e:(Op.store t x y).operands.toList.all (jM E)=true:=by simp [Op.operands,h1,h3]
  rw [e];simp only [cond_true,lI,execOp];split at h4
  ·rename_i b off hv;split at h4
   ·rename_i n hs;obtain⟨hc,h4⟩:=dE h4;rw [Bool.and_eq_true]at hc;obtain⟨hlen,hnc⟩:=hc;have hlen:=Nat.eq_of_beq_eq_true hlen;split at h4
    ·rename_i c N te g hb;split at h4
     ·rename_i l;obtain⟨hN,h4⟩:=dE h4;have hN:=Nat.le_of_ble_eq_true hN;obtain⟨r,r1,r2,r3⟩:=qo _ _ _ _ _ h4;rw [dJ.put_eq]at r1;cases r1;obtain⟨m1,c1,q1,q2,q3,q4,q5⟩:=qH (P:=P) (off:=off) (gU (ev E y)) 0 m (.L l) hb (by omega) (fun v hv'=>by
       have:=List.all_eq_true.1 hnc v hv';simpa using this)
      refine⟨m1,?_,⟨q2,fun b'=>?_⟩,fun b'=>?_⟩
      ·refine SG ?_;show dO P (Instr.storeAt t (ev E x) (ev E y)) m=_;rw [hv];show dO P (storeVar t ⟨b,off,none⟩ (ev E y)) m=_;unfold storeVar;rw [dH _ _ hs];rw [lS];rw [if_neg (by simp [hlen])];exact q1
      ·show Gv (m1.t.get b') ((Tr.set (b+1) m.t b (.cells (.L r) N te g)).get b');rw [fA];by_cases hbb:b'=b
       ·subst hbb;rw [if_pos rfl,q4];refine .cells fun i _=>?_;rw [q5 i,Tr.get_L,Tr.get_L,r3 i];rfl
       rw [if_neg hbb,q3 b' hbb];exact .refl _
      by_cases hbb:b'=b
      ·subst hbb;exact .inr ⟨(by rw [hb];exact fun h=>by cases h),x,by simp [Op.operands],h1,off,hv⟩
      refine .inl ?_;show m1.t.get b'=(Tr.set (b+1) m.t b (.cells (.L r) N te g)).get b';rw [fA,if_neg hbb,q3 b' hbb]
     cases h4
    cases h4
   cases h4
  cases h4
 | box t x=>
  refine same ?_;obtain⟨h1,h2⟩:=gu h;have e:(Op.box t x).operands.toList.all (jM E)=true:=by simp [Op.operands,h1]
  rw [e];simp only [cond_true,lI,execOp];obtain⟨a,m1,r1,r2⟩:=Lu (P:=P) m t _ h2;cases r1;refine qx ?_;show dO P ((newVar t (ev E x)).bind _) m=_;rw [gz,r2];rfl
 | alloc t=>
  refine same ?_;simp only [VU,O3]at h;split at h
  ·rename_i v hz;obtain⟨a,m1,r1,r2⟩:=Lu (P:=P) m t v h;cases r1;refine qx (s:=Instr.alloc t true (.tuple #[])) ?_;unfold Instr.alloc;show dO P (zeroValue t >>= _) m=_;rw [dH _ _ hz];show dO P ((newVar t v).bind _) m=_;rw [gz,r2];rfl
  cases h
 | index t x y=>
  refine same ?_;obtain⟨h1,h2⟩:=gu h;obtain⟨h3,h4⟩:=gu h2;have e:(Op.index t x y).operands.toList.all (jM E)=true:=by simp [Op.operands,h1,h3]
  rw [e];simp only [cond_true,lI,execOp];split at h4
  ·rename_i cs hv;split at h4
   ·rename_i k i hu;split at h4
    ·rename_i len elem hun;obtain⟨hi,h4⟩:=dE h4;have hi:=dR.1 hi;split at h4
     ·rename_i n hn;obtain⟨ha,hs⟩:=pV hn;rw [vT,sJ]at h4;split at h4
      ·cases h4;refine qx ?_;rw [hv,hu];have hun':gq P (underlying t)=some (.array len elem):=(by have:gq P (underlying t)=gq P (match P.underlying t with | some d=>(pure d:Sem TypeDesc) | none=>stuck "no such type"):=rfl;rw [this,hun];rfl);show dO P (underlying t >>= _) m=_;rw [dH _ _ hun'];simp only;rw [if_pos ⟨Int.natCast_nonneg _,Int.ofNat_lt.2 hi⟩];show dO P (sizeOf elem >>= _) m=_;rw [dH _ _ hs];unfold part;rw [dH _ _ ha];simp only [if_true];show dO P (sizeOf elem >>= _) m=_;rw [dH _ _ hs];simp [dO,pure,List.extract_eq_take_drop]
      cases h4
     cases h4
    cases h4
   cases h4
  cases h4
 | buildSlice t len parts=>
  refine same ?_;simp only [VU,yw]at h;obtain⟨hG,h⟩:=dE h;split at h;case h_2=>cases h
  rename_i elem hun;split at h;case h_2=>cases h
  rename_i size hs;obtain⟨hb,h⟩:=dE h;have hb:=Nat.le_of_ble_eq_true hb;split at h;case h_2=>cases h
  rename_i z hz;obtain⟨hl,h⟩:=dE h;have hl:=Nat.eq_of_beq_eq_true hl;obtain⟨q1,r,q2,q3,q4⟩:=qC _ _ _ h;rw [dW,dJ.push_eq]at q3;cases q3;have hzl:z.cells.size=size:=by rw [lS];exact hl
  have hrl:r.length=len*size:=by
   have hno:(zT (gU z) len)[len*size]?=none:=(by rw [wS,hl,if_neg (by omega)]);have h1:=List.getElem?_eq_none_iff.1 hno;rcases Nat.eq_zero_or_pos (len*size)with e | e
   ·rw [q4];omega
   have hyes:(zT (gU z) len)[len*size - 1]?≠none:=by
    rw [wS,hl,if_pos (by omega)];have hp:0<size:=Nat.pos_of_ne_zero fun e0=>by rw [e0]at e;simp at e
    rw [List.getElem?_eq_getElem (by rw [hl];exact Nat.mod_lt _ hp)];exact fun h=>by cases h
   have h2:len*size - 1<(zT (gU z) len).length:=(by apply Classical.byContradiction;intro hc;exact hyes (List.getElem?_eq_none (by omega)));rw [q4];omega
  have hop:(Op.buildSlice t len parts).operands.toList.all (jM E)=true:=by refine List.all_eq_true.2 fun x hx=>?_;simp only [Op.operands]at hx;obtain⟨y,hy,rfl⟩:∃y∈parts.toList,y.2=x:=(by simpa using hx);exact q1 y hy
  rw [hop];simp only [cond_true,lI,hG,execOp];refine qx (s:=Instr.buildSlice t len (ja E parts)) ?_;have hun':gq P (underlying t)=some (.slice elem):=by have:gq P (underlying t)=gq P (match P.underlying t with | some d=>(pure d:Sem TypeDesc) | none=>stuck "no such type"):=rfl;rw [this,hun];rfl
  unfold Instr.buildSlice;rw [dH _ _ hun'];simp only;rw [dH _ _ hs,if_neg (by omega)];have hpt:(ja E parts).toList=parts.toList.map fun p=>(p.1,ev E p.2):=by unfold ja;simp
  have fin:∀(zc:Array Value),(Array.range (len*size)).map (fun i=>zc[i % zc.size]!)=⟨zT (gU z) len⟩→
    dO P (do
     let some cells:=Instr.fill (fun i=>some (i*size,size)) ((Array.range (len*size)).map (fun i=>zc[i % zc.size]!)) (ja E parts).toList | stuck "buildSlice: a part of the wrong size"
     pure (Value.slice (some (←newRow elem cells)) len len)) m=some (.slice (some ⟨m.next,0,none⟩) len len,⟨Tr.set (m.next+1) m.t m.next (.cells (.L r) (len*size) elem false),m.next+1⟩):=by
   intro zc hzc;rw [hzc,hpt,q2];show dO P ((newRow elem ⟨r⟩).bind _) m=_;unfold newRow newObj;rw [gz];show (dO P (Sem.bind (.new (.cells ⟨r⟩ elem) .pure) _) m).bind _=_;rw [gz];simp only [dO,jl,qm,dW,dJ.push_eq];rw [←hrl];rfl
  by_cases h0:len*size=0
  ·simp only [h0,if_true];have:=fin #[] (by
    rw [h0];have:zT (gU z) len=[]:=(by rw [←List.length_eq_zero_iff,←q4,hrl,h0]);rw [this];simp)
   rw [h0]at this;exact this
  simp only [h0,if_false];rw [dH _ _ hz];refine fin z.cells ?_;have:=Jf z.cells len;rw [hzl]at this;rw [hzl,this,lS]
 | build t parts=>
  refine same ?_;have fin:∀(place:Nat→Option (Nat×Nat)) (z:Value),BA E place parts.toList (gU z) (fun r=>some (.value (.agg ⟨r⟩),m))=some (nx,m2)→
    (Op.build t parts).operands.toList.all (jM E)=true∧∃r,Instr.fill place z.cells (ja E parts).toList=some r∧(nx,m2)=(.value (.agg r),m):=by
   intro place z hf;obtain⟨q1,r,q2,q3,-⟩:=qC _ _ _ hf;refine⟨List.all_eq_true.2 fun x hx=>?_,⟨r⟩,?_,(Option.some.inj q3).symm⟩
   ·simp only [Op.operands]at hx;obtain⟨y,hy,rfl⟩:∃y∈parts.toList,y.2=x:=(by simpa using hx);exact q1 y hy
   rw [lS];have:(ja E parts).toList=parts.toList.map fun p=>(p.1,ev E p.2):=(by unfold ja;simp);rw [this];exact q2
  simp only [VU,zS]at h;split at h;case h_2=>cases h
  rename_i z hz;split at h
  ·rename_i fields hun;split at h
   ·rename_i places hpl;obtain⟨e,r,q1,q2⟩:=fin _ z h;rw [e];simp only [cond_true,lI,execOp];cases q2;refine qx (s:=Instr.build t (ja E parts)) ?_;unfold Instr.build;rw [dH _ _ hz];have hun':gq P (underlying t)=some (.struct fields):=(by have:gq P (underlying t)=gq P (match P.underlying t with | some d=>(pure d:Sem TypeDesc) | none=>stuck "no such type"):=rfl;rw [this,hun];rfl);show dO P (underlying t >>= _) m=_;rw [dH _ _ hun'];simp only;rw [dH _ _ hpl,q1];rfl
   cases h
  ·rename_i len elem hun;split at h
   ·rename_i size hs;obtain⟨e,r,q1,q2⟩:=fin _ z h;rw [e];simp only [cond_true,lI,execOp];cases q2;refine qx (s:=Instr.build t (ja E parts)) ?_;unfold Instr.build;rw [dH _ _ hz];have hun':gq P (underlying t)=some (.array len elem):=(by have:gq P (underlying t)=gq P (match P.underlying t with | some d=>(pure d:Sem TypeDesc) | none=>stuck "no such type"):=rfl;rw [this,hun];rfl);show dO P (underlying t >>= _) m=_;rw [dH _ _ hun'];simp only;rw [dH _ _ hs,q1];rfl
   cases h
  cases h
 | _=>cases h
theorem GH{E:eX}{m m2:dJ}{nx:Next}{t:TypeId}{parts:Array (Nat×Operand)}(h:zS P E m t parts=some (nx,m2)):
  (∀x∈(Op.build t parts).operands,jM E x=true)∧gq P (KN E t parts)=some nx:=by
 have fin:∀(place:Nat→Option (Nat×Nat)) (z:Value),BA E place parts.toList (gU z) (fun r=>some (.value (.agg ⟨r⟩),m))=some (nx,m2)→
   (∀x∈(Op.build t parts).operands,jM E x=true)∧∃r,Instr.fill place z.cells (ja E parts).toList=some r∧(nx,m2)=(.value (.agg r),m):=by
  intro place z hf;obtain⟨q1,r,q2,q3,-⟩:=qC _ _ _ hf;refine⟨fun x hx=>?_,⟨r⟩,?_,(Option.some.inj q3).symm⟩
  ·simp only [Op.operands]at hx;obtain⟨y,hy,rfl⟩:∃y∈parts.toList,y.2=x:=(by simpa using hx);exact q1 y hy
  rw [lS];have:(ja E parts).toList=parts.toList.map fun p=>(p.1,ev E p.2):=by unfold ja;simp
  rw [this];exact q2
 have exv:∀{s:Sem Value} {v:Value},gq P s=some v→gq P (N8 s)=some (.value v):=by intro s v hs;show gq P (s.bind _)=_;rw [jm _ _ hs];rfl
 simp only [zS]at h;split at h;case h_2=>cases h
 rename_i z hz;split at h
 ·rename_i fields hun;split at h
  ·rename_i places hpl;obtain⟨e,r,q1,q2⟩:=fin _ z h;cases q2;refine⟨e,exv (s:=Instr.build t (ja E parts)) ?_⟩;unfold Instr.build;refine (jm _ _ hz).trans ?_;have hun':gq P (underlying t)=some (.struct fields):=(by have:gq P (underlying t)=gq P (match P.underlying t with | some d=>(pure d:Sem TypeDesc) | none=>stuck "no such type"):=rfl;rw [this,hun];rfl);refine (jm _ _ hun').trans ?_;simp only;refine (jm _ _ hpl).trans ?_;rw [q1];rfl
  cases h
 ·rename_i len elem hun;split at h
  ·rename_i size hs;obtain⟨e,r,q1,q2⟩:=fin _ z h;cases q2;refine⟨e,exv (s:=Instr.build t (ja E parts)) ?_⟩;unfold Instr.build;refine (jm _ _ hz).trans ?_;have hun':gq P (underlying t)=some (.array len elem):=(by have:gq P (underlying t)=gq P (match P.underlying t with | some d=>(pure d:Sem TypeDesc) | none=>stuck "no such type"):=rfl;rw [this,hun];rfl);refine (jm _ _ hun').trans ?_;simp only;refine (jm _ _ hs).trans ?_;rw [q1];rfl
  cases h
 cases h
def OZ(P:Program)(E:eX)(o:Oper)(m:dJ): CE:=
 match o with
 | ⟨d,op,t,p,af,g⟩=>match WF P E m op with
  | some r=>some r
  | none=>match VU P E m op with
   | some r=>some r
   | none=>Rz P E ⟨d,op,t,p,af,g⟩ m
theorem Jm{α:AM}(hz:jc P)(hn:uI P){E:eX}{a:Act}{m m2:dJ}{w:World}{o:Oper}{nx:Next}(hr:lL P α m w)(hE:∀x∈o.op.operands,jM E x=true→VR α (ev E x) (a.eval x))(hT:QY P o.op=true)(h:OZ P E o m=some (nx,m2)):
  ∃β nx' w1,NR β nx nx'∧nY P α m w β m2 w1∧(execOp a.eval o).run P w=.ok nx' w1:=by
 obtain⟨d,op,t,p,af,g⟩:=o;unfold OZ at h;simp only at h;cases hf:WF P E m op with
 | some r=>
  rw [hf]at h;cases h;exact xR hz hn hr hE hT (Ua (o:=⟨d,op,t,p,af,g⟩) hf)
 | none=>
  rw [hf]at h;cases hg:VU P E m op with
  | some r=>
   rw [hg]at h;cases h;obtain⟨m1,h1,h2,h3⟩:=TS (o:=⟨d,op,t,p,af,g⟩) hg;obtain⟨β,nx',w1,r1,r2,r3⟩:=xR hz hn hr hE hT h1;refine⟨β,nx',w1,r1,r2.memEq h2 fun b=>(h3 b).imp id ?_,r3⟩;rintro⟨q1,x,q2,q3,off,q4⟩;refine⟨?_,q1⟩;have hv:=hE x q2 q3;rw [q4]at hv;generalize a.eval x=u at hv;cases hv with
   | ptr hb=>rw [hb];exact fun h=>by cases h
  | none=>
   rw [hg]at h;exact xR hz hn hr hE hT h
end
end
section
noncomputable section
variable {P:Program} {α:AM}
def iR{A:Type}(P:Program)(D:Nat→Bool): Sem A→dJ→Option A
 | .pure a,_=>some a
 | .load _ a k,m=>bif D a.block then (match m.cell a with | some v=>iR P D (k v) m | none=>none) else none
 | .getObj r k,m=>bif D r then (match m.t.get r with | some (.obj o)=>iR P D (k o) m | _=>none) else none
 | .program k,m=>iR P D (k P) m
 | .mark _ k,m=>iR P D k m
 | _,_=>none
def ER{A:Type}(P:Program): Sem A→Nat→Option (A×Ob)
 | .new o k,nx=>(match o with
  | .cells c e fz=>(match fz with
   | (0,0)=>(match gq P (k nx)with
    | some a=>vO c.toList fun t=>gQ c.size fun n=>some (a,.cells t n e false)
    | none=>none)
   | _=>none)
  | .map es cl=>(match gq P (k nx)with
   | some a=>some (a,.obj (.map es cl))
   | none=>none)
  | _=>none)
 | .program k,nx=>ER P (k P) nx
 | .mark _ k,nx=>ER P k nx
 | _,_=>none
abbrev jX:=FuncId→Array Value→dJ→Option (Value×dJ)
def EL(P:Program)(self:jX)(E:eX)(o:Oper)(m:dJ): Option (eX×dJ):=
 match OZ P E o m with
 | some (nx,m)=>(match nx with
  | .value v=>E.put o.dst v fun E=>some (E,m)
  | .skip=>E.put o.dst undef fun E=>some (E,m)
  | .enter f args=>(match self f args m with
   | some (v,m)=>E.put o.dst v fun E=>some (E,m)
   | none=>none)
  | _=>none)
 | none=>none
def qF(ops:Array Oper)(E:eX)(o:Oper): Bool:=
 match o.guard with
 | none=>true
 | some (j,want)=>match ops[j]? with
  | some o'=>(match o'.dst with
   | some d=>bif Nat.blt d E.n then (match E.get d with | .bool b=>b == want | _=>false) else false
   | none=>false)
  | none=>false
def uO(P:Program)(self:jX)(ops:Array Oper): List Oper→eX→dJ→Option (eX×dJ)
 | [],E,m=>some (E,m)
 | o :: rest,E,m=>bif qF ops E o then (match EL P self E o m with
   | some (E,m)=>uO P self ops rest E m
   | none=>none)
  else E.put o.dst undef fun E=>uO P self ops rest E m
def foot(E:eX): Op→Option Nat
 | .load _ x=>(match ev E x with | .pointer (some a)=>some a.block | _=>none)
 | .lookup _ x _ _=>(match ev E x with | .map (some r)=>some r | _=>none)
 | .call c=>(match c.args with | ⟨[x]⟩=>(match ev E x with | .map (some r)=>some r | _=>none) | _=>none)
 | _=>none
def JC(E:eX): Op→Bool
 | .move _ | .assign _ | .pick .. | .build .. | .load .. | .nilCheck _ | .fieldAddr .. | .field .. | .indexAddr .. | .index .. | .makeInterface .. | .extract ..=>true
 | .lookup _ _ k _=>kR (ev E k)
 | .makeFunc (.func _) _ _=>true
 | .slice _ x _ _ _=>RY (ev E x)
 | .call c=>(match c.callee with | .builtin .len=>(match c.args with | ⟨[_]⟩=>true | _=>false) | _=>false)
 | _=>false
def TN:Op→Bool
 | .alloc _ | .box ..=>true
 | .buildSlice _ len _=>Nat.blt len G
 | .makeMap _ none=>true
 | _=>false
def qV(f:Option Nat)(b:Nat): Bool:=match f with | some c=>Nat.beq b c | none=>false
def EN(P:Program)(m:dJ)(t:TypeId)(b off:Nat): Option Value:=match vJ P t with
 | some n=>(match m.t.get b with
  | some (.cells c N _ _)=>(match c with
   | .L l=>bif Nat.ble (off+n) N then zW (KR l off) n (fun r=>some (.agg ⟨r⟩)) none else none
   | _=>none)
  | _=>none)
 | none=>bif FY P t then m.cell ⟨b,off,none⟩ else none
def fq(P:Program)(E:eX)(m:dJ): Op→Option Value
 | .load t x=>Cc E x fun v=>match v with
  | .pointer (some ⟨b,off,none⟩)=>EN P m t b off
  | _=>none
 | .build t parts=>(match zS P E m t parts with
  | some (nx,_)=>(match nx with | .value v=>some v | _=>none)
  | none=>none)
 | .move x=>Cc E x some
 | .assign x=>Cc E x some
 | _=>none
def JZ(P:Program)(E:eX)(o:Oper)(m:dJ): Option Value:=
 bif o.op.operands.toList.all (jM E) then
  bif JC E o.op then (match iR P (qV (foot E o.op)) (BO E o) m with
   | some (.value v)=>some v
   | _=>none)
  else bif Gz E o.op then (match gq P (BO E o)with
   | some (.value v)=>bif ig v then some v else none
   | _=>none)
  else (match o.op with
   | .slice t x lo hi mx=>FQ P t (ev E x) (lo.map (ev E)) (hi.map (ev E)) (mx.map (ev E))
   | .binOp op t x y _=>TP P op t (zF x || zF y) (ev E x) (ev E y)
   | _=>none)
 else none
def Aj(P:Program)(E:eX)(o:Oper)(m:dJ): Option Value:=
 match o with
 | ⟨d,op,t,p,af,g⟩=>match fq P E m op with
  | some v=>some v
  | none=>JZ P E ⟨d,op,t,p,af,g⟩ m
def PG(P:Program)(E:eX)(o:Oper)(id:Nat): Option (Value×Ob):=
 bif o.op.operands.toList.all (jM E) && TN o.op then (match ER P (BO E o) id with
  | some (.value v,ob)=>some (v,ob)
  | _=>none)
 else none
inductive Kd where
 | skip
 | quiet (f:Option Nat)
 | new
 | eff
structure Row where
 o:Oper
 k:Kd
 E:eX
 m:dJ
 E':eX
 m':dJ
def KF(P:Program)(self:jX)(ops:Array Oper)(o:Oper)(id:Nat)(E:eX)(m:dJ): Option Row:=
 bif qF ops E o then
  match Aj P E o m with
  | some v=>E.put o.dst v fun E'=>some ⟨o,.quiet (foot E o.op),E,m,E',m⟩
  | none=>match PG P E o id with
   | some (v,ob)=>m.put id ob fun m'=>E.put o.dst v fun E'=>some ⟨o,.new,E,m,E',m'⟩
   | none=>match EL P self E o m with
    | some (E',m')=>bif Nat.ble m.next m'.next then some ⟨o,.eff,E,m,E',m'⟩ else none
    | none=>none
 else E.put o.dst undef fun E'=>some ⟨o,.skip,E,m,E',m⟩
def I8(P:Program)(self:jX)(ops:Array Oper): List Oper→Nat→eX→dJ→Option (List Row×eX×dJ)
 | [],_,E,m=>some ([],E,m)
 | o :: rest,id,E,m=>match KF P self ops o id E m with
  | some r=>(match I8 P self ops rest (id+1) r.E' r.m' with
   | some (rs,E,m)=>some (r :: rs,E,m)
   | none=>none)
  | none=>none
def wO(o:Oper)(j:Nat): Bool:=o.after.toList.any fun e=>Region.binds .any e && Nat.beq e.on j
def Dy:Value→Value→Bool
 | .bool a,.bool b=>a == b
 | .int k a,.int l b=>k == l && a == b
 | .string a,.string b=>a.data.toList == b.data.toList
 | .pointer a,.pointer b=>a == b
 | .slice a l c,.slice b m d=>a == b && Nat.beq l m && Nat.beq c d
 | .map a,.map b=>a == b
 | .nilFunc,.nilFunc=>true
 | .nilIface,.nilIface=>true
 | _,_=>false
def tJ(c d:Tr Value): Nat→Bool
 | 0=>true
 | n+1=>(match c.get n,d.get n with | some x,some y=>Dy x y | _,_=>false) && tJ c d n
def wI:List MapEntry→List MapEntry→Bool
 | [],[]=>true
 | a :: x,b :: y=>Dy a.key b.key && Dy a.val b.val && Nat.beq a.born b.born && wI x y
 | _,_=>false
def Js:Option Ob→Option Ob→Bool
 | some (.cells c n _ g),some (.cells d k _ h)=>Nat.beq n k && (g == h) && tJ c d n
 | some (.obj (.map x c)),some (.obj (.map y d))=>Nat.beq c d && wI x.toList y.toList
 | _,_=>false
def uM(o:Oper)(acc:List Nat): Nat:=o.after.toList.foldl (fun s e=>bif Region.binds .any e then (s ||| 2 ^ e.on) ||| acc.getD e.on 0 else s) 0
def CO:List Oper→List Nat→List Nat
 | [],acc=>acc
 | o :: rest,acc=>gQ (uM o acc) fun k=>CO rest (acc ++ [k])
def yY(b:List Nat)(j i:Nat): Bool:=(b.getD j 0).testBit i
def tX(b:List Nat): List Row→Nat→Option Nat→Bool
 | [],_,_=>true
 | r :: rs,i,last=>match r.k with
  | .eff=>(match last with | some e=>yY b i e | none=>true) && tX b rs (i+1) (some i)
  | _=>tX b rs (i+1) last
def qZ(cl:List Nat)(i:Nat)(b:Nat): List Row→Nat→Bool
 | [],_=>true
 | r :: rs,e=>(match r.k with
  | .eff=>Nat.beq i e || (Nat.blt i e && yY cl e i) || (Nat.blt e i && yY cl i e) || Nat.ble r.m.next b || Js (r.m.t.get b) (r.m'.t.get b)
  | _=>true) && qZ cl i b rs (e+1)
def vw(cl:List Nat)(all:List Row): List Row→Nat→Bool
 | [],_=>true
 | r :: rs,i=>(match r.k with
  | .quiet (some b)=>qZ cl i b all 0
  | _=>true) && vw cl all rs (i+1)
def FH(P:Program)(self:jX)(ops:Array Oper)(E:eX)(m:dJ): Option (eX×dJ):=
 gQ (m.next+ops.toList.length) fun nx=>match I8 P self ops ops.toList m.next E ⟨m.t,nx⟩with
 | some (rs,E,m)=>oU (CO ops.toList []) fun cl=>bif tX cl rs 0 none && vw cl rs rs 0 then some (E,m) else none
 | none=>none
def jF:List Oper→Nat→Nat→Option Nat
 | [],_,_=>none
 | o :: rest,t,i=>match o.dst with
  | some d=>bif Nat.beq d t then some i else jF rest t (i+1)
  | none=>jF rest t (i+1)
def uz(ops:List Oper)(o:Oper)(i:Nat): Bool:=
 (o.after.toList.all fun e=>!(Region.binds .any e) || Nat.blt e.on i) &&
 (match o.dst with | some d=>jF ops d 0 == some i | none=>true) &&
 (o.op.operands.toList.all fun x=>match x with
  | .tmp t=>(match jF ops t 0 with
   | some j=>Nat.beq j i || (Nat.blt j i && wO o j) || (Nat.blt i j && (match ops[j]? with | some p=>wO p i | none=>false))
   | none=>true)
  | _=>true) &&
 (match o.guard with | some (j,_)=>Nat.blt j i && wO o j | none=>true) &&
 (match o.op with | .select ..=>false | _=>true)
def qQ(ops:List Oper): List Oper→Nat→Bool
 | [],_=>true
 | o :: rest,i=>uz ops o i && qQ ops rest (i+1)
def kX(P:Program): Code→Bool
 | .region _ ops draw=>(ops.toList.all fun o=>QY P o.op) && (!draw || qQ ops.toList ops.toList 0)
 | .seq x y=>kX P x && kX P y
 | .cond _ x y=>kX P x && kX P y
 | .block _ c=>kX P c
 | .loop c=>kX P c
 | _=>true
def VD(P:Program)(fn:Func): Bool:=match fn.body with | some c=>kX P c | none=>true
inductive Ex where
 | normal
 | exit (id:Nat)
 | ret
def rounds(f:eX→dJ→Option (Ex×eX×dJ)): Nat→eX→dJ→Option (Ex×eX×dJ)
 | 0,_,_=>none
 | n+1,E,m=>match f E m with
  | some (ex,E,m)=>(match ex with
   | .normal=>rounds f n E m
   | ex=>some (ex,E,m))
  | none=>none
def jQ(P:Program)(self:jX)(lf:Nat): Code→eX→dJ→Option (Ex×eX×dJ)
 | .skip,E,m=>some (.normal,E,m)
 | .ret,E,m=>some (.ret,E,m)
 | .exit id,E,m=>some (.exit id,E,m)
 | .region _ ops draw,E,m=>(match (bif draw then FH P self ops E m else uO P self ops ops.toList E m)with
  | some (E,m)=>some (.normal,E,m)
  | none=>none)
 | .seq x y,E,m=>(match jQ P self lf x E m with
  | some (ex,E,m)=>(match ex with
   | .normal=>jQ P self lf y E m
   | ex=>some (ex,E,m))
  | none=>none)
 | .cond c x y,E,m=>bif jM E c then (match ev E c with
   | .bool b=>(match b with
    | true=>jQ P self lf x E m
    | false=>jQ P self lf y E m)
   | _=>none)
  else none
 | .block id c,E,m=>(match jQ P self lf c E m with
  | some (ex,E,m)=>(match ex with
   | .exit j=>bif Nat.beq j id then some (.normal,E,m) else some (.exit j,E,m)
   | ex=>some (ex,E,m))
  | none=>none)
 | .loop c,E,m=>rounds (jQ P self lf c) lf E m
 | _,_,_=>none
def eX.at(E:eX)(t:Nat): Value:=bif Nat.blt t E.n then E.get t else undef
def xX(fn:Func)(g:Nat→Value): Sem Value:=do
 let vs ←fn.results.mapM fun
  | .tmp t=>pure (g t)
  | .cell a t=>do loadVar t (←asAddr (g a))
 pure (if h:vs.size=1 then vs[0] else .tuple vs)
def wo(P:Program)(g:Nat→Value)(m:dJ): List ResultVar→Option (List Value)
 | []=>some []
 | x :: l=>match (match x with
   | .tmp t=>some (g t)
   | .cell a t=>(match g a with
    | .pointer (some ⟨b,off,none⟩)=>EN P m t b off
    | _=>none))with
  | some v=>(match wo P g m l with
   | some vs=>some (v :: vs)
   | none=>none)
  | none=>none
def Qs(P:Program)(fn:Func)(g:Nat→Value)(m:dJ): Option Value:=
 match wo P g m fn.results.toList with
 | some vs=>(match vs with
  | [v]=>some v
  | vs=>some (.tuple ⟨vs⟩))
 | none=>iR P (fun _=>true) (xX fn g) m
abbrev Su:=FuncId→Option (jX→Array Value→dJ→Option (Value×dJ))
def Fb(P:Program)(lf:Nat)(self:jX)(f:FuncId)(args:Array Value)(m:dJ): Option (Value×dJ):=
 match P.funcs[f]? with
 | some fn=>(match fn.body with
  | some c=>oU args.toList fun l=>Ey l 0 .e fun t=>gQ (l.length+(fn.ntmps - l.length)) fun n=>
   (match jQ P self lf c ⟨t,n⟩ m with
   | some (ex,E,m)=>(match ex with
    | .exit _=>none
    | _=>(match Qs P fn E.at m with
     | some v=>Bi v fun v=>some (v,m)
     | none=>none))
   | none=>none)
  | none=>none)
 | none=>none
def kC(P:Program)(X:Su)(lf:Nat): Nat→jX
 | 0=>fun _ _ _=>none
 | n+1=>fun f args m=>match X f with
  | some g=>g (kC P X lf n) args m
  | none=>Fb P lf (kC P X lf n) f args m
end
end
end Go.Den
