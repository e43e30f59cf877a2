import Derived.Calls
import Derived.Orders
import Derived.Laws.Sem
import Derived.Laws.Append
set_option maxRecDepth 100000
set_option maxHeartbeats 16000000
namespace Go.Den
section
noncomputable section
theorem WX{a b:Nat}(h:¬a=b): Nat.beq a b=false:=by
 cases e:Nat.beq a b
 ·rfl
 exact absurd (Nat.eq_of_beq_eq_true e) h
theorem W9{a b:Nat}(h:a=b): Nat.beq a b=true:=by subst h;exact Nat.beq_refl a
inductive Tr(A:Type) where
 | e
 | n (v:Option A) (l r:Tr A)
 | L (l:List A)
 | ov (k:Nat) (x:A) (t:Tr A)
namespace Tr
variable {A B:Type}
noncomputable def Wn(l:List A): Nat→Option A:=List.rec (fun _=>none) (fun a _ ih k=>Nat.casesOn k (some a) ih) l
noncomputable def Gf(l:List A): Nat→A→(List A→B)→B→B:=List.rec (fun _ _ _ d=>d) (fun a l ih k x c d=>Nat.casesOn k (c (x :: l)) fun k=>ih k x (fun l=>c (a :: l)) d) l
theorem KL:∀(l:List A) (k:Nat),Wn l k=l[k]?
 | [],_=>rfl
 | _ :: _,0=>rfl
 | _ :: l,k+1=>KL l k
theorem Ag:∀(l:List A) (k:Nat) (x:A) (c:List A→B) (d:B),Gf l k x c d=if k<l.length then c (l.set k x) else d
 | [],_,_,_,_=>rfl
 | a :: l,0,_,_,_=>by simp;rfl
 | a :: l,k+1,x,c,d=>by show Gf l k x (fun l=>c (a :: l)) d=_;rw [Ag l k];simp
noncomputable def get(t:Tr A): Nat→Option A:=
 Tr.rec (fun _=>none) (fun v _ _ gl gr k=>Nat.casesOn k v fun k=>Nat.casesOn (Nat.mod k 2) (gl (Nat.div k 2)) fun _=>gr (Nat.div k 2)) (fun l=>Wn l)
  (fun k x _ g j=>Bool.casesOn (Nat.beq j k) (g j) (some x)) t
noncomputable def set(f:Nat): Tr A→Nat→A→Tr A:=
 Nat.rec (fun t _ _=>t) (fun _ ih t k x=>Tr.casesOn t
  (Nat.casesOn k (.n (some x) .e .e) fun k=>Nat.casesOn (Nat.mod k 2) (.n none (ih .e (Nat.div k 2) x) .e) fun _=>.n none .e (ih .e (Nat.div k 2) x))
  (fun v l r=>Nat.casesOn k (.n (some x) l r) fun k=>Nat.casesOn (Nat.mod k 2) (.n v (ih l (Nat.div k 2) x) r) fun _=>.n v l (ih r (Nat.div k 2) x))
  (fun l=>Gf l k x .L (.ov k x t)) (fun _ _ _=>.ov k x t)) f
noncomputable def setK(f:Nat): Tr A→Nat→A→(Tr A→B)→B:=
 Nat.rec (fun t _ _ c=>c t) (fun _ ih t k x c=>Tr.casesOn t
  (Nat.casesOn k (c (.n (some x) .e .e)) fun k=>Nat.casesOn (Nat.mod k 2) (ih .e (Nat.div k 2) x fun t=>c (.n none t .e)) fun _=>ih .e (Nat.div k 2) x fun t=>c (.n none .e t))
  (fun v l r=>Nat.casesOn k (c (.n (some x) l r)) fun k=>Nat.casesOn (Nat.mod k 2) (ih l (Nat.div k 2) x fun t=>c (.n v t r)) fun _=>ih r (Nat.div k 2) x fun t=>c (.n v l t))
  (fun l=>Gf l k x (fun l=>c (.L l)) (c (.ov k x t))) (fun _ _ _=>c (.ov k x t))) f
theorem Vk{C:Type}(k:Nat)(a b:C): (Nat.rec (motive:=fun _=>C) a (fun _ _=>b) (Nat.mod k 2))=if k % 2=0 then a else b:=by have e:Nat.mod k 2=k % 2:=rfl;rw [e];rcases Nat.mod_two_eq_zero_or_one k with h | h <;> rw [h] <;> rfl
theorem Cb(v:Option A)(l r:Tr A)(k:Nat): (Tr.n v l r).get k=match k with | 0=>v | k+1=>if k % 2=0 then l.get (k / 2) else r.get (k / 2):=by
 cases k with
 | zero=>rfl
 | succ k=>exact Vk _ _ _
theorem V4(k:Nat): (Tr.e:Tr A).get k=none:=rfl
theorem get_L(l:List A)(k:Nat): (Tr.L l).get k=l[k]?:=KL l k
theorem Qb(k:Nat)(x:A)(t:Tr A)(j:Nat): (Tr.ov k x t).get j=if j=k then some x else t.get j:=by
 show (Bool.casesOn (Nat.beq j k) (t.get j) (some x):Option A)=_;by_cases h:j=k
 ·rw [W9 h,if_pos h]
 rw [WX h,if_neg h]
theorem Ur(f:Nat)(v:Option A)(l r:Tr A)(k:Nat)(x:A): set (f+1) (.n v l r) k x=match k with | 0=>.n (some x) l r | k+1=>if k % 2=0 then .n v (set f l (k / 2) x) r else .n v l (set f r (k / 2) x):=by
 cases k with
 | zero=>rfl
 | succ k=>exact Vk _ _ _
theorem UF(f:Nat)(k:Nat)(x:A): set (f+1) .e k x=set (f+1) (.n none .e .e) k x:=rfl
theorem UH(f:Nat)(l:List A)(k:Nat)(x:A): set (f+1) (.L l) k x=if k<l.length then .L (l.set k x) else .ov k x (.L l):=Ag l k x _ _
theorem Ve(f:Nat)(k:Nat)(x:A)(c:Tr A→B): setK (f+1) .e k x c=setK (f+1) (.n none .e .e) k x c:=rfl
theorem U7(f:Nat)(v:Option A)(l r:Tr A)(k:Nat)(x:A)(c:Tr A→B): setK (f+1) (.n v l r) k x c=match k with | 0=>c (.n (some x) l r) | k+1=>if k % 2=0 then setK f l (k / 2) x fun t=>c (.n v t r) else setK f r (k / 2) x fun t=>c (.n v l t):=by
 cases k with
 | zero=>rfl
 | succ k=>exact Vk _ _ _
theorem setK_eq:∀(f:Nat) (t:Tr A) (k:Nat) (x:A) (c:Tr A→B),setK f t k x c=c (set f t k x)
 | 0,_,_,_,_=>rfl
 | f+1,t,k,x,c=>by
  have main:∀v l r,setK (f+1) (.n v l r) k x c=c (set (f+1) (.n v l r) k x):=by
   intro v l r;rw [U7,Ur];cases k with
   | zero=>rfl
   | succ k=>simp only;split <;> rw [setK_eq f]
  cases t with
  | e=>rw [Ve,UF];exact main _ _ _
  | n v l r=>exact main v l r
  | L l=>
   rw [UH];show Gf l k x (fun l=>c (.L l)) (c (.ov k x (.L l)))=_;rw [Ag];split <;> rfl
  | ov i y t=>rfl
theorem get_set:∀(f:Nat) (t:Tr A) (k:Nat) (x:A) (j:Nat),k<f→(set f t k x).get j=if j=k then some x else t.get j
 | 0,_,_,_,_,h=>absurd h (Nat.not_lt_zero _)
 | f+1,t,k,x,j,h=>by
  have main:∀v l r,(set (f+1) (.n v l r) k x).get j=if j=k then some x else (Tr.n v l r).get j:=by
   intro v l r;rw [Ur];cases k with
   | zero=>
    simp only;rw [Cb,Cb];cases j with
    | zero=>simp
    | succ j=>simp
   | succ k=>
    simp only;split
    ·rename_i hk;rw [Cb,Cb];cases j with
     | zero=>simp
     | succ j=>
      simp only;split
      ·rename_i hj;rw [get_set f l (k / 2) x (j / 2) (by omega)];by_cases e:j=k
       ·subst e;simp
       rw [if_neg (by omega),if_neg (by omega)]
      rename_i hj;rw [if_neg (by omega)]
    rename_i hk;rw [Cb,Cb];cases j with
    | zero=>simp
    | succ j=>
     simp only;split
     ·rename_i hj;rw [if_neg (by omega)]
     rename_i hj;rw [get_set f r (k / 2) x (j / 2) (by omega)];by_cases e:j=k
     ·subst e;simp
     rw [if_neg (by omega),if_neg (by omega)]
  cases t with
  | e=>
   rw [UF,main none .e .e];have:∀j,(Tr.n none .e .e:Tr A).get j=none:=by
    intro j;rw [Cb];cases j with
    | zero=>rfl
    | succ j=>simp only [V4];split <;> rfl
   rw [this];rfl
  | n v l r=>exact main v l r
  | L l=>
   rw [UH];split
   ·rename_i hk;rw [get_L,get_L];by_cases e:j=k
    ·subst e;simp [hk]
    rw [if_neg e,List.getElem?_set_ne (Ne.symm e)]
   exact Qb _ _ _ _
  | ov i y t=>exact Qb _ _ _ _
end Tr
inductive Ob where
 | cells (c:Tr Value) (n:Nat) (e:TypeId) (g:Bool)
 | obj (o:Obj)
 | dead
structure dJ where
 t:Tr Ob
 next:Nat
def gQ{B:Type}(m:Nat)(c:Nat→B): B:=Nat.casesOn m (c 0) fun k=>c (Nat.succ k)
def dJ.put{B:Type}(m:dJ)(b:Nat)(o:Ob)(c:dJ→B): B:=match m with | ⟨t,n⟩=>Tr.setK (b+1) t b o fun t=>c ⟨t,n⟩
def dJ.push{B:Type}(m:dJ)(o:Ob)(c:dJ→B): B:=match m with | ⟨t,n⟩=>Tr.setK (n+1) t n o fun t=>gQ (n+1) fun k=>c ⟨t,k⟩
def rO{B:Type}(i:Int)(c:Int→B): B:=match i with | .ofNat m=>gQ m fun m=>c (.ofNat m) | .negSucc m=>gQ m fun m=>c (.negSucc m)
def oU{A B:Type}: List A→(List A→B)→B
 | [],c=>c []
 | a :: l,c=>oU l fun l=>c (a :: l)
def Bi{B:Type}(v:Value)(c:Value→B): B:=
 match v with
 | .int k n=>rO n fun n=>c (.int k n)
 | .bool b=>match b with | true=>c (.bool true) | false=>c (.bool false)
 | .agg ⟨cs⟩=>oU cs fun cs=>c (.agg ⟨cs⟩)
 | .tuple ⟨cs⟩=>oU cs fun cs=>c (.tuple ⟨cs⟩)
 | .slice (some ⟨b,o,s⟩) l cap=>gQ b fun b=>gQ o fun o=>gQ l fun l=>gQ cap fun cap=>c (.slice (some ⟨b,o,s⟩) l cap)
 | .pointer (some ⟨b,o,s⟩)=>gQ b fun b=>gQ o fun o=>c (.pointer (some ⟨b,o,s⟩))
 | .string ⟨⟨l⟩⟩=>oU l fun l=>c (.string ⟨⟨l⟩⟩)
 | v=>c v
theorem dW{B:Type}(m:Nat)(c:Nat→B): gQ m c=c m:=by cases m <;> rfl
theorem ry{B:Type}(m:Int)(c:Int→B): rO m c=c m:=by cases m <;> simp [rO,dW]
theorem lX{A B:Type}: ∀(l:List A) (c:List A→B),oU l c=c l
 | [],_=>rfl
 | _ :: l,c=>by simp [oU,lX l]
theorem nJ{B:Type}(v:Value)(c:Value→B): Bi v c=c v:=by unfold Bi;split <;> (try simp only [ry,lX,dW]);rename_i b;cases b <;> rfl
def Ey{B:Type}: List Value→Nat→Tr Value→(Tr Value→B)→B
 | [],_,t,c=>c t
 | v :: l,i,t,c=>Bi v fun v=>Tr.setK (i+1) t i v fun t=>Ey l (i+1) t c
def Bz:List Value→Nat→Tr Value→Tr Value
 | [],_,t=>t
 | v :: l,i,t=>Bz l (i+1) (Tr.set (i+1) t i v)
theorem Ea{B:Type}: ∀(l:List Value) (i:Nat) (t:Tr Value) (c:Tr Value→B),Ey l i t c=c (Bz l i t)
 | [],_,_,_=>rfl
 | v :: l,i,t,c=>by simp only [Ey,Bz,nJ,Tr.setK_eq];exact Ea l _ _ _
theorem Di:∀(l:List Value) (i:Nat) (t:Tr Value) (j:Nat),(Bz l i t).get j=if i≤j∧j<i+l.length then l[j - i]? else t.get j
 | [],i,t,j=>by
  have:¬(i≤j∧j<i+([]:List Value).length):=by simp
  rw [if_neg this];rfl
 | v :: l,i,t,j=>by
  simp only [Bz];rw [Di l (i+1),Tr.get_set _ _ _ _ _ (by omega)];by_cases h1:j=i
  ·subst h1;rw [if_neg (by omega),if_pos rfl,if_pos (by simp)];simp
  by_cases h2:i≤j∧j<i+(l.length+1)
  ·rw [if_pos (by omega),if_pos (by simpa using h2)];obtain⟨d,rfl⟩:∃d,j=i+1+d:=⟨j - (i+1),by omega⟩;have e1:i+1+d - (i+1)=d:=(by omega);have e2:i+1+d - i=d+1:=(by omega);rw [e1,e2];simp
  rw [if_neg (by omega),if_neg h1,if_neg (by simpa using h2)]
def zh{B:Type}: List Value→(List Value→B)→B
 | [],c=>c []
 | v :: l,c=>Bi v fun v=>zh l fun l=>c (v :: l)
theorem Ad{B:Type}: ∀(l:List Value) (c:List Value→B),zh l c=c l
 | [],_=>rfl
 | v :: l,c=>by simp [zh,nJ,Ad l]
def vO{B:Type}(l:List Value)(c:Tr Value→B): B:=zh l fun l=>c (.L l)
def qm(l:List Value): Tr Value:=.L l
theorem jl{B:Type}(l:List Value)(c:Tr Value→B): vO l c=c (qm l):=by unfold vO qm;rw [Ad]
theorem qg(l:List Value)(j:Nat): (qm l).get j=if 0≤j∧j<0+l.length then l[j - 0]? else none:=by
 unfold qm;rw [Tr.get_L];split
 ·rfl
 exact List.getElem?_eq_none (by omega)
def dJ.cell(m:dJ)(a:Addr): Option Value:=
 match a.spot with
 | some _=>none
 | none=>match m.t.get a.block with
  | some (.cells c n _ _)=>bif Nat.blt a.off n then c.get a.off else none
  | _=>none
def jb:Value→Bool
 | .agg _ | .tuple _=>true
 | _=>false
def dO{A:Type}(P:Program): Sem A→dJ→Option (A×dJ)
 | .pure a,m=>some (a,m)
 | .load _ a k,m=>match m.cell a with
  | some v=>dO P (k v) m
  | none=>none
 | .store _ a v k,m=>
  bif jb v then none else
  match a.spot with
  | some _=>none
  | none=>match m.t.get a.block with
   | some (.cells c n e g)=>bif Nat.blt a.off n then Bi v fun v=>Tr.setK (a.off+1) c a.off v fun c=>m.put a.block (.cells c n e g) fun m=>dO P k m else none
   | _=>none
 | .new o k,m=>match o with
  | .cells c e fz=>(match fz with | (0,0)=>vO c.toList fun t=>gQ c.size fun n=>m.push (.cells t n e false) fun m'=>dO P (k m.next) m' | _=>none)
  | .map es cl=>m.push (.obj (.map es cl)) fun m'=>dO P (k m.next) m'
  | .stringIter x p=>m.push (.obj (.stringIter x p)) fun m'=>dO P (k m.next) m'
  | _=>none
 | .getObj r k,m=>match m.t.get r with
  | some (.obj o)=>dO P (k o) m
  | _=>none
 | .setObj r o k,m=>match m.t.get r with
  | some (.obj _)=>(match o with
   | .map es cl=>oU es.toList fun l=>m.put r (.obj (.map ⟨l⟩ cl)) fun m=>dO P k m
   | .stringIter x p=>gQ p fun p=>m.put r (.obj (.stringIter x p)) fun m=>dO P k m
   | _=>none)
  | _=>none
 | .program k,m=>dO P (k P) m
 | .mark _ k,m=>dO P k m
 | _,_=>none
structure pY where
 blk:Nat
 sh:Nat
 tot:Nat
abbrev AM:=Nat→Option pY
def Le(α β:AM): Prop:=∀b L,α b=some L→β b=some L
theorem Le.refl(α:AM): Le α α:=fun _ _ h=>h
theorem Le.trans{α β γ:AM}(h:Le α β)(k:Le β γ): Le α γ:=fun b L e=>k b L (h b L e)
def G:Nat:=9223372036854775808
inductive VR(α:AM): Value→Value→Prop where
 | bool (b):VR α (.bool b) (.bool b)
 | int (k n):VR α (.int k n) (.int k n)
 | string (s):VR α (.string s) (.string s)
 | ptrN:VR α (.pointer none) (.pointer none)
 | ptr {b off:Nat} {L:pY} (h:α b=some L):VR α (.pointer (some ⟨b,off,none⟩)) (.pointer (some ⟨L.blk,L.sh+off,none⟩))
 | sliceN (l c):VR α (.slice none l c) (.slice none l c)
 | sliceX {b off len cap:Nat} {L:pY} (h:α b=some L) (hc:cap<G):VR α (.slice (some ⟨b,off,none⟩) len cap) (.slice (some ⟨L.blk,L.sh+off,none⟩) len cap)
 | sliceG {b off len cap es:Nat} {L:pY} (h:α b=some L) (hl:len≤cap) (ht:L.sh+off+es*cap≤L.tot):VR α (.slice (some ⟨b,off,none⟩) len (G+es)) (.slice (some ⟨L.blk,L.sh+off,none⟩) len cap)
 | sliceE {b off es:Nat} {a:Addr} {L:pY} (h:α b=some L):VR α (.slice (some ⟨b,off,none⟩) 0 (G+es)) (.slice (some a) 0 0)
 | mapN:VR α (.map none) (.map none)
 | map {r:Nat} {L:pY} (h:α r=some L):VR α (.map (some r)) (.map (some L.blk))
 | func {f:FuncId} {x x' y y':Array Value} (hx:x.size=x'.size) (hy:y.size=y'.size) (h:∀(i:Nat) (h:i<x.size) (h':i<x'.size),VR α x[i] x'[i])
  (k:∀(i:Nat) (h:i<y.size) (h':i<y'.size),VR α y[i] y'[i]):VR α (.func (.func f) x y) (.func (.func f) x' y')
 | nilFunc:VR α .nilFunc .nilFunc
 | nilIface:VR α .nilIface .nilIface
 | iface (t) {v v'} (h:VR α v v'):VR α (.iface t v) (.iface t v')
 | agg {x x':Array Value} (hx:x.size=x'.size) (h:∀(i:Nat) (h:i<x.size) (h':i<x'.size),VR α x[i] x'[i]):VR α (.agg x) (.agg x')
 | tuple {x x':Array Value} (hx:x.size=x'.size) (h:∀(i:Nat) (h:i<x.size) (h':i<x'.size),VR α x[i] x'[i]):VR α (.tuple x) (.tuple x')
theorem VR.mono{α β:AM}(hle:Le α β){v v':Value}(h:VR α v v'): VR β v v':=by
 induction h with
 | bool b=>exact .bool b
 | int k n=>exact .int k n
 | string s=>exact .string s
 | ptrN=>exact .ptrN
 | ptr h=>exact .ptr (hle _ _ h)
 | sliceN l c=>exact .sliceN l c
 | sliceX h hc=>exact .sliceX (hle _ _ h) hc
 | sliceG h hl ht=>exact .sliceG (hle _ _ h) hl ht
 | sliceE h=>exact .sliceE (hle _ _ h)
 | mapN=>exact .mapN
 | map h=>exact .map (hle _ _ h)
 | func hx hy _ _ ih ik=>exact .func hx hy ih ik
 | nilFunc=>exact .nilFunc
 | nilIface=>exact .nilIface
 | iface t _ ih=>exact .iface t ih
 | agg hx _ ih=>exact .agg hx ih
 | tuple hx _ ih=>exact .tuple hx ih
def kN(α:AM)(x x':Array Value): Prop:=x.size=x'.size∧∀(i:Nat) (h:i<x.size) (h':i<x'.size),VR α x[i] x'[i]
theorem kN.mono{α β:AM}(hle:Le α β){x x':Array Value}(h:kN α x x'): kN β x x':=⟨h.1,fun i a b=>(h.2 i a b).mono hle⟩
def jI:Value→Bool
 | .bool _ | .int _ _ | .string _ | .pointer none | .slice none _ _ | .map none | .nilFunc | .nilIface=>true
 | _=>false
def kM:Value→Bool
 | .agg cs=>cs.toList.all jI
 | v=>jI v
def ig:Value→Bool
 | .tuple cs=>cs.toList.all kM
 | v=>kM v
theorem VR.refl0{α:AM}{v:Value}(h:jI v=true): VR α v v:=by unfold jI at h;split at h <;> first | (constructor;done) | cases h
theorem kN.refl0{α:AM}{cs:Array Value}(h:cs.toList.all jI=true): kN α cs cs:=
 ⟨rfl,fun i hi _=>VR.refl0 (List.all_eq_true.1 h _ (by simp))⟩
theorem VR.refl1{α:AM}{v:Value}(h:kM v=true): VR α v v:=by
 unfold kM at h;split at h
 ·exact .agg rfl (kN.refl0 h).2
 exact VR.refl0 h
theorem VR.refl{α:AM}{v:Value}(h:ig v=true): VR α v v:=by
 unfold ig at h;split at h
 ·exact .tuple rfl fun i hi _=>VR.refl1 (List.all_eq_true.1 h _ (by simp))
 exact VR.refl1 h
theorem VR.eq0{α:AM}{v v':Value}(h:jI v=true)(r:VR α v v'): v'=v:=by cases r <;> first | rfl | (simp [jI]at h)
theorem kN.eq0{α:AM}{x x':Array Value}(h:x.toList.all jI=true)(r:kN α x x'): x'=x:=
 Array.ext r.1.symm fun i h1 h2=>VR.eq0 (List.all_eq_true.1 h _ (by simp)) (r.2 i h2 h1)
theorem VR.eq1{α:AM}{v v':Value}(h:kM v=true)(r:VR α v v'): v'=v:=by
 cases r with
 | agg hx hr=>rw [kN.eq0 (by simpa [kM]using h) ⟨hx,hr⟩]
 | _=>first | rfl | (simp [kM,jI]at h)
theorem VR.eq{α:AM}{v v':Value}(h:ig v=true)(r:VR α v v'): v'=v:=by
 cases r with
 | tuple hx hr=>
  rename_i x x';have:x'=x:=Array.ext hx.symm fun i h1 h2=>VR.eq1 (List.all_eq_true.1 (by simpa [ig]using h:x.toList.all kM=true) _ (by simp)) (hr i h2 h1);rw [this]
 | agg hx hr=>exact VR.eq1 h (.agg hx hr)
 | _=>first | rfl | (simp [ig,kM,jI]at h)
def o7(α:AM)(x x':MapEntry): Prop:=x.key=x'.key∧x.born=x'.born∧VR α x.val x'.val
def iI(α:AM)(x x':Array MapEntry): Prop:=x.size=x'.size∧∀(i:Nat) (h:i<x.size) (h':i<x'.size),o7 α x[i] x'[i]
theorem iI.mono{α β:AM}(hle:Le α β){x x':Array MapEntry}(h:iI α x x'): iI β x x':=
 ⟨h.1,fun i a b=>⟨(h.2 i a b).1,(h.2 i a b).2.1,(h.2 i a b).2.2.mono hle⟩⟩
inductive xU(α:AM): Obj→Obj→Prop where
 | map {es es':Array MapEntry} (h:iI α es es') (cl:Nat):xU α (.map es cl) (.map es' cl)
 | siter (x:ByteArray) (p:Nat):xU α (.stringIter x p) (.stringIter x p)
theorem xU.mono{α β:AM}(hle:Le α β){o o':Obj}(h:xU α o o'): xU β o o':=by
 cases h with
 | map h cl=>exact .map (h.mono hle) cl
 | siter x p=>exact .siter x p
def uV(_P:Program)(α:AM)(L:pY)(w:World): Ob→Prop
 | .cells c n _ g=>∃cc e' lo hi,w.heap[L.blk]?=some (.cells cc e' (lo,hi))∧cc.size=L.tot∧L.sh+n≤L.tot∧(∀i,i<L.tot→¬(lo≤i∧i<hi))∧
  (g=false→L.sh=0∧n=L.tot)∧∀i,i<n→∃v v',c.get i=some v∧cc[L.sh+i]?=some v'∧VR α v v'
 | .obj o=>L.sh=0∧∃o',w.heap[L.blk]?=some o'∧xU α o o'
 | .dead=>True
theorem uV.mono{P:Program}{α β:AM}(hle:Le α β){L:pY}{w:World}{o:Ob}(h:uV P α L w o): uV P β L w o:=by
 cases o with
 | cells c n e g=>
  obtain⟨cc,e',lo,hi,h1,h2,h3,h4,h5,h7⟩:=h;exact⟨cc,e',lo,hi,h1,h2,h3,h4,h5,fun i hi=>let ⟨v,v',a,b,c⟩:=h7 i hi;⟨v,v',a,b,c.mono hle⟩⟩
 | obj o=>obtain⟨h0,o',h1,h2⟩:=h;exact⟨h0,o',h1,h2.mono hle⟩
 | dead=>trivial
theorem uV.heap{P:Program}{α:AM}{L:pY}{w w':World}{o:Ob}(h:uV P α L w o)(heq:w'.heap[L.blk]?=w.heap[L.blk]?): uV P α L w' o:=by
 cases o with
 | cells c n e g=>
  obtain⟨cc,e',lo,hi,h1,h2,h3,h4,h5,h7⟩:=h;exact⟨cc,e',lo,hi,heq.trans h1,h2,h3,h4,h5,h7⟩
 | obj o=>obtain⟨h0,o',h1,h2⟩:=h;exact⟨h0,o',heq.trans h1,h2⟩
 | dead=>trivial
def lU:Ob→Prop
 | .dead=>False
 | _=>True
structure lL(P:Program)(α:AM)(m:dJ)(w:World): Prop where
 dom:∀b L,α b=some L→b<m.next∧L.blk<w.heap.size
 obj:∀b o L,m.t.get b=some o→α b=some L→uV P α L w o
 inj:∀b b' o o' L L',m.t.get b=some o→lU o→α b=some L→m.t.get b'=some o'→lU o'→α b'=some L'→L.blk=L'.blk→b=b'
 top:∀b,m.next≤b→m.t.get b=none
def IY(α:AM)(m:dJ)(cb:Nat): Prop:=∃b o L,m.t.get b=some o∧lU o∧α b=some L∧L.blk=cb
structure nY(P:Program)(α:AM)(m:dJ)(w:World)(α':AM)(m':dJ)(w':World): Prop where
 le:Le α α'
 old:∀b,b<m.next→α' b=α b
 next:m.next≤m'.next
 rel:lL P α' m' w'
 os:w'.os=w.os
 tape:w'.tape=w.tape
 output:w'.output=w.output
 size:w.heap.size≤w'.heap.size
 frame:∀cb,cb<w.heap.size→¬IY α m cb→w'.heap[cb]?=w.heap[cb]?
 rng:∀cb,IY α' m' cb→IY α m cb∨w.heap.size≤cb
 ghost:∀b,b<m.next→(α b=none∨m.t.get b=none)→m'.t.get b=m.t.get b
theorem nY.refl{P:Program}{α:AM}{m:dJ}{w:World}(h:lL P α m w): nY P α m w α m w:=
 ⟨.refl _,fun _ _=>rfl,Nat.le_refl _,h,rfl,rfl,rfl,Nat.le_refl _,fun _ _ _=>rfl,fun _ h=>.inl h,fun _ _ _=>rfl⟩
theorem nY.trans{P:Program}{α β γ:AM}{m m' m'':dJ}{w w' w'':World}(h:nY P α m w β m' w')(k:nY P β m' w' γ m'' w''): nY P α m w γ m'' w'' where
 le:=h.le.trans k.le
 old b hb:=(k.old b (Nat.lt_of_lt_of_le hb h.next)).trans (h.old b hb)
 next:=Nat.le_trans h.next k.next
 rel:=k.rel
 os:=k.os.trans h.os
 tape:=k.tape.trans h.tape
 output:=k.output.trans h.output
 size:=Nat.le_trans h.size k.size
 frame cb hc hn:=by have hn':¬IY β m' cb:=fun hi=>(h.rng cb hi).elim hn (by omega);exact (k.frame cb (Nat.lt_of_lt_of_le hc h.size) hn').trans (h.frame cb hc hn)
 rng cb hi:=by
  rcases k.rng cb hi with h1 | h1
  ·exact h.rng cb h1
  exact .inr (Nat.le_trans h.size h1)
 ghost b hb hn:=(k.ghost b (Nat.lt_of_lt_of_le hb h.next) (hn.imp (fun e=>(h.old b hb).trans e) (fun e=>(h.ghost b hb (.inr e)).trans e))).trans (h.ghost b hb hn)
theorem nY.drawn{P:Program}{α β:AM}{m m':dJ}{w w':World}(h:nY P α m w β m' w')(d:Nat): nY P α m w β m' { w' with drawn:=d } where
 le:=h.le
 old:=h.old
 next:=h.next
 rel:=⟨h.rel.dom,fun b o L g e=>(h.rel.obj b o L g e).heap rfl,h.rel.inj,h.rel.top⟩
 os:=h.os
 tape:=h.tape
 output:=h.output
 size:=h.size
 frame:=h.frame
 rng:=h.rng
 ghost:=h.ghost
end
end
section
noncomputable section
variable {P:Program}
theorem dJ.put_eq{B:Type}(m:dJ)(b:Nat)(o:Ob)(c:dJ→B): m.put b o c=c ⟨Tr.set (b+1) m.t b o,m.next⟩:=by obtain⟨t,n⟩:=m;simp [dJ.put,Tr.setK_eq]
theorem dJ.push_eq{B:Type}(m:dJ)(o:Ob)(c:dJ→B): m.push o c=c ⟨Tr.set (m.next+1) m.t m.next o,m.next+1⟩:=by obtain⟨t,n⟩:=m;simp [dJ.push,Tr.setK_eq,dW]
theorem fA(t:Tr Ob)(b:Nat)(o:Ob)(j:Nat): (Tr.set (b+1) t b o).get j=if j=b then some o else t.get j:=Tr.get_set _ _ _ _ _ (by omega)
theorem dR{a b:Nat}: Nat.blt a b=true↔a<b:=by simp [Nat.blt_eq]
theorem lL.cells{α:AM}{m:dJ}{w:World}(h:lL P α m w){b:Nat}{L:pY}(hb:α b=some L){c:Tr Value}{n:Nat}{e:TypeId}{g:Bool}(hg:m.t.get b=some (.cells c n e g)):
 uV P α L w (.cells c n e g):=h.obj _ _ _ hg hb
theorem lL.cell{α:AM}{m:dJ}{w:World}(h:lL P α m w){b off:Nat}{L:pY}(hb:α b=some L){v:Value}(hc:m.cell ⟨b,off,none⟩=some v):
  ∃v',w.cell? ⟨L.blk,L.sh+off,none⟩=some v'∧VR α v v':=by
 simp only [dJ.cell]at hc;split at hc
 ·rename_i c n e g hg;cases ho:Nat.blt off n with
  | false=>rw [ho]at hc;simp at hc
  | true=>
   rw [ho,cond_true]at hc;obtain⟨cc,e',lo,hi,h1,h2,h3,h4,h5,h7⟩:=h.cells hb hg;obtain⟨u,u',a1,a2,a3⟩:=h7 off (dR.1 ho);rw [hc]at a1;cases a1;exact⟨u',by simp [World.cell?,h1,a2],a3⟩
 cases hc
theorem heap_setCell(w:World)(a:Addr)(v:Value)(k:Nat)(h:k≠a.block): (w.setCell a v).heap[k]?=w.heap[k]?:=by simp only [World.setCell,Array.getElem?_modify];rw [if_neg (by omega)]
theorem lL.store{α:AM}{m:dJ}{w:World}(h:lL P α m w){b off:Nat}{L:pY}(hb:α b=some L){c:Tr Value}{n:Nat}{e:TypeId}{g:Bool}
  (hg:m.t.get b=some (.cells c n e g)) (ho:off<n) {v v':Value} (hv:VR α v v') :
  (∃old,w.cell? ⟨L.blk,L.sh+off,none⟩=some old)∧w.frozen? ⟨L.blk,L.sh+off,none⟩=false∧
   nY P α m w α ⟨Tr.set (b+1) m.t b (.cells (Tr.set (off+1) c off v) n e g),m.next⟩ (w.setCell ⟨L.blk,L.sh+off,none⟩ v'):=by
 obtain⟨cc,e',lo,hi,h1,h2,h3,h4,h5,h7⟩:=h.cells hb hg;obtain⟨u,u',a1,a2,a3⟩:=h7 off ho;refine⟨⟨u',by simp [World.cell?,h1,a2]⟩,?_,?_⟩
 ·have:=h4 (L.sh+off) (by omega);simp only [World.frozen?,h1];simpa using this
 have hsz:(w.setCell ⟨L.blk,L.sh+off,none⟩ v').heap.size=w.heap.size:=by simp [World.setCell]
 have hat:(w.setCell ⟨L.blk,L.sh+off,none⟩ v').heap[L.blk]?=some (.cells (cc.setIfInBounds (L.sh+off) v') e' (lo,hi)):=by simp [World.setCell,Array.getElem?_modify,h1]
 refine⟨.refl _,fun _ _=>rfl,Nat.le_refl _,⟨?_,?_,?_,fun b' hb'=>by rw [fA,if_neg (fun e=>by have h1:=(h.dom _ _ hb).1;have h2:m.next≤b':=hb';omega)];exact h.top b' hb'⟩,rfl,rfl,rfl,by omega,?_,?_,fun b' _ hn'=>by rw [fA,if_neg (fun e=>by rw [e,hb,hg]at hn';rcases hn' with hn' | hn' <;> cases hn')]⟩
 ·intro b' L' hb';have:=h.dom b' L' hb';exact⟨this.1,by rw [hsz];exact this.2⟩
 ·intro b' o' L' hg' hb';rw [fA]at hg';by_cases e1:b'=b
  ·subst e1;rw [if_pos rfl]at hg';cases hg';rw [hb]at hb';cases hb';refine⟨_,e',lo,hi,hat,by simpa using h2,h3,h4,h5,fun i hi'=>?_⟩;by_cases e2:i=off
   ·subst e2;refine⟨v,v',by rw [Tr.get_set _ _ _ _ _ (by omega),if_pos rfl],?_,hv⟩;rw [Array.getElem?_setIfInBounds,if_pos rfl,if_pos (by omega)]
   obtain⟨x,x',b1,b2,b3⟩:=h7 i hi';refine⟨x,x',by rw [Tr.get_set _ _ _ _ _ (by omega),if_neg e2];exact b1,?_,b3⟩;rw [Array.getElem?_setIfInBounds,if_neg (by omega)];exact b2
  rw [if_neg e1]at hg';by_cases hl:lU o'
  ·have hne:L'.blk≠L.blk:=fun e3=>e1 (h.inj b' b o' _ L' L hg' hl hb' hg trivial hb e3);exact (h.obj _ _ _ hg' hb').heap (heap_setCell _ _ _ _ hne)
  cases o' with
  | dead=>trivial
  | _=>exact absurd trivial hl
 ·intro b1 b2 o1 o2 L1 L2 g1 l1 x1 g2 l2 x2 he;have key:∀{b' o'},(Tr.set (b+1) m.t b (.cells (Tr.set (off+1) c off v) n e g)).get b'=some o'→lU o'→∃o'',m.t.get b'=some o''∧lU o'':=by
   intro b' o' hx hl;rw [fA]at hx;by_cases e1:b'=b
   ·subst e1;exact⟨_,hg,trivial⟩
   rw [if_neg e1]at hx;exact⟨_,hx,hl⟩
  obtain⟨p1,q1,r1⟩:=key g1 l1;obtain⟨p2,q2,r2⟩:=key g2 l2;exact h.inj _ _ _ _ _ _ q1 r1 x1 q2 r2 x2 he
 ·intro cb hcb hn;refine heap_setCell _ _ _ _ fun e3=>hn ⟨b,_,L,hg,trivial,hb,e3.symm⟩
 rintro cb ⟨b',o',L',hx,hl,hL,he⟩;refine .inl ?_;rw [fA]at hx;by_cases e1:b'=b
 ·subst e1;exact⟨b',_,L',hg,trivial,hL,he⟩
 rw [if_neg e1]at hx;exact⟨b',o',L',hx,hl,hL,he⟩
def ext(α:AM)(b:Nat)(L:pY): AM:=fun j=>if j=b then some L else α j
theorem jw(α:AM)(b:Nat)(L:pY): ext α b L b=some L:=by simp [ext]
theorem nI(α:AM){b j:Nat}(L:pY)(h:j≠b): ext α b L j=α j:=by simp [ext,h]
theorem lL.fresh{α:AM}{m:dJ}{w:World}(h:lL P α m w): α m.next=none:=by
 cases e:α m.next with
 | none=>rfl
 | some L=>have:=(h.dom _ _ e).1;omega
theorem lL.le_ext{α:AM}{m:dJ}{w:World}(h:lL P α m w)(L:pY): Le α (ext α m.next L):=by intro b L' hb;rw [nI _ _ (fun e=>by subst e;rw [h.fresh]at hb;cases hb)];exact hb
theorem lL.new{α:AM}{m:dJ}{w w':World}(h:lL P α m w){L:pY}{o:Ob}(hs:w.heap.size≤w'.heap.size)(hos:w'.os=w.os)(ht:w'.tape=w.tape)(hu:w'.output=w.output)
  (hk:∀cb,cb<w.heap.size→cb≠L.blk→w'.heap[cb]?=w.heap[cb]?) (hL:L.blk<w'.heap.size) (hn:¬IY α m L.blk) (hr:w.heap.size≤L.blk)
  (ho:uV P (ext α m.next L) L w' o) :
  nY P α m w (ext α m.next L) ⟨Tr.set (m.next+1) m.t m.next o,m.next+1⟩ w':=by
 have hle:=h.le_ext L;have back:∀{b o' L'},(Tr.set (m.next+1) m.t m.next o).get b=some o'→ext α m.next L b=some L'→(b=m.next∧o'=o∧L'=L)∨(b≠m.next∧m.t.get b=some o'∧α b=some L'):=by
  intro b o' L' hx hy;rw [fA]at hx;by_cases e1:b=m.next
  ·subst e1;rw [if_pos rfl]at hx;rw [jw]at hy;cases hx;cases hy;exact .inl ⟨rfl,rfl,rfl⟩
  rw [if_neg e1]at hx;rw [nI _ _ e1]at hy;exact .inr ⟨e1,hx,hy⟩
 have lt:∀{b L'},α b=some L'→L'.blk≠L.blk:=fun hb he=>by have:=(h.dom _ _ hb).2;omega
 refine⟨hle,fun b hb=>nI _ _ (by omega),Nat.le_succ _,⟨?_,?_,?_,fun b' hb'=>by rw [fA,if_neg (fun e=>by have h2:m.next+1≤b':=hb';omega)];exact h.top b' (by have h2:m.next+1≤b':=hb';omega)⟩,hos,ht,hu,hs,?_,?_,fun b hb _=>by rw [fA,if_neg (by omega)]⟩
 ·intro b L' hb;by_cases e1:b=m.next
  ·subst e1;rw [jw]at hb;cases hb;exact⟨Nat.lt_succ_self _,hL⟩
  rw [nI _ _ e1]at hb;have:=h.dom _ _ hb;exact⟨Nat.lt_succ_of_lt this.1,Nat.lt_of_lt_of_le this.2 hs⟩
 ·intro b o' L' hx hy;rcases back hx hy with ⟨rfl,rfl,rfl⟩ | ⟨e1,hx,hy⟩
  ·exact ho
  exact ((h.obj _ _ _ hx hy).heap (hk _ (h.dom _ _ hy).2 (lt hy))).mono hle
 ·intro b1 b2 o1 o2 L1 L2 g1 l1 x1 g2 l2 x2 he;rcases back g1 x1 with ⟨p1,_,q1⟩ | ⟨e1,y1,z1⟩ <;> rcases back g2 x2 with ⟨p2,_,q2⟩ | ⟨e2,y2,z2⟩
  ·exact p1.trans p2.symm
  ·subst q1;exact absurd he.symm (lt z2)
  ·subst q2;exact absurd he (lt z1)
  exact h.inj _ _ _ _ _ _ y1 l1 z1 y2 l2 z2 he
 ·intro cb hcb hn';exact hk cb hcb (by omega)
 rintro cb ⟨b,o',L',hx,hl,hy,rfl⟩;rcases back hx hy with ⟨rfl,rfl,rfl⟩ | ⟨e1,hx,hy⟩
 ·exact .inr hr
 exact .inl ⟨b,o',L',hx,hl,hy,rfl⟩
theorem lL.newCells{α:AM}{m:dJ}{w:World}(h:lL P α m w){cs cs':Array Value}(hv:kN α cs cs')(e e':TypeId):
  nY P α m w (ext α m.next ⟨w.heap.size,0,cs.size⟩) ⟨Tr.set (m.next+1) m.t m.next (.cells (qm cs.toList) cs.size e false),m.next+1⟩
   { w with heap:=w.heap.push (.cells cs' e' (0,0)) }:=by
 refine h.new (L:=⟨w.heap.size,0,cs.size⟩) (by simp) rfl rfl rfl (fun cb h1 h2=>by simp [Array.getElem?_push];omega) (by simp) (fun⟨b,o,L,_,_,h3,h4⟩=>?_) (Nat.le_refl _) ?_
 ·have:=(h.dom _ _ h3).2;simp at h4;omega
 refine⟨cs',e',0,0,by simp,by simp [hv.1],by simp,fun i _=>by omega,fun _=>⟨rfl,rfl⟩,fun i hi=>?_⟩;refine⟨cs[i],cs'[i]'(by rw [←hv.1];exact hi),?_,?_,(hv.2 i hi (by rw [←hv.1];exact hi)).mono (h.le_ext _)⟩
 ·rw [qg,if_pos (by simpa using hi)];simp [hi]
 rw [Array.getElem?_eq_getElem (by rw [←hv.1];simpa using hi)];simp
theorem lL.newObj{α:AM}{m:dJ}{w:World}(h:lL P α m w){o o':Obj}(hv:xU α o o'):
  nY P α m w (ext α m.next ⟨w.heap.size,0,0⟩) ⟨Tr.set (m.next+1) m.t m.next (.obj o),m.next+1⟩ { w with heap:=w.heap.push o' }:=by
 refine h.new (L:=⟨w.heap.size,0,0⟩) (by simp) rfl rfl rfl (fun cb h1 h2=>by simp [Array.getElem?_push];omega) (by simp) (fun⟨b,o,L,_,_,h3,h4⟩=>?_) (Nat.le_refl _) ?_
 ·have:=(h.dom _ _ h3).2;simp at h4;omega
 exact⟨rfl,o',by simp,hv.mono (h.le_ext _)⟩
theorem lL.setObj{α:AM}{m:dJ}{w:World}(h:lL P α m w){r:Nat}{L:pY}(hb:α r=some L){o0 o o':Obj}(hg:m.t.get r=some (.obj o0))(hv:xU α o o'):
  (∃x,xU α o0 x∧w.heap[L.blk]?=some x)∧nY P α m w α ⟨Tr.set (r+1) m.t r (.obj o),m.next⟩ { w with heap:=w.heap.setIfInBounds L.blk o' }:=by
 obtain⟨h00,x,hx,hox⟩:=h.obj _ _ _ hg hb;refine⟨⟨x,hox,hx⟩,.refl _,fun _ _=>rfl,Nat.le_refl _,⟨?_,?_,?_,fun b' hb'=>by rw [fA,if_neg (fun e=>by have h1:=(h.dom _ _ hb).1;have h2:m.next≤b':=hb';omega)];exact h.top b' hb'⟩,rfl,rfl,rfl,by simp,?_,?_,fun b' _ hn'=>by rw [fA,if_neg (fun e=>by rw [e,hb,hg]at hn';rcases hn' with hn' | hn' <;> cases hn')]⟩
 ·intro b' L' hb';have:=h.dom b' L' hb';exact⟨this.1,by simpa using this.2⟩
 ·intro b' o' L' hg' hb';rw [fA]at hg';by_cases e1:b'=r
  ·subst e1;rw [if_pos rfl]at hg';cases hg';rw [hb]at hb';cases hb';exact⟨h00,o',by simp [(h.dom _ _ hb).2],hv⟩
  rw [if_neg e1]at hg';by_cases hl:lU o'
  ·have hne:L'.blk≠L.blk:=fun e3=>e1 (h.inj b' r o' _ L' L hg' hl hb' hg trivial hb e3);exact (h.obj _ _ _ hg' hb').heap (by simp [Ne.symm hne])
  cases o' with
  | dead=>trivial
  | _=>exact absurd trivial hl
 ·intro b1 b2 o1 o2 L1 L2 g1 l1 x1 g2 l2 x2 he;have key:∀{b' o'},(Tr.set (r+1) m.t r (.obj o)).get b'=some o'→lU o'→∃o'',m.t.get b'=some o''∧lU o'':=by
   intro b' o' hx hl;rw [fA]at hx;by_cases e1:b'=r
   ·subst e1;exact⟨_,hg,trivial⟩
   rw [if_neg e1]at hx;exact⟨_,hx,hl⟩
  obtain⟨p1,q1,r1⟩:=key g1 l1;obtain⟨p2,q2,r2⟩:=key g2 l2;exact h.inj _ _ _ _ _ _ q1 r1 x1 q2 r2 x2 he
 ·intro cb hcb hn;have hne:L.blk≠cb:=fun e3=>hn ⟨r,_,L,hg,trivial,hb,e3⟩;simp [hne]
 rintro cb ⟨b',o',L',hx,hl,hL,he⟩;refine .inl ?_;rw [fA]at hx;by_cases e1:b'=r
 ·subst e1;exact⟨b',_,L',hg,trivial,hL,he⟩
 rw [if_neg e1]at hx;exact⟨b',o',L',hx,hl,hL,he⟩
inductive fU(P:Program){A B:Type}(R:AM→A→B→Prop): AM→Sem A→Sem B→Prop where
 | pure {α:AM} {a:A} {b:B} (h:R α a b):fU P R α (.pure a) (.pure b)
 | load {α:AM} {md md':Mode} {k:Value→Sem A} {k':Value→Sem B} {b off:Nat} {L:pY} (h:α b=some L) (hk:∀v v',VR α v v'→fU P R α (k v) (k' v')) :
  fU P R α (.load md ⟨b,off,none⟩ k) (.load md' ⟨L.blk,L.sh+off,none⟩ k')
 | store {α:AM} {md md':Mode} {k:Sem A} {k':Sem B} {b off:Nat} {L:pY} {v v':Value} (h:α b=some L) (hv:VR α v v') (hk:fU P R α k k') :
  fU P R α (.store md ⟨b,off,none⟩ v k) (.store md' ⟨L.blk,L.sh+off,none⟩ v' k')
 | newCells {α:AM} {cs cs':Array Value} {e e':TypeId} {k:Nat→Sem A} {k':Nat→Sem B} (h:kN α cs cs')
  (hk:∀(β:AM) (b:Nat) (L:pY),Le α β→β b=some L→L.sh=0→L.tot=cs.size→fU P R β (k b) (k' L.blk)) :
  fU P R α (.new (.cells cs e (0,0)) k) (.new (.cells cs' e' (0,0)) k')
 | newObj {α:AM} {o o':Obj} {k:Nat→Sem A} {k':Nat→Sem B} (h:xU α o o')
  (hk:∀(β:AM) (b:Nat) (L:pY),Le α β→β b=some L→L.sh=0→fU P R β (k b) (k' L.blk)):fU P R α (.new o k) (.new o' k')
 | getObj {α:AM} {k:Obj→Sem A} {k':Obj→Sem B} {r:Nat} {L:pY} (h:α r=some L) (hk:∀o o',xU α o o'→fU P R α (k o) (k' o')) :
  fU P R α (.getObj r k) (.getObj L.blk k')
 | getBad {α:AM} {k:Obj→Sem A} {s':Sem B} {r:Nat} {L:pY} (h:α r=some L) (hs:L.sh≠0):fU P R α (.getObj r k) s'
 | setObj {α:AM} {k:Sem A} {k':Sem B} {r:Nat} {L:pY} {o o':Obj} (h:α r=some L) (he:xU α o o') (hk:fU P R α k k') :
  fU P R α (.setObj r o k) (.setObj L.blk o' k')
 | program {α:AM} {k:Program→Sem A} {k':Program→Sem B} (hk:fU P R α (k P) (k' P)):fU P R α (.program k) (.program k')
 | mark {α:AM} {x x':Mark} {k:Sem A} {k':Sem B} (hk:fU P R α k k'):fU P R α (.mark x k) (.mark x' k')
 | dead {α:AM} {s:Sem A} {s':Sem B} (h:∀m,dO P s m=none):fU P R α s s'
theorem gz{A C:Type}(f:A→Sem C): ∀(s:Sem A) (m:dJ),dO P (s.bind f) m=(dO P s m).bind fun x=>dO P (f x.1) x.2:=by
 intro s;induction s with
 | pure a=>intro m;rfl
 | load md a k ih=>intro m;simp only [Sem.bind,dO];cases m.cell a with
  | none=>rfl
  | some v=>exact ih v m
 | store md a v k ih=>
  intro m;simp only [Sem.bind,dO,nJ,Tr.setK_eq,dJ.put_eq];cases jb v with
  | true=>rfl
  | false=>
   simp only [cond_false];cases a.spot with
   | some _=>rfl
   | none=>
    cases m.t.get a.block with
    | none=>rfl
    | some o=>cases o with
     | cells c n e g=>
      simp only []
      cases hb:Nat.blt a.off n
      ·rfl
      ·exact ih _
     | _=>rfl
 | new o k ih=>
  intro m;cases o with
  | cells c e fz=>
   simp only [Sem.bind,dO,jl,dW,dJ.push_eq];split
   ·exact ih _ _
   rfl
  | map es cl=>simp only [Sem.bind,dO,dJ.push_eq];exact ih _ _
  | stringIter x p=>simp only [Sem.bind,dO,dJ.push_eq];exact ih _ _
  | _=>rfl
 | shape r k ih=>intro m;rfl
 | freeze a n k ih=>intro m;rfl
 | frozen a k ih=>intro m;rfl
 | getObj r k ih=>
  intro m;simp only [Sem.bind,dO];cases m.t.get r with
  | none=>rfl
  | some o=>cases o with
   | obj o=>exact ih _ _
   | _=>rfl
 | setObj r o k ih=>
  intro m;simp only [Sem.bind,dO,lX,dW,dJ.put_eq];cases m.t.get r with
  | none=>rfl
  | some x=>cases x with
   | obj x=>cases o with
    | map es' cl'=>exact ih _
    | stringIter x p=>exact ih _
    | _=>rfl
   | _=>rfl
 | choose q k ih=>intro m;rfl
 | sys c k ih=>intro m;rfl
 | program k ih=>intro m;exact ih P m
 | mark x k ih=>intro m;exact ih m
 | halt h=>intro m;rfl
theorem fU.bind{A B C D:Type}{R:AM→A→B→Prop}{S:AM→C→D→Prop}{α:AM}{s:Sem A}{s':Sem B}{f:A→Sem C}{f':B→Sem D}(h:fU P R α s s'):
  (∀β a b,Le α β→R β a b→fU P S β (f a) (f' b))→fU P S α (s.bind f) (s'.bind f'):=by
 induction h with
 | pure h=>intro k;exact k _ _ _ (.refl _) h
 | load h _ ih=>intro k;exact .load h fun v v' hv=>ih v v' hv k
 | store h hv _ ih=>intro k;exact .store h hv (ih k)
 | newCells h _ ih=>intro k;exact .newCells h fun β b L h1 h2 h3 h4=>ih β b L h1 h2 h3 h4 fun γ a b h5=>k γ a b (h1.trans h5)
 | newObj h _ ih=>intro k;exact .newObj h fun β b L h1 h2 h3=>ih β b L h1 h2 h3 fun γ a b h5=>k γ a b (h1.trans h5)
 | getObj h _ ih=>intro k;exact .getObj h fun o o' he=>ih o o' he k
 | getBad h hs=>intro k;exact .getBad h hs
 | setObj h he _ ih=>intro k;exact .setObj h he (ih k)
 | program _ ih=>intro k;exact .program (ih k)
 | mark _ ih=>intro k;exact .mark (ih k)
 | dead h=>intro _;exact .dead fun m=>by rw [gz,h];rfl
theorem fU.mono{A B:Type}{R S:AM→A→B→Prop}{α:AM}{s:Sem A}{s':Sem B}(h:fU P R α s s')(hr:∀β a b,Le α β→R β a b→S β a b): fU P S α s s':=by have:=h.bind (f:=Sem.pure) (f':=Sem.pure) (S:=S) fun β a b h1 h2=>.pure (hr β a b h1 h2);rwa [Sem.bind_pure',Sem.bind_pure']at this
theorem uA{α:AM}{v v':Value}(h:VR α v v')(hn:jb v=false): jb v'=false:=by cases h <;> first | rfl | (simp [jb]at hn)
theorem CX{B:Type}{md:Mode}{a:Addr}{v:Value}{k:Sem B}{w:World}(hn:jb v=false){old:Value}(hc:w.cell? a=some old)(hf:w.frozen? a=false):
  (Sem.store md a v k).run P w=k.run P (w.setCell a v):=by
 cases v <;> first | (simp [jb]at hn;done) | simp [Sem.run,hc,hf]
theorem Tz{A B:Type}{R:AM→A→B→Prop}{α:AM}{s:Sem A}{s':Sem B}(h:fU P R α s s'):
  ∀(m:dJ) (w:World) (a:A) (m1:dJ),lL P α m w→dO P s m=some (a,m1)→∃β b w1,R β a b∧nY P α m w β m1 w1∧s'.run P w=.ok b w1:=by
 induction h with
 | pure h=>
  intro m w a m1 hr he;simp only [dO,Option.some.injEq,Prod.mk.injEq]at he;obtain⟨rfl,rfl⟩:=he;exact⟨_,_,w,h,.refl hr,rfl⟩
 | @load α md md' k k' b off L h _ ih=>
  intro m w a m1 hr he;simp only [dO]at he;cases hc:m.cell ⟨b,off,none⟩with
  | none=>rw [hc]at he;cases he
  | some v=>
   rw [hc]at he;obtain⟨v',hv1,hv2⟩:=hr.cell h hc;obtain⟨β,b,w1,r1,r2,r3⟩:=ih v v' hv2 m w a m1 hr he;exact⟨β,b,w1,r1,r2,by simp only [Sem.run,hv1];exact r3⟩
 | @store α md md' k k' b off L v v' h hv _ ih=>
  intro m w a m1 hr he;simp only [dO,nJ,Tr.setK_eq,dJ.put_eq]at he;cases hn:jb v with
  | true=>rw [hn]at he;cases he
  | false=>
   rw [hn,cond_false]at he;split at he
   ·rename_i c n e g hg;cases ho:Nat.blt off n with
    | false=>rw [ho]at he;cases he
    | true=>
     rw [ho,cond_true]at he;obtain⟨⟨old,h1⟩,h2,h3⟩:=hr.store h hg (dR.1 ho) hv;obtain⟨β,b,w1,r1,r2,r3⟩:=ih _ _ a m1 h3.rel he;exact⟨β,b,w1,r1,h3.trans r2,by rw [CX (uA hv hn) h1 h2];exact r3⟩
   cases he
 | @newCells α cs cs' e e' k k' h _ ih=>
  intro m w a m1 hr he;simp only [dO,jl,dW,dJ.push_eq]at he;have hs:=hr.newCells h e e';obtain⟨β,b,w1,r1,r2,r3⟩:=ih _ m.next ⟨w.heap.size,0,cs.size⟩ hs.le (jw _ _ _) rfl rfl _ _ a m1 hs.rel he;exact⟨β,b,w1,r1,hs.trans r2,r3⟩
 | @newObj α o o' k k' h _ ih=>
  intro m w a m1 hr he;have hs:=hr.newObj h;have he':dO P (k m.next) ⟨Tr.set (m.next+1) m.t m.next (.obj o),m.next+1⟩=some (a,m1):=by cases h <;> (simp only [dO,dJ.push_eq]at he;exact he)
  obtain⟨β,b,w1,r1,r2,r3⟩:=ih _ m.next ⟨w.heap.size,0,0⟩ hs.le (jw _ _ _) rfl _ _ a m1 hs.rel he';exact⟨β,b,w1,r1,hs.trans r2,r3⟩
 | @getObj α k k' r L h _ ih=>
  intro m w a m1 hr he;simp only [dO]at he;split at he
  ·rename_i o hg;obtain⟨h0,o',h1,h2⟩:=hr.obj _ _ _ hg h;obtain⟨β,b,w1,r1,r2,r3⟩:=ih o o' h2 m w a m1 hr he;exact⟨β,b,w1,r1,r2,by cases h2 <;> (simp only [Sem.run,h1];exact r3)⟩
  cases he
 | @getBad α k s' r L h hs=>
  intro m w a m1 hr he;simp only [dO]at he;split at he
  ·rename_i o hg;obtain⟨h0,_⟩:=hr.obj _ _ _ hg h;exact absurd h0 hs
  cases he
 | @setObj α k k' r L o o' h he' _ ih=>
  intro m w a m1 hr he;simp only [dO,lX,dW,dJ.put_eq]at he;split at he
  ·rename_i o0 hg;obtain⟨⟨x,hx,h1⟩,h2⟩:=hr.setObj h hg he';have he2:dO P k ⟨Tr.set (r+1) m.t r (.obj o),m.next⟩=some (a,m1):=(by cases he' <;> exact he);obtain⟨β,b,w1,r1,r2,r3⟩:=ih _ _ a m1 h2.rel he2;exact⟨β,b,w1,r1,h2.trans r2,by cases hx <;> (simp only [Sem.run,h1];exact r3)⟩
  cases he
 | program _ ih=>intro m w a m1 hr he;exact ih m w a m1 hr he
 | mark _ ih=>intro m w a m1 hr he;exact ih m w a m1 hr he
 | dead h=>intro m w a m1 _ he;rw [h]at he;cases he
end
end
end Go.Den
