import Derived.LoopN
import Derived.Test.YtbpklgllihhgpaaGreatA07
set_option maxRecDepth 100000
set_option maxHeartbeats 16000000
namespace Go.Den
section
variable {P:Program} {α:AM}
def Ex.out:Ex→Exit
 | .normal=>.normal
 | .exit id=>.exit id
 | .ret=>.ret
def SE(P:Program)(α:AM)(m:dJ)(w:World)(ds:List Deferred)(ex:Ex)(E1:eX)(m1:dJ)(e:Exit)(a1:Act)(w1:World): Prop:=e=ex.out∧Pv P α m w ds E1 m1 a1 w1
structure xY(P:Program): Prop where
 zero:jc P
 call:uI P
 mixed:P.follows .mixedOrders=true
 code:∀(f:FuncId) (fn:Func),P.funcs[f]?=some fn→VD P fn=true
theorem EE{c:Code}{f:eX→dJ→Option (Ex×eX×dJ)}(hf:∀{α:AM} {E E1:eX} {a:Act} {m m1:dJ} {w:World} {ex:Ex},lL P α m w→qA α E a.tmps→f E m=some (ex,E1,m1)→c.wp P (SE P α m w a.defers ex E1 m1) a w):
  ∀(n:Nat) {α:AM} {E E1:eX} {a:Act} {m m1:dJ} {w:World} {ex:Ex},lL P α m w→qA α E a.tmps→rounds f n E m=some (ex,E1,m1)→∃k,Code.rounds P c (SE P α m w a.defers ex E1 m1) k a w
 | 0,_,_,_,_,_,_,_,_,_,_,h=>by cases h
 | n+1,α,E,E1,a,m,m1,w,ex,hr,hE,h=>by
  unfold rounds at h;cases hs:f E m with
  | none=>rw [hs]at h;cases h
  | some q=>
   obtain⟨ex2,E2,m2⟩:=q;rw [hs]at h;have hw:=hf hr hE hs;cases ex2 with
   | normal=>
    simp only at h;have all:∀(n:Nat) {α:AM} {E E1:eX} {a:Act} {m m1:dJ} {w:World} {ex:Ex},lL P α m w→qA α E a.tmps→rounds f n E m=some (ex,E1,m1)→Code.rounds P c (SE P α m w a.defers ex E1 m1) n a w:=by
     intro n;induction n with
     | zero=>intro _ _ _ _ _ _ _ _ _ _ h;cases h
     | succ n ih=>
      intro α E E1 a m m1 w ex hr hE h;unfold rounds at h;cases hs:f E m with
      | none=>rw [hs]at h;cases h
      | some q=>
       obtain⟨ex2,E2,m2⟩:=q;rw [hs]at h;have hw:=hf hr hE hs;rw [rounds_succ];refine Code.wp_mono ?_ hw;rintro e a1 w1 ⟨rfl,β,h1,h2,h3⟩;cases ex2 with
       | normal=>
        simp only at h;have:=ih h1.rel h2 h;rw [h3]at this;have mono:∀(k:Nat) (Q Q':Exit→Act→World→Prop) (hq:∀e a w,Q e a w→Q' e a w) (a:Act) (w:World),Code.rounds P c Q k a w→Code.rounds P c Q' k a w:=by
         intro k Q Q' hq;induction k with
         | zero=>intro a w h;exact h
         | succ k ihk=>
          intro a w h;rw [rounds_succ]at h ⊢;refine Code.wp_mono ?_ h;intro e a w he;cases e with
          | normal=>exact ihk a w he
          | _=>exact hq _ _ _ he
        refine mono n _ _ ?_ _ _ this;rintro e a2 w2 ⟨he,γ,g1,g2,g3⟩;exact⟨he,γ,h1.trans g1,g2,g3⟩
       | exit id=>cases h;exact⟨rfl,β,h1,h2,h3⟩
       | ret=>cases h;exact⟨rfl,β,h1,h2,h3⟩
    exact⟨n+1,all (n+1) hr hE (by unfold rounds;rw [hs];exact h)⟩
   | exit id=>
    cases h;refine⟨1,?_⟩;rw [rounds_succ];refine Code.wp_mono ?_ hw;rintro e a1 w1 ⟨rfl,hd⟩;exact⟨rfl,hd⟩
   | ret=>
    cases h;refine⟨1,?_⟩;rw [rounds_succ];refine Code.wp_mono ?_ hw;rintro e a1 w1 ⟨rfl,hd⟩;exact⟨rfl,hd⟩
theorem jk(hP:xY P){self:jX}(hself:nM P self){lf:Nat}: ∀(c:Code) {α:AM} {E E1:eX} {a:Act} {m m1:dJ} {w:World} {ex:Ex},kX P c=true→lL P α m w→qA α E a.tmps→
  jQ P self lf c E m=some (ex,E1,m1)→c.wp P (SE P α m w a.defers ex E1 m1) a w
 | .skip,α,E,E1,a,m,m1,w,ex,_,hr,hE,h=>by cases h;exact wp_skip ⟨rfl,α,.refl hr,hE,rfl⟩
 | .ret,α,E,E1,a,m,m1,w,ex,_,hr,hE,h=>by cases h;exact wp_ret ⟨rfl,α,.refl hr,hE,rfl⟩
 | .exit id,α,E,E1,a,m,m1,w,ex,_,hr,hE,h=>by cases h;exact wp_exit ⟨rfl,α,.refl hr,hE,rfl⟩
 | .region id ops draw,α,E,E1,a,m,m1,w,ex,hc,hr,hE,h=>by
  unfold jQ at h;cases draw with
  | false=>
   simp only [cond_false]at h;cases hs:uO P self ops ops.toList E m with
   | none=>rw [hs]at h;cases h
   | some q=>
    rw [hs]at h;cases h;simp only [kX,Bool.and_eq_true]at hc;exact wp_region_list (qw hP.zero hP.call hself _ hc.1 hr hE hs fun a1 w1 hd=>⟨rfl,hd⟩)
  | true=>
   simp only [cond_true]at h;cases hs:FH P self ops E m with
   | none=>rw [hs]at h;cases h
   | some q=>
    rw [hs]at h;cases h;simp only [kX,Bool.and_eq_true]at hc;exact Ez hP.zero hP.call hP.mixed hself hc.1 (by simpa using hc.2) hr hE hs fun a1 w1 hd=>⟨rfl,hd⟩
 | .seq x y,α,E,E1,a,m,m1,w,ex,hc,hr,hE,h=>by
  simp only [kX,Bool.and_eq_true]at hc;unfold jQ at h;cases hs:jQ P self lf x E m with
  | none=>rw [hs]at h;cases h
  | some q=>
   obtain⟨ex2,E2,m2⟩:=q;rw [hs]at h;have hw:=jk hP hself x hc.1 hr hE hs;refine wp_seq (Code.wp_mono ?_ hw);rintro e a1 w1 ⟨rfl,β,h1,h2,h3⟩;cases ex2 with
   | normal=>
    simp only at h;have:=jk hP hself y hc.2 h1.rel h2 h;refine Code.wp_mono ?_ this;rintro e a2 w2 ⟨he,γ,g1,g2,g3⟩;exact⟨he,γ,h1.trans g1,g2,g3.trans h3⟩
   | exit id=>cases h;exact⟨rfl,β,h1,h2,h3⟩
   | ret=>cases h;exact⟨rfl,β,h1,h2,h3⟩
 | .cond c x y,α,E,E1,a,m,m1,w,ex,hc,hr,hE,h=>by
  simp only [kX,Bool.and_eq_true]at hc;unfold jQ at h;have h0:=dE h;clear h;obtain⟨hok,h⟩:=h0;have hv:=hE.ev hok;split at h
  ·rename_i b hb;rw [hb]at hv;generalize hu:a.eval c=u at hv;cases hv with
   | bool b=>
    cases b with
    | true=>exact wp_cond_true hu (jk hP hself x hc.1 hr hE h)
    | false=>exact wp_cond_false hu (jk hP hself y hc.2 hr hE h)
  cases h
 | .block id c,α,E,E1,a,m,m1,w,ex,hc,hr,hE,h=>by
  simp only [kX]at hc;unfold jQ at h;cases hs:jQ P self lf c E m with
  | none=>rw [hs]at h;cases h
  | some q=>
   obtain⟨ex2,E2,m2⟩:=q;rw [hs]at h;refine wp_block (Code.wp_mono ?_ (jk hP hself c hc hr hE hs));rintro e a1 w1 ⟨rfl,β,h1,h2,h3⟩;cases ex2 with
   | normal=>cases h;exact⟨rfl,β,h1,h2,h3⟩
   | ret=>cases h;exact⟨rfl,β,h1,h2,h3⟩
   | exit j=>
    simp only at h;show (if j=id then _ else _);cases hj:Nat.beq j id with
    | true=>
     rw [hj,cond_true]at h;cases h;rw [if_pos (Nat.eq_of_beq_eq_true hj)];exact⟨rfl,β,h1,h2,h3⟩
    | false=>
     rw [hj,cond_false]at h;cases h;rw [if_neg (fun e=>by rw [e,Nat.beq_refl]at hj;cases hj)];exact⟨rfl,β,h1,h2,h3⟩
 | .loop c,α,E,E1,a,m,m1,w,ex,hc,hr,hE,h=>by simp only [kX]at hc;unfold jQ at h;obtain⟨k,hk⟩:=EE (c:=c) (f:=jQ P self lf c) (fun {α E E1 a m m1 w ex} hr hE h=>jk hP hself c hc hr hE h) lf hr hE h;exact wp_loop_rounds k hk
 | .rangeFunc ..,_,_,_,_,_,_,_,_,_,_,_,h=>by cases h
 | .scope ..,_,_,_,_,_,_,_,_,_,_,_,h=>by cases h
 | .label ..,_,_,_,_,_,_,_,_,_,_,_,h=>by cases h
 | .goto ..,_,_,_,_,_,_,_,_,_,_,_,h=>by cases h
 | .refuse ..,_,_,_,_,_,_,_,_,_,_,_,h=>by cases h
theorem Jo(fn:Func){g g':Nat→Value}(h:∀t,VR α (g t) (g' t)): fU P VR α (xX fn g) (xX fn g'):=by
 unfold xX;obtain⟨l,hl⟩:∃l:List ResultVar,fn.results=l.toArray:=⟨fn.results.toList,by simp⟩;rw [hl,List.mapM_toArray,List.mapM_toArray,map_eq_pure_bind,map_eq_pure_bind];simp only [bind_assoc,pure_bind];refine bV (AL (R:=VR) (fun h k=>k.mono h) _ _ l fun r _ β hle=>?_) ?_
 ·cases r with
  | tmp t=>exact cZ ((h t).mono hle)
  | cell x t=>
   have hx:=(h x).mono hle;refine bV (R:=AR) ?_ fun _ _ _ _ ha=>yl t ha;generalize g x=u at *;generalize g' x=u' at *;cases hx with
   | ptr hb=>exact cZ ⟨_,_,_,rfl,hb,rfl⟩
   | ptrN=>exact .dead fun m=>by unfold asAddr;exact gK _ m
   | _=>exact cO
 intro β x y _ hxy;have hlen:=hxy.len;by_cases e:x.length=1
 ·have e':y.length=1:=by rw [←hlen];exact e
  obtain⟨a,rfl⟩:=List.length_eq_one_iff.1 e;obtain⟨b,rfl⟩:=List.length_eq_one_iff.1 e';cases hxy with
  | cons hab _=>exact cZ (by simpa using hab)
 have e':¬y.length=1:=by rw [←hlen];exact e
 refine cZ ?_;simp only [List.size_toArray,e,e',dif_neg,not_false_eq_true];refine .tuple (by simpa using hlen) fun i h1 h2=>?_;obtain⟨a,b,p1,p2,p3⟩:=hxy.get i (by simpa using h1);have q1:x.toArray[i]=a:=by simpa using (List.getElem?_eq_some_iff.1 p1).2
 have q2:y.toArray[i]=b:=by simpa using (List.getElem?_eq_some_iff.1 p2).2
 rw [q1,q2];exact p3
theorem MK{args args':Array Value}(h:kN α args args')(k:Nat): qA α ⟨Bz args.toList 0 .e,args.toList.length+(k - args.toList.length)⟩ (args' ++ Array.replicate (k - args'.size) undef):=by
 have hs:args.toList.length=args'.size:=by rw [←h.1];simp
 refine⟨by simp [hs],fun i hi=>?_⟩;have hi':i<args'.size+(k - args'.size):=by rw [←hs];exact hi
 unfold eX.get;simp only;rw [Di];by_cases e:i<args'.size
 ·rw [if_pos (by omega)];have e1:i<args.size:=by rw [h.1];exact e
  have q1:args.toList[i - 0]?=some args[i]:=by simp [e1]
  rw [q1];have q2:(args' ++ Array.replicate (k - args'.size) undef).getD i undef=args'[i]:=by simp [Array.getElem?_append_left e,e]
  rw [q2];exact h.2 i e1 e
 rw [if_neg (by omega)];have q2:(args' ++ Array.replicate (k - args'.size) undef).getD i undef=undef:=by rw [Array.getD_eq_getD_getElem?,Array.getElem?_append_right (by omega)];rw [Array.getElem?_replicate];split <;> rfl
 rw [q2];exact pq
def DU(P:Program)(f:FuncId)(g:Array Value→dJ→Option (Value×dJ)): Prop:=∀args m v m1,g args m=some (v,m1)→∀(α:AM) (w:World) (args':Array Value),lL P α m w→kN α args args'→
 Calls P f args' w fun e w1=>∃β v',e=.returned v'∧VR β v v'∧nY P α m w β m1 w1
def BR(P:Program)(X:Su): Prop:=∀f g,X f=some g→∀self,nM P self→DU P f (g self)
theorem yc{g:Nat→Value}{m:dJ}: ∀(l:List ResultVar) {vs:List Value},wo P g m l=some vs→
  iR P (fun _=>true) (l.mapM fun | .tmp t=>pure (g t) | .cell a t=>do loadVar t (←asAddr (g a))) m=some vs
 | [],vs,h=>by cases h;rfl
 | x :: l,vs,h=>by
  rw [List.mapM_cons];unfold wo at h;split at h
  ·rename_i v hv;split at h
   ·rename_i us hus;cases h;have ih:=yc l hus;have e:iR P (fun _=>true) ((fun | .tmp t=>pure (g t) | .cell a t=>do loadVar t (←asAddr (g a)):ResultVar→Sem Value) x) m=some v:=by
     cases x with
     | tmp t=>cases hv;rfl
     | cell a t=>
      simp only at hv;split at hv
      ·rename_i b off hg;have:=Am (D:=fun _=>true) hv rfl;show iR P _ ((asAddr (g a)).bind _) m=_;rw [hg];exact this
      cases hv
    show iR P _ (Sem.bind _ _) m=_;rw [gJ _ _ m e];show iR P _ (Sem.bind _ _) m=_;rw [gJ _ _ m ih];rfl
   cases h
  cases h
theorem Ph{fn:Func}{g:Nat→Value}{m:dJ}{v:Value}(h:Qs P fn g m=some v): iR P (fun _=>true) (xX fn g) m=some v:=by
 unfold Qs at h;cases hf:wo P g m fn.results.toList with
 | none=>rw [hf]at h;exact h
 | some vs=>
  rw [hf]at h;have:=yc _ hf;unfold xX;have e:iR P (fun _=>true) (fn.results.mapM fun | .tmp t=>pure (g t) | .cell a t=>do loadVar t (←asAddr (g a))) m=some ⟨vs⟩:=by obtain⟨⟨l⟩⟩:∃l:Array ResultVar,l=fn.results:=⟨_,rfl⟩;have e1:fn.results=⟨fn.results.toList⟩:=(by simp);rw [e1,List.mapM_toArray,map_eq_pure_bind];show iR P _ (Sem.bind _ _) m=_;rw [gJ _ _ m this];rfl
  refine (gJ (D:=fun _=>true) (fun vs=>pure (if h:vs.size=1 then vs[0] else .tuple vs)) _ m e).trans ?_;simp only at h;split at h
  ·cases h;rfl
  rename_i hne;cases h;have:¬(⟨vs⟩:Array Value).size=1:=by intro h1;obtain⟨v,rfl⟩:∃v,vs=[v]:=List.length_eq_one_iff.1 (by simpa using h1);exact hne v rfl
  simp only [dif_neg this];rfl
theorem wP(hP:xY P){self:jX}(hself:nM P self){lf:Nat}{f:FuncId}: DU P f (Fb P lf self f):=by
 intro args m v m1 h α w args' hr hargs;unfold Fb at h;cases hfn:P.funcs[f]? with
 | none=>rw [hfn]at h;cases h
 | some fn=>
  rw [hfn]at h;simp only at h;cases hb:fn.body with
  | none=>rw [hb]at h;cases h
  | some c=>
   rw [hb]at h;simp only [lX,Ea,dW,nJ]at h;cases hs:jQ P self lf c ⟨Bz args.toList 0 .e,args.toList.length+(fn.ntmps - args.toList.length)⟩ m with
   | none=>rw [hs]at h;cases h
   | some q=>
    obtain⟨ex,E1,m2⟩:=q;rw [hs]at h;have hcode:kX P c=true:=(by have:=hP.code f fn hfn;unfold VD at this;rw [hb]at this;exact this);have hw:=jk hP hself c (a:={ tmps:=args' ++ Array.replicate (fn.ntmps - args'.size) undef,defers:=[] }) hcode hr (MK hargs fn.ntmps) hs;refine calls_of_wp hfn hb (Code.wp_mono ?_ hw);rintro e a1 w1 ⟨rfl,β,h1,h2,h3⟩;have fin:∀(_:(match Qs P fn E1.at m2 with | some v=>some (v,m2) | none=>none)=some (v,m1)),
      a1.defers=[]∧∃u,(results fn a1.tmps).run P w1=.ok u w1∧∃β v',Ending.returned u=.returned v'∧VR β v v'∧nY P α m w β m1 w1:=by
     intro h;cases hv0:Qs P fn E1.at m2 with
     | none=>rw [hv0]at h;cases h
     | some u=>
      rw [hv0]at h;cases h;have hv:=Ph hv0;have hg:∀t,VR β (E1.at t) (a1.tmps.getD t undef):=by
       intro t;unfold eX.at;cases ht:Nat.blt t E1.n with
       | true=>exact h2.2 t (dR.1 ht)
       | false=>
        have:¬t<a1.tmps.size:=(by rw [h2.1];intro e;rw [dR.2 e]at ht;cases ht);rw [Array.getD_eq_getD_getElem?,Array.getElem?_eq_none (Nat.le_of_not_lt this)];exact pq
      obtain⟨u',r1,r2⟩:=wG (Jo fn hg) m1 w1 v (fun b o L _ hb hL=>h1.rel.obj b o L hb hL) hv;exact⟨h3,u',r2,β,u',rfl,r1,h1⟩
    cases ex with
    | normal=>exact fin h
    | ret=>exact fin h
    | exit id=>cases h
theorem jq(hP:xY P){X:Su}(hX:BR P X){lf:Nat}: ∀n,nM P (kC P X lf n)
 | 0=>fun f args m v m1 h=>by cases h
 | n+1=>fun f args m v m1 h=>by
  unfold kC at h;cases hx:X f with
  | none=>rw [hx]at h;exact wP hP (jq hP hX n) args m v m1 h
  | some g=>rw [hx]at h;exact hX f g hx _ (jq hP hX n) args m v m1 h
end
section
variable {P:Program} {α β:AM}
structure mQ(w w':World): Prop where
 size:w.heap.size≤w'.heap.size
 old:∀cb,cb<w.heap.size→w'.heap[cb]?=w.heap[cb]?
 os:w'.os=w.os
 tape:w'.tape=w.tape
 output:w'.output=w.output
theorem mQ.refl(w:World): mQ w w:=⟨Nat.le_refl _,fun _ _=>rfl,rfl,rfl,rfl⟩
theorem mQ.alloc{w w':World}(h:mQ w w')(o:Obj): mQ w (w'.alloc o) where
 size:=by show w.heap.size≤(w'.heap.push o).size;have:=h.size;rw [Array.size_push];omega
 old cb hb:=by rw [←h.old cb hb];have:cb<w'.heap.size:=Nat.lt_of_lt_of_le hb h.size;show (w'.heap.push o)[cb]?=_;rw [Array.getElem?_push_lt this,Array.getElem?_eq_getElem this]
 os:=h.os
 tape:=h.tape
 output:=h.output
theorem lL.ext0{m:dJ}{w w':World}(h:lL P α m w)(e:mQ w w'): lL P α m w':=
 ⟨fun b L hb=>⟨(h.dom b L hb).1,Nat.lt_of_lt_of_le (h.dom b L hb).2 e.size⟩,fun b o L g hb=>(h.obj b o L g hb).heap (e.old _ (h.dom b L hb).2),h.inj,h.top⟩
theorem nY.pre{m m1:dJ}{w w' w1:World}(h:nY P α m w' β m1 w1)(e:mQ w w'): nY P α m w β m1 w1 where
 le:=h.le
 old:=h.old
 next:=h.next
 rel:=h.rel
 os:=h.os.trans e.os
 tape:=h.tape.trans e.tape
 output:=h.output.trans e.output
 size:=Nat.le_trans e.size h.size
 frame cb hb hn:=(h.frame cb (Nat.lt_of_lt_of_le hb e.size) hn).trans (e.old cb hb)
 rng cb hi:=(h.rng cb hi).imp id fun h=>Nat.le_trans e.size h
 ghost:=h.ghost
theorem nY.post{m m1:dJ}{w w1 w2:World}(h:nY P α m w β m1 w1)(hs:w1.heap.size≤w2.heap.size)(ho:∀cb,cb<w1.heap.size→w2.heap[cb]?=w1.heap[cb]?∨(w.heap.size≤cb∧¬IY β m1 cb))
  (os:w2.os=w1.os) (tape:w2.tape=w1.tape) (output:w2.output=w1.output):nY P α m w β m1 w2 where
 le:=h.le
 old:=h.old
 next:=h.next
 rel:=by
  refine⟨fun b L hb=>⟨(h.rel.dom b L hb).1,Nat.lt_of_lt_of_le (h.rel.dom b L hb).2 hs⟩,fun b o L g hb=>?_,h.rel.inj,h.rel.top⟩;by_cases hl:lU o
  ·rcases ho L.blk (h.rel.dom b L hb).2 with h1 | ⟨_,h1⟩
   ·exact (h.rel.obj b o L g hb).heap h1
   exact absurd ⟨b,o,L,g,hl,hb,rfl⟩ h1
  cases o with
  | dead=>trivial
  | _=>exact absurd trivial hl
 os:=os.trans h.os
 tape:=tape.trans h.tape
 output:=output.trans h.output
 size:=Nat.le_trans h.size hs
 frame cb hb hn:=by
  rcases ho cb (Nat.lt_of_lt_of_le hb h.size)with h1 | ⟨h1,_⟩
  ·exact h1.trans (h.frame cb hb hn)
  omega
 rng:=h.rng
 ghost:=h.ghost
theorem Sj{X:Su}{lf n:Nat}(hP:xY P)(hX:BR P X){f:FuncId}{args:Array Value}{v:Value}{m1:dJ}(hg:args.toList.all ig=true)(hv:ig v=true)
  (h:kC P X lf n f args ⟨.e,0⟩=some (v,m1)) {α:AM} {m:dJ} {w:World} {args':Array Value} (hr:lL P α m w) (ha:kN α args args') :
  Calls P f args' w fun e w1=>∃β v',e=.returned v'∧VR β v v'∧nY P α m w β m w1:=by
 have e:args'=args:=Array.ext ha.1.symm fun i h1 h2=>VR.eq (List.all_eq_true.1 hg _ (by simp)) (ha.2 i h2 h1);subst e;have h0:lL P (fun _=>none) ⟨.e,0⟩ w:=⟨(fun _ _ h=>by cases h),(fun _ _ _ h=>by cases h),(fun _ _ _ _ _ _ h=>by cases h),fun _ _=>rfl⟩;refine (jq hP hX n f args' ⟨.e,0⟩ v m1 h (fun _=>none) w args' h0 ⟨rfl,fun i h1 h2=>VR.refl (List.all_eq_true.1 hg _ (by simp))⟩).mono ?_;rintro e w1 ⟨β,v',rfl,hvr,hst⟩;obtain rfl:v'=v:=VR.eq hv hvr;refine⟨α,v',rfl,VR.refl hv,(nY.refl hr).post hst.size (fun cb hb=>.inl (hst.frame cb hb ?_)) hst.os hst.tape hst.output⟩;rintro⟨b,o,L,h1,_⟩;cases h1
def EX(n:Nat): TypeDesc→Bool
 | .array k _=>Nat.blt k G
 | .slice e=>Nat.blt e n
 | .map _ e=>Nat.blt e n
 | .pointer e=>Nat.blt e n
 | .named _ u=>Nat.blt u n
 | _=>true
def LG(n:Nat)(i:TypeInfo): Bool:=(match i.zero with | some v=>ig v | none=>true) && EX n i.desc
def Kq(P:Program)(fn:Func): Bool:=!(fn.name == "runtime.NumGoroutine") && VD P fn
theorem NZ{P:Program}(n:Nat)(hn:P.types.size=n)(ht:P.types.toList.all (LG n)=true)(hf:P.funcs.toList.all (Kq P)=true)(hm:P.follows .mixedOrders=true): xY P where
 zero:=by
  have at_:∀t i,t<P.types.size→P.info? t=some i→P.types[t]?=some i:=by intro t i hlt h;have h:(if t<P.types.size then P.types[t]? else Made.infoAt P.toTables Made.depth t)=some i:=h;rwa [if_pos hlt]at h
  have ty:∀t i,t<P.types.size→P.info? t=some i→(match i.zero with | some v=>ig v | none=>true)=true∧EX P.types.size i.desc=true:=fun t i hlt h=>by have h2:=at_ t i hlt h;rw [←Array.getElem?_toList]at h2;have:=List.all_eq_true.1 ht i (List.mem_of_getElem? h2);unfold LG at this;rw [Bool.and_eq_true,←hn]at this;exact this
  have un:∀t d,t<P.types.size→P.underlying t=some d→EX P.types.size d=true:=by
   intro t d hlt h;unfold Program.underlying at h;cases hi:P.info? t with
   | none=>rw [hi]at h;cases h
   | some i=>
    rw [hi]at h;have hd:=(ty t i hlt hi).2;obtain⟨desc,_⟩:=i;cases desc with
    | named nm u=>
     have hu:=dR.1 hd;simp only at h;cases hj:P.info? u with
     | none=>rw [hj]at h;cases h
     | some j=>
      rw [hj]at h;cases h;exact (ty u j hu hj).2
    | _=>cases h;exact hd
  refine⟨fun t i v hlt h hz=>?_,fun t n e hlt h=>dR.1 (un t _ hlt h),fun t e hlt h=>dR.1 (un t _ hlt h),fun t k e hlt h=>dR.1 (un t _ hlt h),fun t e hlt h=>dR.1 (un t _ hlt h)⟩;have:=(ty t i hlt h).1;rw [hz]at this;exact this
 call f fn h:=by rw [←Array.getElem?_toList]at h;have:=List.all_eq_true.1 hf fn (List.mem_of_getElem? h);unfold Kq at this;rw [Bool.and_eq_true,Bool.not_eq_true']at this;exact this.1
 mixed:=hm
 code f fn h:=by rw [←Array.getElem?_toList]at h;have:=List.all_eq_true.1 hf fn (List.mem_of_getElem? h);unfold Kq at this;rw [Bool.and_eq_true]at this;exact this.2
end
end Go.Den
