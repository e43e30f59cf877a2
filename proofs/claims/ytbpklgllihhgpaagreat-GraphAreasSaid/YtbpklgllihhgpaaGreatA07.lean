import Derived.Test.YtbpklgllihhgpaaGreatA06
set_option maxRecDepth 100000
set_option maxHeartbeats 16000000
namespace Go.Den
section
variable {P:Program}
theorem Bv(kd:Nat→Kd)(n:Nat): ∀(k i:Nat),i+k=n→∃p,i≤p∧p≤n∧(∀j,i≤j→j<p→kd j≠.eff)∧(p<n→kd p=.eff)
 | 0,i,h=>⟨i,Nat.le_refl _,by omega,fun j a b=>by omega,fun h'=>by omega⟩
 | k+1,i,h=>by
  by_cases e:kd i=.eff
  ·exact⟨i,Nat.le_refl _,by omega,fun j a b=>by omega,fun _=>e⟩
  obtain⟨p,h1,h2,h3,h4⟩:=Bv kd n k (i+1) (by omega);refine⟨p,by omega,h2,fun j a b=>?_,h4⟩;by_cases hj:j=i
  ·rw [hj];exact e
  exact h3 j (by omega) b
section
variable {self:jX} {ops:Array Oper} {base:Nat} {E:Nat→eX} {M:Nat→dJ} {kd:Nat→Kd} (D:DR P self ops base E M kd)
 {α0:AM} {w0:World} {ds:List Deferred} {S:Array Bool} {a:Act} {w:World} {α:AM} {p:Nat} {o:Oper}
include D
omit D in
theorem nZ.rel(I:nZ P ops base E M kd α0 w0 ds S a w α p): lL P α (M p) w:=
 ⟨I.dom,I.obj,fun b b' o o' L L' x1 x2 x3 y1 y2 y3 e=>I.inj b b' o o' L L' (.inl x1) x2 x3 (.inl y1) y2 y3 e,I.top p (Nat.le_refl _)⟩
theorem nZ.eff (I : nZ P ops base E M kd α0 w0 ds S a w α p) (ho : ops[p]? = some o) (hrd : ∀ e ∈ o.after.toList, Region.binds .any e = true → S.getD e.on false = true)
    {β : AM} {w1 : World} {v v' : Value} (hE : E (p + 1) = (E p).put' o.dst v) (hv : VR β v v') (hst : nY P α (M p) w β (M (p + 1)) w1) :
    ∃ p', nZ P ops base E M kd α0 w0 ds (S.setIfInBounds p true) (a.put o.dst v') w1 β p' := by
  have hp : p < ops.size := (Array.getElem?_eq_some_iff.1 ho).1
  have hpS : p < S.size := by rw [I.size]; exact hp
  obtain ⟨p', q1, q2, q3, q4⟩ := Bv kd ops.size (ops.size - (p + 1)) (p + 1) (by omega)
  obtain ⟨f1, f2⟩ := D.floats q1 q2 q3
  obtain ⟨he1, he2⟩ := I.envStep D ho hst.le hE hv
  have hSt : ∀ j, j ≠ p → (S.setIfInBounds p true).getD j false = S.getD j false := fun j hj => by rw [lD S p j hpS, if_neg hj]
  have UC : ∀ {j}, kd j = .new → base + j < (M p).next := fun {j} hj => D.base_le I.ple (D.lt (by rw [hj]; intro h; cases h))
  have keep : ∀ j, p ≤ j → kd j = .new → S.getD j false = true → ∃ L o, α (base + j) = some L ∧ β (base + j) = some L ∧ (M (j + 1)).t.get (base + j) = some o ∧ lU o ∧ uV P β L w1 o ∧ L.blk < w.heap.size ∧ ¬ IY α (M p) L.blk := by
    intro j h1 h2 h3
    obtain ⟨L, o2, r1, r2, r3, r4⟩ := I.fl j h1 h2 h3
    have hlt := (I.dom _ _ r1).2
    have hnot : ¬ IY α (M p) L.blk := by
      rintro ⟨b, o3, L3, s1, s2, s3, s4⟩
      have := I.inj b (base + j) o3 o2 L3 L (.inl s1) s2 s3 (.inr ⟨j, h1, h2, h3, rfl, r2⟩) r3 r1 s4
      rw [this, I.later p (Nat.le_refl _) j h1 h2] at s1
      cases s1
    exact ⟨L, o2, r1, hst.le _ _ r1, r2, r3, (r4.heap (hst.frame _ hlt hnot)).mono hst.le, hlt, hnot⟩
  have mid : ∀ {j}, p < j → j < p' → kd j = .new → (M p').t.get (base + j) = (M (j + 1)).t.get (base + j) := by
    intro j h1 h2 h3
    exact (D.floats (i := j + 1) (j := p') (by omega) q2 fun k a b => q3 k (by omega) b).2 _ fun k a b c => by omega
  have low : ∀ {j}, (j < p ∨ p' ≤ j) → (M p').t.get (base + j) = (M (p + 1)).t.get (base + j) := by
    intro j h
    exact f2 _ fun k a b c => by omega
  have pre : ∀ {j}, j ≠ p → kd j = .new → (j < p → S.getD j false = false) → (M (p + 1)).t.get (base + j) = (M p).t.get (base + j) := by
    intro j hj h1 h2
    refine hst.ghost _ (UC h1) ?_
    rcases Nat.lt_or_ge j p with h | h
    · exact .inl (I.gone j h1 (h2 h))
    · exact .inr (I.later p (Nat.le_refl _) j h h1)
  have cls : ∀ {b ob L}, ED base M kd (S.setIfInBounds p true) p' b ob → β b = some L → (∃ j, p < j ∧ kd j = .new ∧ S.getD j false = true ∧ b = base + j ∧ (M (j + 1)).t.get b = some ob ∧ α b = some L) ∨ (M (p + 1)).t.get b = some ob := by
    intro b ob L h hL
    rcases h with h | ⟨j, h1, h2, h3, rfl, h5⟩
    · by_cases hf : ∃ j, p < j ∧ j < p' ∧ kd j = .new ∧ b = base + j
      · obtain ⟨j, h1, h2, h3, rfl⟩ := hf
        rw [mid h1 h2 h3] at h
        have hα : α (base + j) = some L := by rw [← hst.old _ (UC h3)]; exact hL
        refine .inl ⟨j, h1, h3, ?_, rfl, h, hα⟩
        cases hS : S.getD j false with
        | true => rfl
        | false => rw [I.gone j h3 hS] at hα; cases hα
      · rw [f2 b fun k a b' c e => hf ⟨k, a, b', c, e⟩] at h
        exact .inr h
    · refine .inl ⟨j, by omega, h2, ?_, rfl, h5, ?_⟩
      · rw [hSt j (by omega)] at h3; exact h3
      · rw [← hst.old _ (UC h2)]; exact hL
  have clsRng : ∀ {b ob L}, (M (p + 1)).t.get b = some ob → lU ob → β b = some L → IY α (M p) L.blk ∨ w.heap.size ≤ L.blk := fun h1 h2 h3 => hst.rng _ ⟨_, _, _, h1, h2, h3, rfl⟩
  refine ⟨p',
    { size := by simp [I.size]
      down := I.downStep ho hrd
      p1 := fun e he hke => by
        by_cases h1 : e = p
        · rw [h1, lD S p p hpS, if_pos rfl]
        · rcases Nat.lt_or_ge e p with h2 | h2
          · exact qL hpS (I.p1 e h2 hke)
          · exact absurd hke (q3 e (by omega) he)
      ple := q2
      p2 := q4
      p3 := fun e he hke => by rw [hSt e (by omega)]; exact I.p3 e (by omega) hke
      tsize := he1
      env := he2
      defers := by rw [nK]; exact I.defers
      dom := fun b L h => by have := hst.rel.dom b L h; exact ⟨by rw [f1]; exact this.1, this.2⟩
      obj := fun b ob L hb hL => by
        rcases cls (.inl hb) hL with ⟨j, h1, h2, h3, rfl, h5, h6⟩ | h
        · obtain ⟨L2, o2, r1, r2, r3, r4, r5, _⟩ := keep j (by omega) h2 h3
          rw [r2] at hL; cases hL
          rw [h5] at r3; cases r3
          exact r5
        · exact hst.rel.obj b ob L h hL
      inj := fun b b' o1 o2 L1 L2 x1 x2 x3 y1 y2 y3 e => by
        rcases cls x1 x3 with ⟨j, h1, h2, h3, h4, h5, h6⟩ | h1 <;> rcases cls y1 y3 with ⟨k, g1, g2, g3, g4, g5, g6⟩ | g1
        · exact I.inj b b' o1 o2 L1 L2 (.inr ⟨j, by omega, h2, h3, h4, h5⟩) x2 h6 (.inr ⟨k, by omega, g2, g3, g4, g5⟩) y2 g6 e
        · obtain ⟨L3, o3, r1, r2, r3, r4, r5, r6, r7⟩ := keep j (by omega) h2 h3
          rw [← h4, h6] at r1; cases r1
          rcases clsRng g1 y2 y3 with h | h
          · rw [← e] at h; exact absurd h r7
          · rw [← e] at h; omega
        · obtain ⟨L3, o3, r1, r2, r3, r4, r5, r6, r7⟩ := keep k (by omega) g2 g3
          rw [← g4, g6] at r1; cases r1
          rcases clsRng h1 x2 x3 with h | h
          · rw [e] at h; exact absurd h r7
          · rw [e] at h; omega
        · exact hst.rel.inj b b' o1 o2 L1 L2 h1 x2 x3 g1 y2 y3 e
      top := fun i hi b hb => by
        rcases Nat.lt_or_ge p i with hlt | hge
        · obtain ⟨g1, g2⟩ := D.floats (i := p + 1) (j := i) (by omega) (by omega) fun k a b' => q3 k a (by omega)
          rw [g1] at hb
          have hb2 : base + ops.size ≤ b := by
            have := D.next_mono (Nat.zero_le (p + 1)) (by omega)
            rw [D.next0] at this
            omega
          rw [g2 b fun k a b' c e => by have := D.lt (i := k) (by rw [c]; intro h; cases h); omega]
          exact hst.rel.top b hb
        · exact I.top i hge b hb
      fl := fun j h1 h2 h3 => by
        rw [hSt j (by omega)] at h3
        obtain ⟨L2, o2, r1, r2, r3, r4, r5, _⟩ := keep j (by omega) h2 h3
        exact ⟨L2, o2, r2, r3, r4, r5⟩
      later := fun i hi j h1 h2 => by
        rcases Nat.lt_or_ge p i with hlt | hge
        · obtain ⟨g1, g2⟩ := D.floats (i := p + 1) (j := i) (by omega) (by omega) fun k a b' => q3 k a (by omega)
          rw [g2 _ fun k a b' c e => by omega, pre (by omega) h2 (fun h => by omega)]
          exact I.later p (Nat.le_refl _) j (by omega) h2
        · exact I.later i hge j h1 h2
      gone := fun j h1 h2 => by
        have := nz hpS h2
        rw [hst.old _ (UC h1)]
        exact I.gone j h1 this.2
      ghost := fun j h1 h2 h3 => by
        have := nz hpS h3
        rcases Nat.lt_or_ge j p with h | h
        · rw [low (.inl h), pre this.1 h2 (fun _ => this.2)]
          exact I.ghost j h h2 this.2
        · exact mid (by omega) h1 h2
      le0 := I.le0.trans hst.le
      old0 := fun b hb => by
        rw [hst.old b (by have := D.base_le (i := p) I.ple hp; omega)]
        exact I.old0 b hb
      os := hst.os.trans I.os, tape := hst.tape.trans I.tape, output := hst.output.trans I.output
      size0 := Nat.le_trans I.size0 hst.size
      frame := fun cb hcb hn => by
        refine (hst.frame cb (Nat.lt_of_lt_of_le hcb I.size0) ?_).trans (I.frame cb hcb hn)
        rintro ⟨b, ob, L, h1, h2, h3, rfl⟩
        rcases I.rng b ob L (.inl h1) h2 h3 with h | h
        · exact hn h
        · omega
      rng := fun b ob L x1 x2 x3 => by
        rcases cls x1 x3 with ⟨j, h1, h2, h3, h4, h5, h6⟩ | h1
        · exact I.rng b ob L (.inr ⟨j, by omega, h2, h3, h4, h5⟩) x2 h6
        · rcases clsRng h1 x2 x3 with ⟨b2, o2, L2, s1, s2, s3, s4⟩ | h
          · rw [← s4]; exact I.rng b2 o2 L2 (.inl s1) s2 s3
          · exact .inr (Nat.le_trans I.size0 h)
      ghost0 := fun b hb hn => by
        have hb2 : b < (M p).next := by have := D.base_le (i := p) I.ple hp; omega
        rw [f2 b fun k a b' c e => by omega, hst.ghost b hb2 (by
          rcases hn with h | h
          · exact .inl ((I.old0 b hb).trans h)
          · exact .inr ((I.ghost0 b hb (.inr h)).trans h))]
        exact I.ghost0 b hb hn }⟩
theorem nZ.all(I:nZ P ops base E M kd α0 w0 ds S a w α p)(h:Region.ready .any ops S=[]): ∀i,i<ops.size→S.getD i false=true:=by
 intro i;induction i using Nat.strongRecOn with
 | _ i ih=>
  intro hi;cases hS:S.getD i false with
  | true=>rfl
  | false=>
   exfalso;obtain⟨o,ho⟩:=Jn hi;have hmem:i∈Region.ready .any ops S:=by
    rw [mem_ready];refine⟨?_,o,ho,fun e he hb=>?_⟩
    ·have:i<S.size:=(by rw [I.size];exact hi);simpa [this]using hS
    have hst:=D.stat i o ho;unfold uz at hst;simp only [Bool.and_eq_true]at hst;have h1:=List.all_eq_true.1 hst.1.1.1.1 e (by simpa using he);rw [hb]at h1;have h2:e.on<i:=dR.1 (by simpa using h1);exact ih e.on h2 (by omega)
   rw [h]at hmem;cases hmem
theorem nZ.end(I:nZ P ops base E M kd α0 w0 ds S a w α p)(h:∀i,i<ops.size→S.getD i false=true){m0:dJ}(h0:m0.t=(M 0).t)(hb:m0.next=base):
  Pv P α0 m0 w0 ds (E ops.size) (M ops.size) a w:=by
 have hp:p=ops.size:=by
  rcases Nat.lt_or_ge p ops.size with h' | h'
  ·have:=I.p3 p (Nat.le_refl _) (I.p2 h');rw [h p h']at this;cases this
  exact Nat.le_antisymm I.ple h'
 subst hp;have hin:∀cb,IY α0 (M 0) cb↔IY α0 m0 cb:=by intro cb;unfold IY;rw [h0]
 refine⟨α,⟨I.le0,fun b hb'=>I.old0 b (by omega),?_,I.rel,I.os,I.tape,I.output,I.size0,fun cb hc hn=>I.frame cb hc (fun h=>hn ((hin cb).1 h)),?_,?_⟩,⟨?_,fun t ht=>?_⟩,I.defers⟩
 ·have:=D.next_mono (Nat.zero_le ops.size) (Nat.le_refl _);rw [D.next0]at this;omega
 ·rintro cb ⟨b,ob,L,x1,x2,x3,rfl⟩;exact (I.rng b ob L (.inl x1) x2 x3).imp (hin _).1 id
 ·intro b hb' hn;rw [h0]at hn ⊢;exact I.ghost0 b (by omega) hn
 ·rw [D.En0 (Nat.le_refl _)];exact I.tsize
 rw [D.En0 (Nat.le_refl _)]at ht;have:=I.env t ht;have e:uX ops E (fun i=>S.getD i false) t=(E ops.size).get t:=by
  unfold uX;rw [D.Eget (t:=t) (Nat.le_refl _)];cases hd:jF ops.toList t 0 with
  | none=>rfl
  | some j=>
   obtain⟨_,o2,h1,_⟩:=qX _ _ _ hd;have hj:j<ops.size:=(by have:=(List.getElem?_eq_some_iff.1 h1).1;simpa using this);simp only [h j hj,cond_true,hj,if_true]
 rwa [e]at this
end
end
section
variable {P:Program}
theorem uh.refl_or{P:Program}{a b c:Option Ob}(h1:a=b∨uh P a b)(h2:b=c∨uh P b c): a=c∨uh P a c:=by
 rcases h1 with rfl | h1
 ·exact h2
 rcases h2 with rfl | h2
 ·exact .inr h1
 exact .inr ⟨h1.1,h2.2.1,fun α L w=>(h1.2.2 α L w).trans (h2.2.2 α L w)⟩
section
variable {self:jX} {ops:Array Oper} {base:Nat} {E:Nat→eX} {M:Nat→dJ} {kd:Nat→Kd} (D:DR P self ops base E M kd)
 {α0:AM} {w0:World} {ds:List Deferred} {S:Array Bool} {a:Act} {w:World} {α:AM} {p i:Nat} {o:Oper}
include D
theorem DR.same{i j b:Nat}(hij:i≤j)(hj:j≤ops.size)(hf:∀k,i≤k→k<j→kd k=.new→b≠base+k)
  (he:∀e,i≤e→e<j→kd e=.eff→uh P ((M e).t.get b) ((M (e+1)).t.get b)):(M i).t.get b=(M j).t.get b∨uh P ((M i).t.get b) ((M j).t.get b):=by
 induction hij with
 | refl=>exact .inl rfl
 | @step j hij ih=>
  refine (ih (by omega) (fun k a b=>hf k a (by omega)) fun e a b=>he e a (by omega)).elim (fun h=>?_) fun h=>?_
  ·by_cases hk:kd j=.eff
   ·rw [h];exact .inr (he j hij (by omega) hk)
   refine .inl ?_;rw [h,(D.float hk (by omega)).2 b];by_cases hn:kd j=.new
   ·exact .inl (hf j hij (by omega) hn)
   exact .inr hn
  by_cases hk:kd j=.eff
  ·exact uh.refl_or (.inr h) (.inr (he j hij (by omega) hk))
  refine uh.refl_or (.inr h) (.inl ?_);rw [(D.float hk (by omega)).2 b];by_cases hn:kd j=.new
  ·exact .inl (hf j hij (by omega) hn)
  exact .inr hn
theorem nZ.foot(I:nZ P ops base E M kd α0 w0 ds S a w α p)(ho:ops[i]?=some o)(hni:S.getD i false=false)(hrd:∀e∈o.after.toList,Region.binds .any e=true→S.getD e.on false=true)
  {b:Nat} (hk:kd i=.quiet (some b)) {ob:Ob} {L:pY} (hb:(M i).t.get b=some ob) (hL:α b=some L):uV P α L w ob:=by
 have hi:i<ops.size:=(Array.getElem?_eq_some_iff.1 ho).1;have before:∀{x y},pJ ops x y→x=i→S.getD y false=true:=by
  intro x y h;induction h with
  | one ho' he hbd=>
   rintro rfl;rw [ho]at ho';cases ho';exact hrd _ he hbd
  | step h1 h2 ih ih'=>exact fun hx=>I.down.path h2 (ih hx)
 have behind:∀{x},pJ ops x i→S.getD x false=true→False:=by intro x h hx;have:=I.down.path h hx;simp only [hni]at this;cases this
 have hbp:=(I.dom _ _ hL).1;have eqA:∀e,e<p→i≤e→b<(M e).next→kd e=.eff→uh P ((M e).t.get b) ((M (e+1)).t.get b):=by
  intro e h1 h2 h3 h4;have hne:e≠i:=by rintro rfl;rw [hk]at h4;cases h4
  rcases D.stable i b hk e h4 hne with ⟨_,h⟩ | ⟨h,_⟩ | h | h
  ·exact (behind h (I.p1 e h1 h4)).elim
  ·omega
  ·omega
  exact h
 have eqB:∀e,p≤e→e<i→b<(M e).next→kd e=.eff→uh P ((M e).t.get b) ((M (e+1)).t.get b):=by
  intro e h1 h2 h3 h4;rcases D.stable i b hk e h4 (by omega)with ⟨h,_⟩ | ⟨_,h⟩ | h | h
  ·omega
  ·have:=before h rfl;rw [I.p3 e h1 h4]at this;cases this
  ·omega
  exact h
 have use:∀{x:Option Ob},(x=some ob∨uh P x (some ob))→(∀o2,x=some o2→uV P α L w o2)→uV P α L w ob:=by
  intro x h hx;rcases h with h | h
  ·exact hx ob h
  obtain⟨o2,h2⟩:=h.1;obtain⟨o3,h3,h4⟩:=(h.2.2 α L w).1 ⟨o2,h2,hx o2 h2⟩;cases h3;exact h4
 have sym:∀{x y:Option Ob},(x=y∨uh P x y)→(y=x∨uh P y x):=by
  intro x y h;rcases h with h | h
  ·exact .inl h.symm
  exact .inr ⟨h.2.1,h.1,fun α L w=>(h.2.2 α L w).symm⟩
 by_cases hfl:∃j,kd j=.new∧b=base+j
 ·obtain⟨j,hj,rfl⟩:=hfl;have hjn:j<ops.size:=D.lt (by rw [hj];intro h;cases h);have hSj:S.getD j false=true:=by
   cases hS:S.getD j false with
   | true=>rfl
   | false=>rw [I.gone j hj hS]at hL;cases hL
  have hnx:∀e,e≤ops.size→base+j<(M e).next:=fun e he=>D.base_le he hjn;rcases Nat.lt_or_ge j p with hjp | hjp
  ·rcases Nat.lt_or_ge j i with hji | hji
   ·rcases Nat.lt_or_ge p i with hpi | hpi
    ·refine use (x:=(M p).t.get (base+j)) ?_ fun o2 h2=>I.obj _ _ _ h2 hL;rw [←hb];exact D.same (Nat.le_of_lt hpi) (Nat.le_of_lt hi) (fun k h1 h2 h3=>by omega) fun e h1 h2 h3=>eqB e h1 h2 (hnx e (by omega)) h3
    refine use (x:=(M p).t.get (base+j)) ?_ fun o2 h2=>I.obj _ _ _ h2 hL;rw [←hb];exact sym (D.same hpi I.ple (fun k h1 h2 h3=>by omega) fun e h1 h2 h3=>eqA e h2 h1 (hnx e (by have:=I.ple;omega)) h3)
   rw [I.later i (by omega) j hji hj]at hb;cases hb
  rcases Nat.lt_or_ge j i with hji | hji
  ·obtain⟨L2,o2,r1,r2,r3,r4⟩:=I.fl j hjp hj hSj;rw [hL]at r1;cases r1;refine use (x:=(M (j+1)).t.get (base+j)) ?_ fun o3 h3=>by rw [r2]at h3;cases h3;exact r4
   rw [←hb];exact D.same (by omega) (Nat.le_of_lt hi) (fun k h1 h2 h3=>by omega) fun e h1 h2 h3=>eqB e (by omega) h2 (hnx e (by omega)) h3
  rcases Nat.lt_or_ge p i with hpi | hpi
  ·have:=D.same (b:=base+j) (Nat.le_of_lt hpi) (Nat.le_of_lt hi) (fun k h1 h2 h3=>by omega) fun e h1 h2 h3=>eqB e h1 h2 (hnx e (by omega)) h3;rw [I.later p (Nat.le_refl _) j hjp hj,hb]at this;rcases this with h | h
   ·cases h
   obtain⟨x,hx⟩:=h.1;cases hx
  rw [I.later i hpi j hji hj]at hb;cases hb
 have hnf:∀k,kd k=.new→b≠base+k:=fun k h1 h2=>hfl ⟨k,h1,h2⟩;rcases Nat.lt_or_ge p i with hpi | hpi
 ·refine use (x:=(M p).t.get b) ?_ fun o2 h2=>I.obj _ _ _ h2 hL;rw [←hb];exact D.same (Nat.le_of_lt hpi) (Nat.le_of_lt hi) (fun k _ _ h3=>hnf k h3) fun e h1 h2 h3=>eqB e h1 h2 (Nat.lt_of_lt_of_le hbp (D.next_mono h1 (by omega))) h3
 have hbi:b<(M i).next:=by
  rcases Nat.lt_or_ge b (M i).next with h | h
  ·exact h
  rw [I.top i hpi b h]at hb;cases hb
 refine use (x:=(M p).t.get b) ?_ fun o2 h2=>I.obj _ _ _ h2 hL;rw [←hb];exact sym (D.same hpi I.ple (fun k _ _ h3=>hnf k h3) fun e h1 h2 h3=>eqA e h2 h1 (Nat.lt_of_lt_of_le hbi (D.next_mono h1 (by have:=I.ple;omega))) h3)
end
end
section
variable {P:Program}
def UD(n:Nat)(S:Array Bool): Nat:=(List.range n).countP fun i=>!(S.getD i false)
theorem RP{n:Nat}{S:Array Bool}{i:Nat}(hi:i<n)(hS:i<S.size)(h:S.getD i false=false): UD n (S.setIfInBounds i true)+1=UD n S:=by
 unfold UD;have:∀(l:List Nat),l.Nodup→(l.countP fun j=>!((S.setIfInBounds i true).getD j false))+(if i∈l then 1 else 0)=l.countP fun j=>!(S.getD j false):=by
  intro l;induction l with
  | nil=>intro _;rfl
  | cons x l ih=>
   intro hn;have hn':=List.nodup_cons.1 hn;have:=ih hn'.2;rw [List.countP_cons,List.countP_cons];by_cases e:x=i
   ·subst e;have h1:(S.setIfInBounds x true).getD x false=true:=(by rw [lD S x x hS,if_pos rfl]);rw [if_neg hn'.1]at this;simp only [h1,h,List.mem_cons,true_or,if_true];simpa using this
   have h1:(S.setIfInBounds i true).getD x false=S.getD x false:=(by rw [lD S i x hS,if_neg e]);have h2:(i∈x :: l)↔(i∈l):=(by simp [Ne.symm e]);rw [h1];simp only [h2];omega
 have:=this (List.range n) List.nodup_range;rw [if_pos (List.mem_range.2 hi)]at this;exact this
theorem QK{n:Nat}{S:Array Bool}(h:UD n S=0): ∀i,i<n→S.getD i false=true:=by intro i hi;unfold UD at h;rw [List.countP_eq_zero]at h;have:=h i (List.mem_range.2 hi);simpa using this
section
variable {self:jX} {ops:Array Oper} {base:Nat} {E:Nat→eX} {M:Nat→dJ} {kd:Nat→Kd} (D:DR P self ops base E M kd)
 {α0:AM} {w0:World} {ds:List Deferred}
include D
theorem Po(hz:jc P)(hn:uI P)(hself:nM P self)(hT:∀(i:Nat) (o:Oper),ops[i]?=some o→QY P o.op=true){m0:dJ}(h0:m0.t=(M 0).t)(hb:m0.next=base){Q:Exit→Act→World→Prop}
  (k:∀a1 w1,Pv P α0 m0 w0 ds (E ops.size) (M ops.size) a1 w1→Q .normal a1 w1) :
  ∀(fuel:Nat) (S:Array Bool) (a:Act) (w:World) (α:AM) (p:Nat),nZ P ops base E M kd α0 w0 ds S a w α p→UD ops.size S≤fuel→wpAny P .any ops Q fuel S a w:=by
 intro fuel;induction fuel with
 | zero=>
  intro S a w α p I hu;have hall:=QK (Nat.le_zero.1 hu);refine⟨?_,k a w (I.end D hall h0 hb)⟩;cases hr:Region.ready .any ops S with
  | nil=>rfl
  | cons i l=>
   have hm:i∈Region.ready .any ops S:=(by rw [hr];simp);rw [mem_ready]at hm;obtain⟨h1,o,ho,_⟩:=hm;have hi:=(Array.getElem?_eq_some_iff.1 ho).1;have:=hall i hi;have hiS:i<S.size:=(by rw [I.size];exact hi);simp [hiS]at h1 this;rw [h1]at this;cases this
 | succ fuel ih=>
  intro S a w α p I hu;refine⟨fun hr=>k a w (I.end D (I.all D hr) h0 hb),fun i hi=>?_⟩;rw [mem_ready]at hi;obtain⟨h1,o,ho,hrd⟩:=hi;have hin:=(Array.getElem?_eq_some_iff.1 ho).1;have hiS:i<S.size:=by rw [I.size];exact hin
  have hni:S.getD i false=false:=by simpa [hiS]using h1
  have hrd':∀e∈o.after.toList,Region.binds .any e=true→S.getD e.on false=true:=fun e he=>hrd e (by simpa using he);have hun:UD ops.size (S.setIfInBounds i true)≤fuel:=by have:=RP hin hiS hni;omega
  have hops:=I.operands D ho hni hrd';have hwant:=I.want D ho hni hrd';have hst:=D.step i o ho;unfold wpOp;rw [ho];simp only [];rw [←hwant];generalize hk:kd i=kk at hst;generalize hEE:E (i+1)=ee at hst;generalize hMM:M (i+1)=mm at hst;cases hst with
  | skip hw=>
   rw [hw];simp only [Bool.false_eq_true,if_false];exact ih _ _ _ _ p (I.quiet D ho hrd' (by rw [hk];intro h;cases h) (by rw [hk];intro h;cases h) hEE pq) hun
  | @quiet v hw hq=>
   rw [hw];simp only [if_true];refine .inl ?_;obtain⟨v',r1,r2⟩:=Fg hz hops (fun b ob L hf hb' hL=>by
    cases hft:foot (E i) o.op with
    | none=>rw [hft]at hf;cases hf
    | some c=>
     rw [hft]at hf hk;have:b=c:=Nat.eq_of_beq_eq_true hf;subst this;exact I.foot D ho hni hrd' hk hb' hL) (w:=w) (hT _ _ ho) hq
   unfold Oper.wp;rw [r2];exact ih _ _ _ _ p (I.quiet D ho hrd' (by rw [hk];intro h;cases h) (by rw [hk];intro h;cases h) hEE r1) hun
  | @new v ob hw hq=>
   rw [hw];simp only [if_true];refine .inl ?_;obtain⟨v',o',L,r1,r2,r3,r4,r5⟩:=Ku hz hops (I.gone i hk hni) (w:=w) (hT _ _ ho) hq;unfold Oper.wp;rw [r3];refine ih _ _ _ _ p (I.new D ho hni hrd' hk hEE ?_ r1 r2 r4 r5) hun;rw [hMM];dsimp only;rw [fA,if_pos rfl]
  | @eff v m' hw hq hle=>
   rw [hw];simp only [if_true];refine .inl ?_;have hip:i=p:=by
    rcases Nat.lt_trichotomy i p with h | h | h
    ·rw [I.p1 i h hk]at hni;cases hni
    ·exact h
    exfalso;have hp:kd p=.eff:=I.p2 (by omega);have hpath:=D.chain p i h hp hk;have before:∀{x y},pJ ops x y→x=i→S.getD y false=true:=by
     intro x y hh;induction hh with
     | one ho' he hbd=>
      rintro rfl;rw [ho]at ho';cases ho';exact hrd' _ he hbd
     | step h1 h2 ih1 ih2=>exact fun hx=>I.down.path h2 (ih1 hx)
    have:=before hpath rfl;rw [I.p3 p (Nat.le_refl _) hp]at this;cases this
   subst hip;refine BZ hz hn hself I.rel hops (hT _ _ ho) hq ?_;intro β w1 v1 v1' r1 r2 r3;obtain⟨p',I'⟩:=I.eff D ho hrd' (v:=v1) (by rw [hEE];exact r3) r2 (by rw [hMM];exact r1);exact ih _ _ _ _ p' I' hun
theorem nZ.start {m0 : dJ} (h0 : m0.t = (M 0).t) (hb : m0.next = base) (hr : lL P α0 m0 w0) {a : Act} (hE : qA α0 (E 0) a.tmps) :
    ∃ p, nZ P ops base E M kd α0 w0 a.defers (Array.replicate ops.size false) a w0 α0 p := by
  obtain ⟨p, q1, q2, q3, q4⟩ := Bv kd ops.size ops.size 0 (by omega)
  have hS : ∀ j, (Array.replicate ops.size false).getD j false = false := by
    intro j
    by_cases h : j < ops.size <;> simp [h]
  obtain ⟨f1, f2⟩ := D.floats (Nat.zero_le p) q2 fun k _ b => q3 k (Nat.zero_le _) b
  have hnw : ∀ {j}, kd j = .new → j < ops.size := fun {j} h => D.lt (by rw [h]; intro h; cases h)
  have none0 : ∀ {b}, base ≤ b → (M 0).t.get b = none := fun {b} h => by rw [← h0]; exact hr.top b (by omega)
  have old : ∀ {b}, b < base → (M p).t.get b = (M 0).t.get b := fun {b} h => f2 b fun k _ _ _ => by omega
  have hdom : ∀ {b L}, α0 b = some L → b < base := fun h => by have := (hr.dom _ _ h).1; omega
  have none1 : ∀ {b}, base ≤ b → α0 b = none := fun {b} h => by
    cases e : α0 b with
    | none => rfl
    | some L => have := hdom e; omega
  have pb : ∀ {b ob L}, ED base M kd (Array.replicate ops.size false) p b ob → α0 b = some L → m0.t.get b = some ob := by
    rintro b ob L (h | ⟨j, _, _, h, _⟩) hL
    · rw [h0, ← old (hdom hL)]; exact h
    · rw [hS] at h; cases h
  refine ⟨p,
    { size := by simp
      down := fun j q _ h => by simp only [hS] at h; cases h
      p1 := fun e he hk => absurd hk (q3 e (Nat.zero_le _) he)
      ple := q2
      p2 := q4
      p3 := fun e _ _ => hS e
      tsize := hE.1
      env := fun t ht => by
        have e : uX ops E (fun i => (Array.replicate ops.size false).getD i false) t = (E 0).get t := by
          unfold uX
          cases jF ops.toList t 0 with
          | none => rfl
          | some j => simp only [hS, cond_false]
        rw [e]
        exact hE.2 t ht
      defers := rfl
      dom := fun b L h => ⟨by have := hdom h; rw [f1, D.next0]; omega, (hr.dom _ _ h).2⟩
      obj := fun b ob L hb' hL => hr.obj b ob L (pb (.inl hb') hL) hL
      inj := fun b b' o o' L L' x1 x2 x3 y1 y2 y3 e => hr.inj b b' o o' L L' (pb x1 x3) x2 x3 (pb y1 y3) y2 y3 e
      top := fun i hi b hb' => by
        obtain ⟨g1, g2⟩ := D.floats (Nat.zero_le i) (by omega) fun k _ b => q3 k (Nat.zero_le _) (by omega)
        rw [g1, D.next0] at hb'
        rw [g2 b fun k _ _ c e => by have := hnw c; omega]
        exact none0 (by omega)
      fl := fun j _ _ h => by rw [hS] at h; cases h
      later := fun i hi j hij hj => by
        obtain ⟨g1, g2⟩ := D.floats (Nat.zero_le i) (by omega) fun k _ b => q3 k (Nat.zero_le _) (by omega)
        rw [g2 _ fun k _ _ c e => by omega]
        exact none0 (by omega)
      gone := fun j _ _ => none1 (by omega)
      ghost := fun j hj hk _ => (D.floats (i := j + 1) (j := p) (by omega) q2 fun k _ b => q3 k (Nat.zero_le _) b).2 _ fun k a b c => by omega
      le0 := .refl _
      old0 := fun _ _ => rfl
      os := rfl, tape := rfl, output := rfl
      size0 := Nat.le_refl _
      frame := fun _ _ _ => rfl
      rng := fun b ob L x1 x2 x3 => by
        have := pb x1 x3
        rw [h0] at this
        exact .inl ⟨b, ob, L, this, x2, x3, rfl⟩
      ghost0 := fun b hb' _ => old hb' }⟩
end
end
section
variable {P:Program} {α:AM}
theorem Pm{self:jX}{E E':eX}{o:Oper}{m m':dJ}(h:EL P self E o m=some (E',m')): ∃v,E'=E.put' o.dst v:=by
 unfold EL at h;cases ho:OZ P E o m with
 | none=>rw [ho]at h;cases h
 | some r=>
  obtain⟨nx,m2⟩:=r;rw [ho]at h;cases nx with
  | value v=>simp only [eX.put_eq,Option.some.injEq,Prod.mk.injEq]at h;exact⟨v,h.1.symm⟩
  | skip=>simp only [eX.put_eq,Option.some.injEq,Prod.mk.injEq]at h;exact⟨undef,h.1.symm⟩
  | enter f x=>
   simp only at h;cases hs:self f x m2 with
   | none=>rw [hs]at h;cases h
   | some q=>rw [hs]at h;simp only [eX.put_eq,Option.some.injEq,Prod.mk.injEq]at h;exact⟨q.1,h.1.symm⟩
  | _=>cases h
theorem Jy{self:jX}{ops:Array Oper}{o:Oper}{id:Nat}{E:eX}{m:dJ}{r:Row}(h:KF P self ops o id E m=some r):
  r.o=o∧r.E=E∧r.m=m∧Aa P self ops o id E m r.k r.E' r.m':=by
 unfold KF at h;cases hw:qF ops E o with
 | false=>
  rw [hw,cond_false,eX.put_eq]at h;cases h;exact⟨rfl,rfl,rfl,.skip hw⟩
 | true=>
  rw [hw,cond_true]at h;cases hq:Aj P E o m with
  | some v=>
   rw [hq]at h;simp only [eX.put_eq]at h;cases h;exact⟨rfl,rfl,rfl,.quiet hw hq⟩
  | none=>
   rw [hq]at h;simp only at h;cases hn:PG P E o id with
   | some q=>
    obtain⟨v,ob⟩:=q;rw [hn]at h;simp only [eX.put_eq,dJ.put_eq]at h;cases h;exact⟨rfl,rfl,rfl,.new hw hn⟩
   | none=>
    rw [hn]at h;simp only at h;cases he:EL P self E o m with
    | none=>rw [he]at h;cases h
    | some q=>
     obtain⟨E',m'⟩:=q;rw [he]at h;simp only at h;obtain⟨hle,h⟩:=dE h;cases h;obtain⟨v,hv⟩:=Pm he;subst hv;exact⟨rfl,rfl,rfl,.eff hw he (Nat.le_of_ble_eq_true hle)⟩
def fE(rs:List Row)(x:eX)(i:Nat): eX:=match rs[i]? with | some r=>r.E | none=>x
def fM(rs:List Row)(x:dJ)(i:Nat): dJ:=match rs[i]? with | some r=>r.m | none=>x
def fK(rs:List Row)(i:Nat): Kd:=match rs[i]? with | some r=>r.k | none=>.skip
theorem Dq{self:jX}{ops:Array Oper}: ∀(l:List Oper) (id:Nat) (E:eX) (m:dJ) (rs:List Row) (En:eX) (Mn:dJ),I8 P self ops l id E m=some (rs,En,Mn)→
  rs.length=l.length∧fE rs En 0=E∧fM rs Mn 0=m∧fE rs En l.length=En∧fM rs Mn l.length=Mn∧
  ∀i o,l[i]?=some o→Aa P self ops o (id+i) (fE rs En i) (fM rs Mn i) (fK rs i) (fE rs En (i+1)) (fM rs Mn (i+1))∧∃r,rs[i]?=some r∧r.o=o∧r.m=fM rs Mn i∧r.m'=fM rs Mn (i+1)
 | [],id,E,m,rs,En,Mn,h=>by simp only [I8,Option.some.injEq,Prod.mk.injEq]at h;obtain⟨rfl,rfl,rfl⟩:=h;exact⟨rfl,rfl,rfl,rfl,rfl,fun i o h=>by simp at h⟩
 | o :: rest,id,E,m,rs,En,Mn,h=>by
  unfold I8 at h;cases hd:KF P self ops o id E m with
  | none=>rw [hd]at h;cases h
  | some r=>
   rw [hd]at h;simp only at h;cases hr:I8 P self ops rest (id+1) r.E' r.m' with
   | none=>rw [hr]at h;cases h
   | some q=>
    obtain⟨rs',E',M'⟩:=q;rw [hr]at h;cases h;obtain⟨h1,h2,h3,h4⟩:=Jy hd;obtain⟨g1,g2,g3,g4,g5,g6⟩:=Dq rest (id+1) r.E' r.m' rs' _ _ hr;have s1:∀i,fE (r :: rs') En (i+1)=fE rs' En i:=fun i=>by simp [fE]
    have s2:∀i,fM (r :: rs') Mn (i+1)=fM rs' Mn i:=fun i=>by simp [fM]
    have s3:∀i,fK (r :: rs') (i+1)=fK rs' i:=fun i=>by simp [fK]
    have z1:fE (r :: rs') En 0=E:=(by simp [fE,h2]);have z2:fM (r :: rs') Mn 0=m:=(by simp [fM,h3]);refine⟨by simp [g1],z1,z2,by rw [List.length_cons,s1];exact g4,by rw [List.length_cons,s2];exact g5,fun i q hq=>?_⟩;cases i with
    | zero=>
     simp only [List.getElem?_cons_zero,Option.some.injEq]at hq;subst hq;rw [z1,z2,s1,s2,g2,g3];have hk:fK (r :: rs') 0=r.k:=(by simp [fK]);rw [hk];exact⟨h4,r,rfl,h1,h3,rfl⟩
    | succ i=>
     rw [s1,s2,s3,s1,s2];have:=g6 i q (by simpa using hq);rw [show id+(i+1)=id+1+i from by omega];simpa using this
theorem Ie{o:Oper}{acc:List Nat}{i:Nat}(h:(uM o acc).testBit i=true): ∃e∈o.after.toList,Region.binds .any e=true∧(e.on=i∨(acc.getD e.on 0).testBit i=true):=by
 unfold uM at h;have:∀(l:List Edge) (s:Nat),(l.foldl (fun s e=>bif Region.binds .any e then (s ||| 2 ^ e.on) ||| acc.getD e.on 0 else s) s).testBit i=true→
   s.testBit i=true∨∃e∈l,Region.binds .any e=true∧(e.on=i∨(acc.getD e.on 0).testBit i=true):=by
  intro l;induction l with
  | nil=>intro s h;exact .inl h
  | cons e l ih=>
   intro s h;rw [List.foldl_cons]at h;rcases ih _ h with h | ⟨e',h1,h2⟩
   ·cases hb:Region.binds .any e with
    | false=>rw [hb]at h;exact .inl h
    | true=>
     rw [hb,cond_true,Nat.testBit_or,Nat.testBit_or]at h;simp only [Bool.or_eq_true]at h;rcases h with (h | h) | h
     ·exact .inl h
     ·rw [Nat.testBit_two_pow]at h;exact .inr ⟨e,by simp,hb,.inl (by simpa using h)⟩
     exact .inr ⟨e,by simp,hb,.inr h⟩
   exact .inr ⟨e',by simp [h1],h2⟩
 rcases this o.after.toList 0 h with h | h
 ·simp at h
 exact h
def Good(ops:Array Oper)(acc:List Nat): Prop:=∀j i,(acc.getD j 0).testBit i=true→pJ ops j i
theorem C9{ops:Array Oper}: ∀(l:List Oper) (acc:List Nat),(∀j,l[j]?=ops[acc.length+j]?)→Good ops acc→Good ops (CO l acc)
 | [],acc,_,h=>h
 | o :: l,acc,hl,h=>by
  simp only [CO,dW];have ho:ops[acc.length]?=some o:=by simpa using (hl 0).symm
  refine C9 l _ (fun j=>?_) fun j i hj=>?_
  ·have:=hl (j+1);rw [List.length_append,List.length_singleton,show acc.length+1+j=acc.length+(j+1) from by omega];simpa using this
  by_cases e:j<acc.length
  ·have e1:(acc ++ [uM o acc]).getD j 0=acc.getD j 0:=(by simp [List.getD_eq_getElem?_getD,List.getElem?_append_left e]);rw [e1]at hj;exact h j i hj
  by_cases e2:j=acc.length
  ·subst e2;have e1:(acc ++ [uM o acc]).getD acc.length 0=uM o acc:=(by simp [List.getD_eq_getElem?_getD]);rw [e1]at hj;obtain⟨ed,h1,h2,h3⟩:=Ie hj;rcases h3 with rfl | h3
   ·exact .one ho h1 h2
   exact .step (.one ho h1 h2) (h _ _ h3)
  have e1:(acc ++ [uM o acc]).getD j 0=0:=by rw [List.getD_eq_getElem?_getD,List.getElem?_eq_none (by simp;omega)];rfl
  rw [e1]at hj;simp at hj
theorem Em{ops:Array Oper}{j i:Nat}(h:yY (CO ops.toList []) j i=true): pJ ops j i:=
 C9 ops.toList [] (fun j=>by simp) (fun j i h=>by simp at h) j i h
theorem qh{ops:Array Oper}: ∀(rs:List Row) (k:Nat) (last:Option Nat),tX (CO ops.toList []) rs k last=true→
  (∀j,fK rs j=.eff→∀e,last=some e→pJ ops (k+j) e)∧∀i j,i<j→fK rs i=.eff→fK rs j=.eff→pJ ops (k+j) (k+i)
 | [],_,_,_=>⟨fun j h=>by simp [fK]at h,fun i j _ h=>by simp [fK]at h⟩
 | r :: rs,k,last,h=>by
  have s3:∀i,fK (r :: rs) (i+1)=fK rs i:=fun i=>by simp [fK]
  have z3:fK (r :: rs) 0=r.k:=by simp [fK]
  unfold tX at h;have other:tX (CO ops.toList []) rs (k+1) last=true→r.k≠.eff→_:=fun h hne=>by
   obtain⟨h1,h2⟩:=qh rs (k+1) last h;refine (⟨fun j hj e he=>?_,fun i j hij hi hj=>?_⟩:(∀j,fK (r :: rs) j=.eff→∀e,last=some e→pJ ops (k+j) e)∧∀i j,i<j→fK (r :: rs) i=.eff→fK (r :: rs) j=.eff→pJ ops (k+j) (k+i))
   ·cases j with
    | zero=>rw [z3]at hj;exact absurd hj hne
    | succ j=>rw [s3]at hj;have:=h1 j hj e he;rwa [show k+(j+1)=k+1+j from by omega]
   cases i with
   | zero=>rw [z3]at hi;exact absurd hi hne
   | succ i=>cases j with
    | zero=>omega
    | succ j=>rw [s3]at hi hj;have:=h2 i j (by omega) hi hj;rwa [show k+(j+1)=k+1+j from by omega,show k+(i+1)=k+1+i from by omega]
  cases hk:r.k with
  | eff=>
   rw [hk]at h;simp only [Bool.and_eq_true]at h;obtain⟨h1,h2⟩:=qh rs (k+1) (some k) h.2;have hlast:∀e,last=some e→pJ ops k e:=(by intro e he;rw [he]at h;exact Em h.1);refine⟨fun j hj e he=>?_,fun i j hij hi hj=>?_⟩
   ·cases j with
    | zero=>exact hlast e he
    | succ j=>
     rw [s3]at hj;have:=h1 j hj k rfl;rw [show k+(j+1)=k+1+j from by omega];exact .step this (hlast e he)
   cases j with
   | zero=>omega
   | succ j=>
    rw [s3]at hj;rw [show k+(j+1)=k+1+j from by omega];cases i with
    | zero=>exact h1 j hj k rfl
    | succ i=>rw [s3]at hi;rw [show k+(i+1)=k+1+i from by omega];exact h2 i j (by omega) hi hj
  | skip=>rw [hk]at h;exact other h (by rw [hk];intro h;cases h)
  | quiet f=>rw [hk]at h;exact other h (by rw [hk];intro h;cases h)
  | new=>rw [hk]at h;exact other h (by rw [hk];intro h;cases h)
theorem vH{x y:Value}(h:Dy x y=true): x=y:=by
 unfold Dy at h;split at h <;> first | (cases h;done) | rfl | skip
 case h_3 a b=>
  have h1:a.data.toList=b.data.toList:=by simpa using h
  have:a=b:=by apply ByteArray.ext;exact Array.ext' h1
  rw [this]
 all_goals simp_all
theorem vG{c d:Tr Value}: ∀{n:Nat},tJ c d n=true→∀i,i<n→∃v,c.get i=some v∧d.get i=some v
 | 0,_,i,hi=>absurd hi (Nat.not_lt_zero _)
 | n+1,h,i,hi=>by
  unfold tJ at h;simp only [Bool.and_eq_true]at h;by_cases e:i=n
  ·subst e;have h1:=h.1;split at h1
   ·rename_i x y hx hy;rw [vH h1]at hx;exact⟨y,hx,hy⟩
   cases h1
  exact vG h.2 i (by omega)
theorem yK:∀{x y:List MapEntry},wI x y=true→x=y
 | [],[],_=>rfl
 | [],_ :: _,h=>by cases h
 | _ :: _,[],h=>by cases h
 | ⟨k,v,b⟩ :: x,⟨k',v',b'⟩ :: y,h=>by unfold wI at h;simp only [Bool.and_eq_true,Nat.beq_eq]at h;rw [vH h.1.1.1,vH h.1.1.2,h.1.2,yK h.2]
theorem MQ{a b:Option Ob}(h:Js a b=true): uh P a b:=by
 unfold Js at h;split at h
 ·rename_i c n e g d k e' g';simp only [Bool.and_eq_true,Nat.beq_eq,beq_iff_eq]at h;obtain⟨⟨rfl,rfl⟩,h⟩:=h;have hc:=vG h;refine⟨⟨_,rfl⟩,⟨_,rfl⟩,fun α L w=>?_⟩;constructor
  ·rintro⟨o,ho,hob⟩;cases ho;obtain⟨cc,e2,lo,hi,h1,h2,h3,h4,h5,h7⟩:=hob;refine⟨_,rfl,cc,e2,lo,hi,h1,h2,h3,h4,h5,fun i hi'=>?_⟩;obtain⟨v,v',r1,r2,r3⟩:=h7 i hi';obtain⟨u,s1,s2⟩:=hc i hi';rw [s1]at r1;cases r1;exact⟨_,v',s2,r2,r3⟩
  rintro⟨o,ho,hob⟩;cases ho;obtain⟨cc,e2,lo,hi,h1,h2,h3,h4,h5,h7⟩:=hob;refine⟨_,rfl,cc,e2,lo,hi,h1,h2,h3,h4,h5,fun i hi'=>?_⟩;obtain⟨v,v',r1,r2,r3⟩:=h7 i hi';obtain⟨u,s1,s2⟩:=hc i hi';rw [s2]at r1;cases r1;exact⟨_,v',s1,r2,r3⟩
 ·rename_i x c y d;simp only [Bool.and_eq_true,Nat.beq_eq]at h;obtain⟨rfl,h⟩:=h;have:x=y:=by have:=yK h;exact Array.ext' this
  subst this;exact⟨⟨_,rfl⟩,⟨_,rfl⟩,fun _ _ _=>Iff.rfl⟩
 cases h
theorem uo{ops:Array Oper}{i b:Nat}: ∀(rs:List Row) (k:Nat),qZ (CO ops.toList []) i b rs k=true→∀e r,rs[e]?=some r→r.k=.eff→k+e≠i→
  (i<k+e∧pJ ops (k+e) i)∨(k+e<i∧pJ ops i (k+e))∨r.m.next≤b∨uh P (r.m.t.get b) (r.m'.t.get b)
 | [],_,_,e,r,h,_,_=>by simp at h
 | q :: rs,k,h,e,r,hr,hk,hne=>by
  unfold qZ at h;simp only [Bool.and_eq_true]at h;cases e with
  | zero=>
   simp only [List.getElem?_cons_zero,Option.some.injEq]at hr;subst hr;have h1:=h.1;rw [hk]at h1;simp only [Bool.or_eq_true,Bool.and_eq_true,Nat.beq_eq,Nat.blt_eq,Nat.ble_eq]at h1;rcases h1 with (((h1 | h1) | h1) | h1) | h1
   ·omega
   ·exact .inl ⟨h1.1,Em h1.2⟩
   ·exact .inr (.inl ⟨h1.1,Em h1.2⟩)
   ·exact .inr (.inr (.inl h1))
   exact .inr (.inr (.inr (MQ h1)))
  | succ e=>
   have:=uo rs (k+1) h.2 e r (by simpa using hr) hk (by omega);rw [show k+(e+1)=k+1+e from by omega];exact this
theorem uj{ops:Array Oper}{all:List Row}: ∀(rs:List Row) (k:Nat),vw (CO ops.toList []) all rs k=true→∀i r b,rs[i]?=some r→r.k=.quiet (some b)→qZ (CO ops.toList []) (k+i) b all 0=true
 | [],_,_,i,r,b,h,_=>by simp at h
 | q :: rs,k,h,i,r,b,hr,hk=>by
  unfold vw at h;simp only [Bool.and_eq_true]at h;cases i with
  | zero=>
   simp only [List.getElem?_cons_zero,Option.some.injEq]at hr;subst hr;have h1:=h.1;rw [hk]at h1;exact h1
  | succ i=>
   have:=uj rs (k+1) h.2 i r b (by simpa using hr) hk;rw [show k+(i+1)=k+1+i from by omega];exact this
theorem ul{ops:List Oper}: ∀(l:List Oper) (k:Nat),qQ ops l k=true→∀i o,l[i]?=some o→uz ops o (k+i)=true
 | [],_,_,i,o,h=>by simp at h
 | q :: l,k,h,i,o,ho=>by
  unfold qQ at h;simp only [Bool.and_eq_true]at h;cases i with
  | zero=>simp only [List.getElem?_cons_zero,Option.some.injEq]at ho;subst ho;exact h.1
  | succ i=>
   have:=ul l (k+1) h.2 i o (by simpa using ho);rw [show k+(i+1)=k+1+i from by omega];exact this
theorem Ez (hz : jc P) (hn : uI P) (hm : P.follows .mixedOrders = true) {self : jX} (hself : nM P self) {id : Nat} {ops : Array Oper} (hT : (ops.toList.all fun o => QY P o.op) = true) (hst : qQ ops.toList ops.toList 0 = true) {E E1 : eX} {a : Act} {m m1 : dJ} {w : World}
    (hr : lL P α m w) (hE : qA α E a.tmps) (h : FH P self ops E m = some (E1, m1)) {Q : Exit → Act → World → Prop} (k : ∀ a1 w1, Pv P α m w a.defers E1 m1 a1 w1 → Q .normal a1 w1) :
    (Code.region id ops true).wp P Q a w := by
  unfold FH at h
  simp only [dW] at h
  cases hd : I8 P self ops ops.toList m.next E ⟨m.t, m.next + ops.toList.length⟩ with
  | none => rw [hd] at h; cases h
  | some q =>
    obtain ⟨rs, En, Mn⟩ := q
    rw [hd] at h
    simp only [lX] at h
    obtain ⟨hc, h⟩ := dE h
    cases h
    simp only [Bool.and_eq_true] at hc
    obtain ⟨g1, g2, g3, g4, g5, g6⟩ := Dq _ _ _ _ _ _ _ hd
    have hlen : ops.toList.length = ops.size := by simp
    rw [hlen] at g1 g4 g5
    have rowAt : ∀ {i}, fK rs i ≠ .skip → ∃ r o, rs[i]? = some r ∧ r.k = fK rs i ∧ ops[i]? = some o ∧ r.o = o ∧ r.m = fM rs m1 i ∧ r.m' = fM rs m1 (i + 1) := by
      intro i hi
      cases hri : rs[i]? with
      | none => rw [fK, hri] at hi; exact absurd rfl hi
      | some r =>
        have hlt : i < ops.size := by rw [← g1]; exact (List.getElem?_eq_some_iff.1 hri).1
        obtain ⟨o, ho⟩ := Jn hlt
        obtain ⟨_, r', h1, h2, h3, h4⟩ := g6 i o (by simpa using ho)
        rw [hri] at h1; cases h1
        exact ⟨r, o, rfl, by rw [fK, hri], ho, h2, h3, h4⟩
    have D : DR P self ops m.next (fE rs E1) (fM rs m1) (fK rs) :=
      { step := fun i o ho => (g6 i o (by simpa using ho)).1
        far := fun i hi => by rw [fK, List.getElem?_eq_none (by omega)]
        stat := fun i o ho => by have := ul ops.toList 0 hst i o (by simpa using ho); simpa using this
        chain := fun i j hij hi hj => by have := (qh rs 0 none hc.1).2 i j hij hi hj; simpa using this
        stable := fun i b hi e he hne => by
          obtain ⟨r, o, r1, r2, r3, r4, r5, r6⟩ := rowAt (i := i) (by rw [hi]; intro h; cases h)
          obtain ⟨q, o2, q1, q2, q3, q4, q5, q6⟩ := rowAt (i := e) (by rw [he]; intro h; cases h)
          have h1 := uj rs 0 hc.2 i r b r1 (by rw [r2, hi])
          have h2 := uo (P := P) rs 0 h1 e q q1 (by rw [q2, he]) (by omega)
          simp only [Nat.zero_add] at h2
          rw [q5, q6] at h2
          exact h2
        next0 := by rw [g3]; simp }
    refine wp_region_any hm ?_
    have hr' := ((nY.refl hr).drawn (w.drawn + 1)).rel
    have h0 : m.t = (fM rs m1 0).t := by rw [g3]
    obtain ⟨p, I⟩ := nZ.start D h0 rfl hr' (a := a) (by rw [g2]; exact hE)
    refine Po D hz hn hself (fun i o ho => List.all_eq_true.1 hT o (by rw [← Array.getElem?_toList] at ho; exact List.mem_of_getElem? ho)) h0 rfl (fun a1 w1 hdone => ?_) ops.size _ a _ α p I ?_
    · rw [g4, g5] at hdone
      obtain ⟨β, h1, h2, h3⟩ := hdone
      exact k a1 w1 ⟨β, ((nY.refl hr).drawn (w.drawn + 1)).trans h1, h2, h3⟩
    · unfold UD
      exact Nat.le_trans (List.countP_le_length) (by simp)
end
end Go.Den
