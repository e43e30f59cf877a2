import Derived.OrdersHeld
import Derived.RegionTactic
import Derived.StillTail
import Derived.Test.YtbpklgllihhgpaaGreatA14
set_option maxRecDepth 100000
set_option maxHeartbeats 16000000
namespace Go.Proofs.YtbpklgllihhgpaaGreat
open Tryz Go.RowKit Go.Den
section
section
variable {P:Program} {ops:Array Oper} {Q:Exit→Act→World→Prop} {md:Region.Mode} {S:World→Prop} {z:Nat}
def Ae(md:Region.Mode)(ops:Array Oper)(done:Array Bool): Bool:=
 (List.range ops.size).all fun j=>!done.getD j false || ((ops[j]?).map (·.after.all fun e=>!Region.binds md e || done.getD e.on false)).getD false
def oW(md:Region.Mode)(ops:Array Oper): Nat→Nat→Nat→Bool
 | 0,_,_=>false
 | n+1,j,i=>Region.waitsFor md ops j i || (List.range ops.size).any fun k=>Region.waitsFor md ops j k && oW md ops n k i
theorem OH{j i:Nat}(h:Region.waitsFor md ops j i=true): j<ops.size:=by obtain⟨oj,hj,_⟩:=Region.waitsFor_spec h;exact (ae.1 hj).1
def BU(md:Region.Mode)(ops:Array Oper)(done:Array Bool): Prop:=∀j i,done.getD j false=true→Region.waitsFor md ops j i=true→done.getD i false=true
theorem rQ{done:Array Bool}{j i:Nat}(hj:j∈Region.ready md ops done)(h:Region.waitsFor md ops j i=true): done.getD i false=true:=by obtain⟨_,oj,hoj,hall⟩:=mem_ready.1 hj;obtain⟨oj',hoj',e,he,hb,rfl⟩:=Region.waitsFor_spec h;rw [hoj]at hoj';cases hoj';exact hall e he hb
theorem uN{done:Array Bool}(hs:BU md ops done): ∀(n j i:Nat),oW md ops n j i=true→(∀k,Region.waitsFor md ops j k=true→done.getD k false=true)→done.getD i false=true
 | 0,_,_,h,_=>by cases h
 | n+1,j,i,h,hd=>by
  unfold oW at h;rw [Bool.or_eq_true]at h;rcases h with h | h
  ·exact hd i h
  obtain⟨k,_,hk⟩:=List.any_eq_true.1 h;rw [az]at hk;exact uN hs n k i hk.2 fun q hq=>hs k q (hd k hk.1) hq
theorem Eo{done:Array Bool}(h:Ae md ops done=true): BU md ops done:=by intro j i hd hw;have h1:=aZ.1 h j (aX.2 (OH hw));obtain⟨oj,hoj,e,he,hb,rfl⟩:=Region.waitsFor_spec hw;rw [hd,hoj]at h1;simp only [Bool.not_true,Bool.false_or,Option.map_some,Option.getD_some,Array.all_eq_true_iff_forall_mem]at h1;have h2:=h1 e he;rw [hb]at h2;simpa using h2
theorem BU.set{done:Array Bool}(hs:BU md ops done){j:Nat}(hj:j∈Region.ready md ops done): BU md ops (done.setIfInBounds j true):=by
 intro p i hp hw;by_cases hpj:j=p
 ·subst hpj;exact getD_set_true (rQ hj hw)
 rw [getD_set_ne false hpj]at hp;exact getD_set_true (hs p i hp hw)
def cu(P:Program)(md:Region.Mode)(ops:Array Oper)(Q:Exit→Act→World→Prop)(S:World→Prop)(z:Nat): Nat→Array Bool→Act→World→Prop
 | 0,done,a,w=>Region.ready md ops done=[]∧Q .normal a w
 | n+1,done,a,w=>(Region.ready md ops done=[]→Q .normal a w)∧
  ∀i∈Region.ready md ops done,wpOp P ops Q i (fun a' w'=>(i≠z→S w')∧cu P md ops Q S z n (done.setIfInBounds i true) a' w') a w
theorem cu.any:∀{n:Nat} {done:Array Bool} {a:Act} {w:World},cu P md ops Q S z n done a w→wpAny P md ops Q n done a w
 | 0,_,_,_,h=>h
 | _+1,_,_,_,h=>⟨h.1,fun i hi=>wpOp_mono (fun _ _ h'=>cu.any h'.2) (h.2 i hi)⟩
theorem ui{done:Array Bool}{i:Nat}(h:done.getD i true=false): done.getD i false=false:=by
 rcases Nat.lt_or_ge i done.size with h' | h'
 ·simp [h']at h ⊢;exact h
 simp [Array.getElem?_eq_none h']at h
theorem cu.first{i N:Nat}{oi:Oper}{v:Value}(hi:ops[i]?=some oi)(hsel:∀(j:Nat) (o:Oper) cs b,ops[j]?=some o→o.op≠.select cs b)(hQ:∀c a w,Q (.panic c) (a.put oi.dst v) w→Q (.panic c) a w)(hz:oW md ops N z i=true):
  ∀(n:Nat) (done:Array Bool) (a:Act) (w:World),(∀j oj,ops[j]?=some oj→j≠i→done.getD j true=false→(∀e∈oj.after,Region.binds md e=true→e.on≠i)→oi.apart ops oj=true)→
   BU md ops done→i∈Region.ready md ops done→YieldsIf P ops S oi v a→S w→cu P md ops Q S z n (done.setIfInBounds i true) (a.put oi.dst v) w→cu P md ops Q S z (n+1) done a w:=by
 intro n;induction n with
 | zero=>
  intro done a w _ _ hr hy hS H;refine⟨fun h=>absurd hr (by simp [h]),fun j hj=>?_⟩;by_cases hji:j=i
  ·subst hji;exact hy.wpOp hi hS ⟨fun _=>hS,H⟩
  have:=ready_mono hj hji;rw [H.1]at this;cases this
 | succ n ih=>
  intro done a w hfree hs hr hy hS H;refine⟨fun h=>absurd hr (by simp [h]),fun j hj=>?_⟩;by_cases hji:j=i
  ·subst hji;exact hy.wpOp hi hS ⟨fun _=>hS,H⟩
  obtain⟨hjun,oj,hoj,hall⟩:=mem_ready.1 hj;have hiun:=ui (mem_ready.1 hr).1;have hjz:j≠z:=by rintro rfl;have:=uN hs N j i hz fun k hk=>rQ hj hk;rw [hiun]at this;cases this
  have hnot:∀e∈oj.after,Region.binds md e=true→e.on≠i:=by intro e he hb heq;have h1:=hall e he hb;rw [heq,hiun]at h1;cases h1
  have h2:=wpOp_putIf hoj (hfree j oj hoj hji hjun hnot) (fun cs b=>hsel i oi cs b hi) (fun cs b=>hsel j oj cs b hoj) hQ hy (H.2 j (ready_mono hj hji));refine wpOp_mono (fun a' w' h3=>?_) h2;obtain⟨h3y,h3S,h3r⟩:=h3;refine⟨h3S,ih _ a' w' (fun k ok hk hki hun hno=>hfree k ok hk hki ?_ hno) (hs.set hj) (ready_mono hr (Ne.symm hji)) h3y (h3S hjz) ?_⟩
  ·by_cases hjk:j=k
   ·subst hjk;exact hjun
   rw [getD_set_ne true hjk]at hun;exact hun
  rw [Array.setIfInBounds_comm _ _ hji];exact h3r
theorem cu.take{i N:Nat}{oi:Oper}{d:Option Tmp}{v:Value}{n:Nat}{done:Array Bool}{a:Act}{w:World}(hi:ops[i]?=some oi)(hd:oi.dst=d)
  (hc:(Region.noSelect ops && Region.free md ops done i && (Region.ready md ops done).contains i && Ae md ops done && oW md ops N z i)=true)
  (hQ:∀c a w,Q (.panic c) (a.put d v) w→Q (.panic c) a w) (hg:Region.wanted oi (yielded ops a.tmps)=true) (hy:∀w,S w→(execOp a.eval oi).run P w=.ok (.value v) w) (hS:S w)
  (h:cu P md ops Q S z n (done.setIfInBounds i true) (a.put d v) w):cu P md ops Q S z (n+1) done a w:=by
 subst hd;simp only [az]at hc;obtain⟨⟨⟨⟨h1,h2⟩,h3⟩,h4⟩,h5⟩:=hc;exact cu.first hi (Region.noSelect_spec h1) hQ h5 n done a w (Region.free_spec hi h2) (Eo h4) (by simpa using h3) (.inl ⟨hg,hy⟩) hS h
theorem cu.one{i:Nat}{oi:Oper}{n:Nat}{done:Array Bool}{a:Act}{w:World}(hi:ops[i]?=some oi)(hr:(Region.ready md ops done == [i])=true)(hg:Region.wanted oi (yielded ops a.tmps)=true)
  (h:∀K:Act→World→Prop,(∀a' w',(i≠z→S w')→cu P md ops Q S z n (done.setIfInBounds i true) a' w'→K a' w')→Oper.wp P oi a w K Q):cu P md ops Q S z (n+1) done a w:=by
 have hr':Region.ready md ops done=[i]:=by simpa using hr
 refine⟨fun h0=>(by rw [hr']at h0;cases h0),fun j hj=>?_⟩;rw [hr',aN]at hj;subst hj;refine wpOp_step hi fun K hK=>?_;rw [aG hg];exact h K fun a' w' hS hA=>hK a' w' ⟨hS,hA⟩
theorem cu.done{n:Nat}{done:Array Bool}{a:Act}{w:World}(hr:(Region.ready md ops done == [])=true)(h:Q .normal a w): cu P md ops Q S z n done a w:=by
 have hr':Region.ready md ops done=[]:=by simpa using hr
 cases n with
 | zero=>exact⟨hr',h⟩
 | succ n=>exact⟨fun _=>h,by rw [hr'];simp⟩
theorem cu.start(S:World→Prop)(z:Nat){id:Nat}{a:Act}{w:World}(hm:P.follows .mixedOrders=true)
  (h:cu P .any ops Q S z ops.size (Array.replicate ops.size false) a w.drew):(Code.region id ops true).wp P Q a w:=
 wp_region_any hm h.any
theorem tk(i:Nat)(v:Value){d:Tmp}{oi:Oper}{n:Nat}{done:Array Bool}{a:Act}{w:World}(h:cu P md ops Q S z n (done.setIfInBounds i true) (a.put (some d) v) w)(hi:ops[i]?=some oi:=by rfl)(hd:oi.dst=some d:=by rfl)
  (hc:(Region.noSelect ops && Region.free md ops done i && (Region.ready md ops done).contains i && Ae md ops done && oW md ops 99 z i)=true:=by kernel_rfl)
  (hQ:∀c a w,Q (.panic c) (a.put (some d) v) w→Q (.panic c) a w:=by exact fun _ _ _ h=>h) (hg:Region.wanted oi (yielded ops a.tmps)=true:=by rfl) (hy:∀w,S w→(execOp a.eval oi).run P w=.ok (.value v) w:=by intro w' hw;go_simp) (hS:S w:=by assumption):cu P md ops Q S z (n+1) done a w:=
 cu.take hi hd hc hQ hg hy hS h
theorem sN{X:World}(z:Nat){id:Nat}{a:Act}{w:World}(h0:bH [] X w)(h:∀V,bH [] X V→cu P .any ops Q (fun w'=>bH [] X w') z ops.size (Array.replicate ops.size false) a V)(hm:P.follows .mixedOrders=true:=by kernel_rfl): (Code.region id ops true).wp P Q a w:=cu.start _ z hm (h _ (h0.drawn 1))
theorem eH(i:Nat){oi:Oper}{n:Nat}{done:Array Bool}{a:Act}{w:World}
 (h:∀K:Act→World→Prop,(∀a' w',(i≠z→S w')→cu P md ops Q S z n (done.setIfInBounds i true) a' w'→K a' w')→Oper.wp P oi a w K Q) (hi:ops[i]?=some oi:=by rfl) (hr:(Region.ready md ops done == [i])=true:=by kernel_rfl) (hg:Region.wanted oi (yielded ops a.tmps)=true:=by rfl):cu P md ops Q S z (n+1) done a w:=cu.one hi hr hg h
theorem iZ{oi:Oper}{n:Nat}{done:Array Bool}{a:Act}{w:World}(h:∀K:Act→World→Prop,(∀a' w',Q .normal a' w'→K a' w')→Oper.wp P oi a w K Q)(hi:ops[z]?=some oi:=by rfl)(hr:(Region.ready md ops done == [z])=true:=by kernel_rfl)(hg:Region.wanted oi (yielded ops a.tmps)=true:=by rfl)(he:(Region.ready md ops (done.setIfInBounds z true) == [])=true:=by kernel_rfl): cu P md ops Q S z (n+1) done a w:=cu.one hi hr hg fun K hK=>h K fun a' w' hq=>hK a' w' (fun e=>absurd rfl e) (cu.done he hq)
theorem Wy{n:Nat}{done:Array Bool}{a:Act}{w:World}(h:Q .normal a w)(hr:(Region.ready md ops done == [])=true:=by kernel_rfl): cu P md ops Q S z n done a w:=cu.done hr h
end
end
section
section
variable {P:Program} {ops:Array Oper} {Q:Exit→Act→World→Prop} {md:Region.Mode} {S:World→Prop} {z:Nat}
theorem cu.skip{i N:Nat}{oi:Oper}{d:Option Tmp}{n:Nat}{done:Array Bool}{a:Act}{w:World}(hi:ops[i]?=some oi)(hd:oi.dst=d)
  (hc:(Region.noSelect ops && Region.free md ops done i && (Region.ready md ops done).contains i && Ae md ops done && oW md ops N z i)=true)
  (hQ:∀c a w,Q (.panic c) (a.put d undef) w→Q (.panic c) a w) (hg:Region.wanted oi (yielded ops a.tmps)=false) (hS:S w)
  (h:cu P md ops Q S z n (done.setIfInBounds i true) (a.put d undef) w):cu P md ops Q S z (n+1) done a w:=by
 subst hd;simp only [az]at hc;obtain⟨⟨⟨⟨h1,h2⟩,h3⟩,h4⟩,h5⟩:=hc;exact cu.first hi (Region.noSelect_spec h1) hQ h5 n done a w (Region.free_spec hi h2) (Eo h4) (by simpa using h3) (.inr ⟨hg,rfl⟩) hS h
theorem je(i:Nat){d:Tmp}{oi:Oper}{n:Nat}{done:Array Bool}{a:Act}{w:World}(h:cu P md ops Q S z n (done.setIfInBounds i true) (a.put (some d) undef) w)(hi:ops[i]?=some oi:=by rfl)(hd:oi.dst=some d:=by rfl)
 (hc:(Region.noSelect ops && Region.free md ops done i && (Region.ready md ops done).contains i && Ae md ops done && oW md ops 99 z i)=true:=by kernel_rfl)
 (hQ:∀c a w,Q (.panic c) (a.put (some d) undef) w→Q (.panic c) a w:=by exact fun _ _ _ h=>h) (hg:Region.wanted oi (yielded ops a.tmps)=false:=by rfl) (hS:S w:=by assumption):cu P md ops Q S z (n+1) done a w:=cu.skip hi hd hc hQ hg hS h
end
end
end Go.Proofs.YtbpklgllihhgpaaGreat
