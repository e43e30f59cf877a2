import Derived.OrdersHeld
import Derived.RegionTactic
import Derived.StillTail
import Derived.Test.YtbpklgllihhgpaaGreatR14
set_option maxRecDepth 100000
set_option maxHeartbeats 16000000
namespace Go.Proofs.YtbpklgllihhgpaaGreat
open Tryz Go.RowKit Go.Den
section
section
variable {P:Program} {ops:Array Oper} {Q:Exit→Act→World→Prop} {md:Region.Mode} {S:World→Prop} {z:Nat}
def shutB(md:Region.Mode)(ops:Array Oper)(done:Array Bool): Bool:=
 (List.range ops.size).all fun j=>!done.getD j false || ((ops[j]?).map (·.after.all fun e=>!Region.binds md e || done.getD e.on false)).getD false
def reachB(md:Region.Mode)(ops:Array Oper): Nat→Nat→Nat→Bool
 | 0,_,_=>false
 | n+1,j,i=>Region.waitsFor md ops j i || (List.range ops.size).any fun k=>Region.waitsFor md ops j k && reachB md ops n k i
theorem waits_lt{j i:Nat}(h:Region.waitsFor md ops j i=true): j<ops.size:=by obtain⟨oj,hj,_⟩:=Region.waitsFor_spec h;exact (Array.getElem?_eq_some_iff.1 hj).1
def ShutS(md:Region.Mode)(ops:Array Oper)(done:Array Bool): Prop:=∀j i,done.getD j false=true→Region.waitsFor md ops j i=true→done.getD i false=true
theorem ready_waits{done:Array Bool}{j i:Nat}(hj:j∈Region.ready md ops done)(h:Region.waitsFor md ops j i=true): done.getD i false=true:=by obtain⟨_,oj,hoj,hall⟩:=mem_ready.1 hj;obtain⟨oj',hoj',e,he,hb,rfl⟩:=Region.waitsFor_spec h;rw [hoj]at hoj';cases hoj';exact hall e he hb
theorem reach_done{done:Array Bool}(hs:ShutS md ops done): ∀(n j i:Nat),reachB md ops n j i=true→(∀k,Region.waitsFor md ops j k=true→done.getD k false=true)→done.getD i false=true
 | 0,_,_,h,_=>by cases h
 | n+1,j,i,h,hd=>by
  unfold reachB at h;rw [Bool.or_eq_true]at h;rcases h with h | h
  ·exact hd i h
  obtain⟨k,_,hk⟩:=List.any_eq_true.1 h;rw [Bool.and_eq_true]at hk;exact reach_done hs n k i hk.2 fun q hq=>hs k q (hd k hk.1) hq
theorem shut_of{done:Array Bool}(h:shutB md ops done=true): ShutS md ops done:=by intro j i hd hw;have h1:=List.all_eq_true.1 h j (List.mem_range.2 (waits_lt hw));obtain⟨oj,hoj,e,he,hb,rfl⟩:=Region.waitsFor_spec hw;rw [hd,hoj]at h1;simp only [Bool.not_true,Bool.false_or,Option.map_some,Option.getD_some,Array.all_eq_true_iff_forall_mem]at h1;have h2:=h1 e he;rw [hb]at h2;simpa using h2
theorem ShutS.set{done:Array Bool}(hs:ShutS md ops done){j:Nat}(hj:j∈Region.ready md ops done): ShutS md ops (done.setIfInBounds j true):=by
 intro p i hp hw;by_cases hpj:j=p
 ·subst hpj;exact getD_set_true (ready_waits hj hw)
 rw [getD_set_ne false hpj]at hp;exact getD_set_true (hs p i hp hw)
def AnyTill(P:Program)(md:Region.Mode)(ops:Array Oper)(Q:Exit→Act→World→Prop)(S:World→Prop)(z:Nat): Nat→Array Bool→Act→World→Prop
 | 0,done,a,w=>Region.ready md ops done=[]∧Q .normal a w
 | n+1,done,a,w=>(Region.ready md ops done=[]→Q .normal a w)∧
  ∀i∈Region.ready md ops done,wpOp P ops Q i (fun a' w'=>(i≠z→S w')∧AnyTill P md ops Q S z n (done.setIfInBounds i true) a' w') a w
theorem AnyTill.any:∀{n:Nat} {done:Array Bool} {a:Act} {w:World},AnyTill P md ops Q S z n done a w→wpAny P md ops Q n done a w
 | 0,_,_,_,h=>h
 | _+1,_,_,_,h=>⟨h.1,fun i hi=>wpOp_mono (fun _ _ h'=>AnyTill.any h'.2) (h.2 i hi)⟩
theorem set_true_self{done:Array Bool}{i:Nat}(h:done.getD i true=false): done.getD i false=false:=by
 rcases Nat.lt_or_ge i done.size with h' | h'
 ·simp [h']at h ⊢;exact h
 simp [Array.getElem?_eq_none h']at h
theorem AnyTill.first{i N:Nat}{oi:Oper}{v:Value}(hi:ops[i]?=some oi)(hsel:∀(j:Nat) (o:Oper) cs b,ops[j]?=some o→o.op≠.select cs b)(hQ:∀c a w,Q (.panic c) (a.put oi.dst v) w→Q (.panic c) a w)(hz:reachB md ops N z i=true):
  ∀(n:Nat) (done:Array Bool) (a:Act) (w:World),(∀j oj,ops[j]?=some oj→j≠i→done.getD j true=false→(∀e∈oj.after,Region.binds md e=true→e.on≠i)→oi.apart ops oj=true)→
   ShutS md ops done→i∈Region.ready md ops done→YieldsIf P ops S oi v a→S w→AnyTill P md ops Q S z n (done.setIfInBounds i true) (a.put oi.dst v) w→AnyTill P md ops Q S z (n+1) done a w:=by
 intro n;induction n with
 | zero=>
  intro done a w _ _ hr hy hS H;refine⟨fun h=>absurd hr (by simp [h]),fun j hj=>?_⟩;by_cases hji:j=i
  ·subst hji;exact hy.wpOp hi hS ⟨fun _=>hS,H⟩
  have:=ready_mono hj hji;rw [H.1]at this;cases this
 | succ n ih=>
  intro done a w hfree hs hr hy hS H;refine⟨fun h=>absurd hr (by simp [h]),fun j hj=>?_⟩;by_cases hji:j=i
  ·subst hji;exact hy.wpOp hi hS ⟨fun _=>hS,H⟩
  obtain⟨hjun,oj,hoj,hall⟩:=mem_ready.1 hj;have hiun:=set_true_self (mem_ready.1 hr).1;have hjz:j≠z:=by rintro rfl;have:=reach_done hs N j i hz fun k hk=>ready_waits hj hk;rw [hiun]at this;cases this
  have hnot:∀e∈oj.after,Region.binds md e=true→e.on≠i:=by intro e he hb heq;have h1:=hall e he hb;rw [heq,hiun]at h1;cases h1
  have h2:=wpOp_putIf hoj (hfree j oj hoj hji hjun hnot) (fun cs b=>hsel i oi cs b hi) (fun cs b=>hsel j oj cs b hoj) hQ hy (H.2 j (ready_mono hj hji));refine wpOp_mono (fun a' w' h3=>?_) h2;obtain⟨h3y,h3S,h3r⟩:=h3;refine⟨h3S,ih _ a' w' (fun k ok hk hki hun hno=>hfree k ok hk hki ?_ hno) (hs.set hj) (ready_mono hr (Ne.symm hji)) h3y (h3S hjz) ?_⟩
  ·by_cases hjk:j=k
   ·subst hjk;exact hjun
   rw [getD_set_ne true hjk]at hun;exact hun
  rw [Array.setIfInBounds_comm _ _ hji];exact h3r
theorem AnyTill.take{i N:Nat}{oi:Oper}{d:Option Tmp}{v:Value}{n:Nat}{done:Array Bool}{a:Act}{w:World}(hi:ops[i]?=some oi)(hd:oi.dst=d)
  (hc:(Region.noSelect ops && Region.free md ops done i && (Region.ready md ops done).contains i && shutB md ops done && reachB md ops N z i)=true)
  (hQ:∀c a w,Q (.panic c) (a.put d v) w→Q (.panic c) a w) (hg:Region.wanted oi (yielded ops a.tmps)=true) (hy:∀w,S w→(execOp a.eval oi).run P w=.ok (.value v) w) (hS:S w)
  (h:AnyTill P md ops Q S z n (done.setIfInBounds i true) (a.put d v) w):AnyTill P md ops Q S z (n+1) done a w:=by
 subst hd;simp only [Bool.and_eq_true]at hc;obtain⟨⟨⟨⟨h1,h2⟩,h3⟩,h4⟩,h5⟩:=hc;exact AnyTill.first hi (Region.noSelect_spec h1) hQ h5 n done a w (Region.free_spec hi h2) (shut_of h4) (by simpa using h3) (.inl ⟨hg,hy⟩) hS h
theorem AnyTill.one{i:Nat}{oi:Oper}{n:Nat}{done:Array Bool}{a:Act}{w:World}(hi:ops[i]?=some oi)(hr:(Region.ready md ops done == [i])=true)(hg:Region.wanted oi (yielded ops a.tmps)=true)
  (h:∀K:Act→World→Prop,(∀a' w',(i≠z→S w')→AnyTill P md ops Q S z n (done.setIfInBounds i true) a' w'→K a' w')→Oper.wp P oi a w K Q):AnyTill P md ops Q S z (n+1) done a w:=by
 have hr':Region.ready md ops done=[i]:=by simpa using hr
 refine⟨fun h0=>(by rw [hr']at h0;cases h0),fun j hj=>?_⟩;rw [hr',List.mem_singleton]at hj;subst hj;refine wpOp_step hi fun K hK=>?_;rw [if_pos hg];exact h K fun a' w' hS hA=>hK a' w' ⟨hS,hA⟩
theorem AnyTill.done{n:Nat}{done:Array Bool}{a:Act}{w:World}(hr:(Region.ready md ops done == [])=true)(h:Q .normal a w): AnyTill P md ops Q S z n done a w:=by
 have hr':Region.ready md ops done=[]:=by simpa using hr
 cases n with
 | zero=>exact⟨hr',h⟩
 | succ n=>exact⟨fun _=>h,by rw [hr'];simp⟩
theorem AnyTill.start(S:World→Prop)(z:Nat){id:Nat}{a:Act}{w:World}(hm:P.follows .mixedOrders=true)
  (h:AnyTill P .any ops Q S z ops.size (Array.replicate ops.size false) a w.drew):(Code.region id ops true).wp P Q a w:=
 wp_region_any hm h.any
theorem tk(i N:Nat)(d:Tmp)(v:Value){oi:Oper}{n:Nat}{done:Array Bool}{a:Act}{w:World}(hS:S w)(h:AnyTill P md ops Q S z n (done.setIfInBounds i true) (a.put (some d) v) w)(hi:ops[i]?=some oi:=by rfl)(hd:oi.dst=some d:=by rfl)
  (hc:(Region.noSelect ops && Region.free md ops done i && (Region.ready md ops done).contains i && shutB md ops done && reachB md ops N z i)=true:=by kernel_rfl)
  (hQ:∀c a w,Q (.panic c) (a.put (some d) v) w→Q (.panic c) a w:=by exact fun _ _ _ h=>h) (hg:Region.wanted oi (yielded ops a.tmps)=true:=by rfl) (hy:∀w,S w→(execOp a.eval oi).run P w=.ok (.value v) w:=by intro w' hw;go_simp):AnyTill P md ops Q S z (n+1) done a w:=
 AnyTill.take hi hd hc hQ hg hy hS h
theorem tk1(i:Nat){oi:Oper}{n:Nat}{done:Array Bool}{a:Act}{w:World}
 (h:∀K:Act→World→Prop,(∀a' w',(i≠z→S w')→AnyTill P md ops Q S z n (done.setIfInBounds i true) a' w'→K a' w')→Oper.wp P oi a w K Q) (hi:ops[i]?=some oi:=by rfl) (hr:(Region.ready md ops done == [i])=true:=by kernel_rfl) (hg:Region.wanted oi (yielded ops a.tmps)=true:=by rfl):AnyTill P md ops Q S z (n+1) done a w:=AnyTill.one hi hr hg h
theorem tkd{n:Nat}{done:Array Bool}{a:Act}{w:World}(h:Q .normal a w)(hr:(Region.ready md ops done == [])=true:=by kernel_rfl): AnyTill P md ops Q S z n done a w:=AnyTill.done hr h
end
end
section
section
variable {P:Program} {ops:Array Oper} {Q:Exit→Act→World→Prop} {md:Region.Mode} {S:World→Prop} {z:Nat}
theorem AnyTill.skip{i N:Nat}{oi:Oper}{d:Option Tmp}{n:Nat}{done:Array Bool}{a:Act}{w:World}(hi:ops[i]?=some oi)(hd:oi.dst=d)
  (hc:(Region.noSelect ops && Region.free md ops done i && (Region.ready md ops done).contains i && shutB md ops done && reachB md ops N z i)=true)
  (hQ:∀c a w,Q (.panic c) (a.put d undef) w→Q (.panic c) a w) (hg:Region.wanted oi (yielded ops a.tmps)=false) (hS:S w)
  (h:AnyTill P md ops Q S z n (done.setIfInBounds i true) (a.put d undef) w):AnyTill P md ops Q S z (n+1) done a w:=by
 subst hd;simp only [Bool.and_eq_true]at hc;obtain⟨⟨⟨⟨h1,h2⟩,h3⟩,h4⟩,h5⟩:=hc;exact AnyTill.first hi (Region.noSelect_spec h1) hQ h5 n done a w (Region.free_spec hi h2) (shut_of h4) (by simpa using h3) (.inr ⟨hg,rfl⟩) hS h
theorem tks(i N:Nat)(d:Tmp){oi:Oper}{n:Nat}{done:Array Bool}{a:Act}{w:World}(hS:S w)(h:AnyTill P md ops Q S z n (done.setIfInBounds i true) (a.put (some d) undef) w)(hi:ops[i]?=some oi:=by rfl)(hd:oi.dst=some d:=by rfl)
 (hc:(Region.noSelect ops && Region.free md ops done i && (Region.ready md ops done).contains i && shutB md ops done && reachB md ops N z i)=true:=by kernel_rfl)
 (hQ:∀c a w,Q (.panic c) (a.put (some d) undef) w→Q (.panic c) a w:=by exact fun _ _ _ h=>h) (hg:Region.wanted oi (yielded ops a.tmps)=false:=by rfl):AnyTill P md ops Q S z (n+1) done a w:=AnyTill.skip hi hd hc hQ hg hS h
end
end
end Go.Proofs.YtbpklgllihhgpaaGreat
