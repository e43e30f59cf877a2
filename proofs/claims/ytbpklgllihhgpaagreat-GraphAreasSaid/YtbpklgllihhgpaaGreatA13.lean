import Derived.Below
import Derived.ChangeSame
import Derived.ChangeBook
import Derived.ChangeBears
import Derived.ChangeStays
import Derived.OpenShut
import Derived.StillTailTactics
import Derived.Test.YtbpklgllihhgpaaGreatA08
import Derived.Test.YtbpklgllihhgpaaGreatA10
set_option maxRecDepth 100000
set_option maxHeartbeats 16000000
namespace Go.Proofs.YtbpklgllihhgpaaGreat
section
open Go.RowKit Go.WideShapes Go.ChangeShapes Go.Den
variable {H:Type} {enc:TypeId×Value→H} {P:Program}
theorem Ei{f:Func}{s:ChangeSpec}{apart fresh handsOn again:Bool}{W W':World}{args:Array Value}{v:Value}{ds gs:List (DataW H)}{before pa pv:List MemPlace}
  (hW:DataW.Whole enc P f.params.toList s.vars apart W args.toList ds gs before)
  (hres:∀(b:Nat) (sp:Nat→Bool) (hd:Bool),DataW.TrodAll enc P W' b sp hd f.resultTypes.toList (v.resultList f.resultTypes.size) (s.fn H (ds ++ gs)).results [])
  (hargs:∀sp:Nat→Bool,(∀p∈before,sp p.block=true)→DataW.TrodAll enc P W' 0 sp true f.params.toList args.toList (s.fn H (ds ++ gs)).args pa)
  (hvars:∀sp:Nat→Bool,(∀p∈before,sp p.block=true)→DataW.TrodVars enc P W' sp s.vars (s.fn H (ds ++ gs)).vars pv)
  (hsplit:before=pa ++ pv) (he:mQ W W')
  (hok:∀(j:Nat) (t:TypeId) (r:Value),f.resultTypes[j]?=some t→(v.resultList f.resultTypes.size)[j]?=some r→Value.okWide P W' .any 0 t r) :
  s.post enc P f apart fresh handsOn again W args v W':=by
 have hbelow:Below W.heap.size W W':=⟨he.os,he.tape,he.output,he.size,he.old⟩;have hin:∀p∈before,p.block<W.heap.size:=fun p hp=>hW.lt p hp;have hold:∀p∈before,decide (p.block<W.heap.size)=true:=fun p hp=>decide_eq_true (hin p hp);have hfr:∀b off,MemPlace.cell b off∈pa ++ pv→W'.frozen? ⟨b,off,none⟩=W.frozen? ⟨b,off,none⟩:=fun b off hp=>hbelow.frozen (show b<W.heap.size from hin (MemPlace.cell b off) (hsplit ▸ hp));refine⟨ds,gs,before,[],pa,pv,hW,hres _ _ _,hargs (fun b=>decide (b<W.heap.size)) hold,hvars (fun b=>decide (b<W.heap.size)) hold,?_,fun _=>?_⟩
 ·refine World.keptBut_mono (fun p hp=>⟨hp,?_⟩) (hbelow.frame (·∈before));rw [hsplit,List.mem_append]at hp;exact .inr hp
 obtain⟨_,_,_,_,_,hz,hn⟩:=hW;refine⟨hok,_,_,([] ++ pa) ++ pv,⟨[] ++ pa,pv,trodAll_append (hargs _ (fun _ _=>rfl)) (hres _ _ _),hvars _ (fun _ _=>rfl),rfl,fun b off hp=>?_,fun ha=>?_⟩,fun p hp _=>?_⟩
 ·have hp':MemPlace.cell b off∈pa ++ pv:=by simpa using hp
  rw [hfr b off hp'];exact hz b off (hsplit ▸ hp')
 ·have h:=hn ha;rw [hsplit]at h;simpa using h
 rw [hsplit];simpa using hp
end
section
open Go.RowKit Go.WideShapes Go.ChangeShapes Go.Den
variable {H:Type} {enc:TypeId×Value→H} {P:Program}
theorem DC{W W':World}(hl:laidOutB P=true)(he:mQ W W'){sp:Nat→Bool}: ∀{ts:List TypeId} {vs:List Value} {ds:List (DataW H)} {p:List MemPlace},(∀t∈ts,P.readableRec t=true∧t<P.types.size)→DataW.TrodAll enc P W 0 (fun _=>true) true ts vs ds p→
  (∀q∈p,q.block<W.heap.size)→(∀q∈p,sp q.block=true)→DataW.TrodAll enc P W' 0 sp true ts vs ds p
 | [],vs,ds,p,_,h,_,_=>by obtain⟨rfl,rfl,rfl⟩:=trodAll_nil h;exact trodAll_mk0
 | t :: ts,vs,ds,p,hr,h,hlt,hsp=>by
  obtain⟨v,vs',d,ds',p1,q1,rfl,rfl,rfl,h0,r0⟩:=trodAll_cons h;obtain⟨fuel,h0⟩:=h0;obtain⟨hrt,hrow⟩:=hr t (by simp);refine trodAll_cons_mk ⟨fuel,DataW.trod_stays (kids_book hl hrt) (book_sized hrt) (fun h=>by cases h) ⟨hrow,book_self t⟩ h0 (fun q hq=>?_) (fun q hq=>hsp q (by simp at hq ⊢;exact .inl hq))⟩ (DC hl he (fun t ht=>hr t (by simp [ht])) r0 (fun q hq=>hlt q (by simp [hq])) fun q hq=>hsp q (by simp [hq]));have hb:=hlt q (by simp at hq ⊢;exact .inl hq);cases q with
  | cell b off=>simp only [World.sameAt,World.cell?];rw [he.old b hb]
  | map b=>exact he.old b hb
theorem OY{f:Func}{s:ChangeSpec}{apart fresh handsOn again:Bool}{W W':World}{args:Array Value}{ds gs:List (DataW H)}{before:List MemPlace}(hl:laidOutB P=true)(hr:∀t∈f.params.toList,P.readableRec t=true∧t<P.types.size){tb:TypeId}(hb:P.underlying tb=some .bool)(hres:f.resultTypes=#[tb])
  (hW:DataW.Whole enc P f.params.toList s.vars apart W args.toList ds gs before) (hv:s.vars=[]) (he:mQ W W') (hf:(s.fn H (ds ++ gs)).results=[.lit (.bool true)]) (hfa:(s.fn H (ds ++ gs)).args=ds) (hfv:(s.fn H (ds ++ gs)).vars=[]) :
  s.post enc P f apart fresh handsOn again W args (.bool true) W':=by
 have hW':=hW;obtain⟨p,q,hA,hV,rfl,hz,hn⟩:=hW;have hq:gs=[]∧q=[]:=by rw [hv]at hV;exact trodVars_none hV
 obtain⟨rfl,rfl⟩:=hq;have hin:∀x∈p ++ [],x.block<W.heap.size:=fun x hx=>hW'.lt x hx;refine Ei (pa:=p) (pv:=[]) hW' (fun _ _ _=>?_) (fun sp hsp=>?_) (fun sp _=>?_) rfl he ?_
 ·rw [hf,hres];exact trodAll_cons_mk (shut_bool hb _) trodAll_mk0
 ·rw [hfa];exact DC hl he hr hA (fun x hx=>hin x (by simp [hx])) fun x hx=>hsp x (by simp [hx])
 ·rw [hv,hfv];rfl
 exact ok_one hres rfl (okWide_bool_mk hb _)
end
section
open Go.RowKit
open Go.ChangeMaps (setBlock)
open Go.RowKit
open Go.ChangeMaps (setBlock)
theorem qp{P:Program}{t:TypeId}{n:Nat}(h:(P.info? t).map (·.size)=some n)(w:World): (sizeOf t).run P w=.ok n w:=by
 cases hi:P.info? t with
 | none=>rw [hi]at h;cases h
 | some i=>
  rw [hi]at h;cases h;simp [sizeOf,typeInfo,hi]
end
end Go.Proofs.YtbpklgllihhgpaaGreat
