/- GraphAreas of layer 18: for every document made of numbers and every number the law returns true, and its arguments read as they did. No condition. -/
import Derived.ProofKit
import Derived.Deep.Strs
import Derived.ChangeSlices
import Derived.Test.YtbpklgllihhgpaaGreatRows
import Derived.Test.YtbpklgllihhgpaaGreatA53
set_option maxRecDepth 100000
set_option maxHeartbeats 16000000
namespace Go.Proofs.YtbpklgllihhgpaaGreat.graphAreas
open Go.ChangeShapes Go.WideShapes Go.ChangeAt Go.RowKit Go.Deep Go.Den
theorem own:ownKnob Tryz.prog.godebug=none:=by kernel_rfl
theorem laidOut:laidOutB Tryz.prog=true:=by kernel_rfl
theorem cells3:Tryz.prog.cellsOf 3=1:=by kernel_rfl
theorem read3:Tryz.prog.readableRec 3=true∧3<Tryz.prog.types.size:=⟨by kernel_rfl,of_decide_eq_true (by kernel_rfl)⟩
theorem read22:Tryz.prog.readableRec 22=true∧22<Tryz.prog.types.size:=⟨by kernel_rfl,of_decide_eq_true (by kernel_rfl)⟩
section
variable {H:Type} {enc:TypeId×Value→H}
theorem uses{W:World}{A:Option Addr}{len cap fuel:Nat}{x:DataW H×List MemPlace}(h:DataW.trod enc Tryz.prog W 0 (fun _=>true) true fuel 22 [.slice A len cap]=some x): ∃xs,dn W A len xs:=by
 rcases open_ints Tryz.underlying22 Tryz.underlying3 cells3 h with ⟨hcs,_⟩ | ⟨a,len',cap',zs,hcs,_,hl,_,hz,_,hi,_⟩
 ·simp at hcs;obtain⟨rfl,rfl,rfl⟩:=hcs;exact⟨[],rfl,fun j hj=>absurd hj (Nat.not_lt_zero j)⟩
 simp at hcs;obtain⟨rfl,rfl,rfl⟩:=hcs;simp only [if_true]at hz;refine⟨zs.take len,by rw [List.length_take];omega,fun j hj=>?_⟩;obtain⟨g,o,s⟩:=a;have h0:=hi 0 (by omega);have e:(⟨g,o,s⟩:Addr).add 0=⟨g,o,s⟩:=by unfold Addr.add;simp
 rw [e]at h0;have hs:s=none:=by
  cases s with
  | none=>rfl
  | some q=>
   unfold World.cell? at h0;split at h0 <;> simp at h0
 subst hs;have hj2:=hi j (by omega);simp only [add_plain]at hj2;refine⟨g,o,rfl,?_⟩;rw [hj2];simp [List.getD,hj]
theorem lifted(os:Os)(started:os.Started)(H:Type)(enc:TypeId×Value→H):
  ReturnsInHanded {} Tryz.checked os 4 .any (Rows.graphAreasSpec.pre6 enc Tryz.prog Tryz.f4 Rows.graphAreasRow.domain false) (Rows.graphAreasSpec.post enc Tryz.prog Tryz.f4 false true false false):=by
 refine returnsInHanded_of_change (C:=Tryz.checked) own started (by kernel_rfl) Tryz.func4
  (ChangeSpec.witness6 (enc:=enc) (C:=Tryz.checked) false ⟨#[],#[.slice none 0 0,.int .i64 0],[]⟩ 8 (by kernel_rfl) (by kernel_rfl) (by kernel_rfl) (by kernel_rfl)) ?_
 intro W base args ds gs before hval0 hW hcnd _;have hval:∀(j:Nat) t v,Tryz.f4.params[j]?=some t→args[j]?=some v→Value.okWide Tryz.prog W .any base t v:=hval0;have hW':=hW;obtain⟨p,q,hA0,hV,rfl,hfz,hnd⟩:=hW;have hA:DataW.TrodAll enc Tryz.prog W 0 (fun _=>true) true Tryz.f4.params.toList args.toList ds p:=hA0;rw [Tryz.params4]at hA hval;obtain⟨v0,vs0,d0,ds0,p0,q0,hargs,rfl,rfl,h0,r0⟩:=trodAll_cons hA;obtain⟨v1,vs1,d1,ds1,p1,q1,rfl,rfl,rfl,h1,r1⟩:=trodAll_cons r0;obtain⟨rfl,rfl,rfl⟩:=trodAll_nil r1;obtain rfl:args=#[v0,v1]:=by cases args;simp_all
 obtain⟨rfl,rfl⟩:=trodVars_none hV;obtain⟨A,len,cap,rfl⟩:=okWide_slice Tryz.underlying22 (hval 0 22 v0 rfl rfl);obtain⟨id,rfl,rfl,rfl,w1⟩:=open_int Tryz.underlying3 (hval 1 3 v1 rfl rfl) h1;obtain⟨fuel,h0⟩:=h0;obtain⟨xs,hx⟩:=uses h0;clear hA0 hval0;refine (NM A len cap xs id W hx).mono fun e W' ⟨he,hg⟩=>?_;subst he;refine⟨_,rfl,OY (tb:=4) laidOut (fun t ht=>?_) Tryz.underlying4 rfl hW' rfl ⟨hg.size,fun j hj=>hg.old j hj (by simp),hg.os,hg.tape,hg.output⟩ rfl rfl rfl⟩;rw [Tryz.params4]at ht;simp at ht;rcases ht with rfl | rfl
 ·exact read22
 exact read3
theorem over:Rows.graphAreasRow.holds Tryz.pinned (OpenSpec.ofChange Rows.graphAreasSpec):=
 OpenClaim.holds_of_wide 4 Tryz.f4 rfl rfl rfl rfl rfl rfl rfl ⟨rfl,rfl,rfl,rfl,rfl⟩ rfl rfl rfl rfl rfl (by kernel_rfl) Tryz.func4 (by kernel_rfl)
  (of_decide_eq_true (by kernel_rfl)) (by unfold Func.isWrapper;first | (rw [if_pos (by decide +kernel)];kernel_rfl) | (rw [if_neg (by decide +kernel)];exact⟨rfl,rfl⟩))
  (fun os started H enc _=>lifted os started H enc)
theorem proved:Rows.GraphAreasSaid:=
 over
#print axioms proved
end
end Go.Proofs.YtbpklgllihhgpaaGreat.graphAreas
