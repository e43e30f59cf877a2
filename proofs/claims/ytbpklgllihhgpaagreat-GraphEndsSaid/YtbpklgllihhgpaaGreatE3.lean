/- GraphEnds of layer 18: for every document made of numbers and every rectangle the law returns true, and its arguments read as they did. No condition. -/
import Derived.WalkKit
import Derived.ProofKit
import Derived.OpenShut
import Derived.Deep.Strs
import Derived.ChangeSlices
import Derived.Test.YtbpklgllihhgpaaGreatRows
import Derived.Test.YtbpklgllihhgpaaGreatR13
import Derived.Test.YtbpklgllihhgpaaGreatE2
set_option maxRecDepth 100000
set_option maxHeartbeats 16000000
namespace Go.Proofs.YtbpklgllihhgpaaGreat.graphEnds
open Go.ChangeShapes Go.WideShapes Go.ChangeAt Go.RowKit Go.Deep Go.Den
theorem own:ownKnob Tryz.prog.godebug=none:=by kernel_rfl
theorem laidOut:laidOutB Tryz.prog=true:=by kernel_rfl
theorem cells33:Tryz.prog.cellsOf 33=4:=by kernel_rfl
theorem cells3:Tryz.prog.cellsOf 3=1:=by kernel_rfl
theorem read22:Tryz.prog.readableRec 22=true∧22<Tryz.prog.types.size:=⟨by kernel_rfl,of_decide_eq_true (by kernel_rfl)⟩
theorem read33:Tryz.prog.readableRec 33=true∧33<Tryz.prog.types.size:=⟨by kernel_rfl,of_decide_eq_true (by kernel_rfl)⟩
section
variable {H:Type} {enc:TypeId×Value→H}
theorem fields33{w:World}{base:Nat}{sp:Nat→Bool}{held:Bool}{n:Nat}{cs:List Value}{x:DataW H×List MemPlace}(h:DataW.trod enc Tryz.prog w base sp held n 33 cs=some x): ∃a b c d,cs=[.int .i64 a,.int .i64 b,.int .i64 c,.int .i64 d]:=by
 obtain⟨xs,m,_,_,hl,hlen,hf⟩:=DataW.trod_array Tryz.underlying33 h;rw [cells33]at hl;rw [cells3]at hf;match cs,hl,xs,hlen with
 | [a,b,c,d],_,[y0,y1,y2,y3],_=>
  have h0:DataW.trod enc Tryz.prog w base sp held m 3 [a]=some y0:=hf 0 (by omega);have h1:DataW.trod enc Tryz.prog w base sp held m 3 [b]=some y1:=hf 1 (by omega);have h2:DataW.trod enc Tryz.prog w base sp held m 3 [c]=some y2:=hf 2 (by omega);have h3:DataW.trod enc Tryz.prog w base sp held m 3 [d]=some y3:=hf 3 (by omega);obtain⟨a',e0,_⟩:=DataW.trod_int Tryz.underlying3 h0;obtain⟨b',e1,_⟩:=DataW.trod_int Tryz.underlying3 h1;obtain⟨c',e2,_⟩:=DataW.trod_int Tryz.underlying3 h2;obtain⟨d',e3,_⟩:=DataW.trod_int Tryz.underlying3 h3;simp at e0 e1 e2 e3;subst e0 e1 e2 e3;exact⟨a',b',c',d',rfl⟩
theorem okWide_ar{w:World}{r:Go.Reach}{base n:Nat}{t e:TypeId}{v:Value}(ht:Tryz.prog.underlying t=some (.array n e))(h:Value.okWide Tryz.prog w r base t v): ∃cs,v=.agg cs:=by simp only [Value.okWide,ht]at h;obtain⟨cs,h1,_⟩:=h;exact⟨cs,h1⟩
theorem uses{W:World}{A:Option Addr}{len cap fuel:Nat}{x:DataW H×List MemPlace}(h:DataW.trod enc Tryz.prog W 0 (fun _=>true) true fuel 22 [.slice A len cap]=some x): ∃xs,IntsAt W A len xs:=by
 rcases open_ints Tryz.underlying22 Tryz.underlying3 cells3 h with ⟨hcs,_⟩ | ⟨a,len',cap',zs,hcs,_,hl,_,hz,_,hi,_⟩
 ·simp at hcs;obtain⟨rfl,rfl,rfl⟩:=hcs;exact⟨[],rfl,fun j hj=>absurd hj (Nat.not_lt_zero j)⟩
 simp at hcs;obtain⟨rfl,rfl,rfl⟩:=hcs;simp only [if_true]at hz;refine⟨zs.take len,by rw [List.length_take];omega,fun j hj=>?_⟩;obtain⟨g,o,s⟩:=a;have h0:=hi 0 (by omega);have e:(⟨g,o,s⟩:Addr).add 0=⟨g,o,s⟩:=by unfold Addr.add;simp
 rw [e]at h0;have hs:s=none:=by
  cases s with
  | none=>rfl
  | some q=>
   unfold World.cell? at h0;split at h0 <;> simp at h0
 subst hs;have hj2:=hi j (by omega);simp only [add_plain]at hj2;refine⟨g,o,rfl,?_⟩;rw [hj2];simp [List.getD,hj]
theorem lifted(os:Os)(started:os.Started)(H:Type)(enc:TypeId×Value→H):
  ReturnsInHanded {} Tryz.checked os 5 .any (Rows.graphEndsSpec.pre6 enc Tryz.prog Tryz.f5 Rows.graphEndsRow.domain false) (Rows.graphEndsSpec.post enc Tryz.prog Tryz.f5 false true false false):=by
 refine returnsInHanded_of_change (C:=Tryz.checked) own started (by kernel_rfl) Tryz.func5
  (ChangeSpec.witness6 (enc:=enc) (C:=Tryz.checked) false ⟨#[],#[.slice none 0 0,.agg #[.int .i64 0,.int .i64 0,.int .i64 0,.int .i64 0]],[]⟩ 8 (by kernel_rfl) (by kernel_rfl) (by kernel_rfl) (by kernel_rfl)) ?_
 intro W base args ds gs before hval0 hW hcnd _;have hval:∀(j:Nat) t v,Tryz.f5.params[j]?=some t→args[j]?=some v→Value.okWide Tryz.prog W .any base t v:=hval0;have hW':=hW;obtain⟨p,q,hA0,hV,rfl,hfz,hnd⟩:=hW;have hA:DataW.TrodAll enc Tryz.prog W 0 (fun _=>true) true Tryz.f5.params.toList args.toList ds p:=hA0;rw [Tryz.params5]at hA hval;obtain⟨v0,vs0,d0,ds0,p0,q0,hargs,rfl,rfl,h0,r0⟩:=trodAll_cons hA;obtain⟨v1,vs1,d1,ds1,p1,q1,rfl,rfl,rfl,h1,r1⟩:=trodAll_cons r0;obtain⟨rfl,rfl,rfl⟩:=trodAll_nil r1;obtain rfl:args=#[v0,v1]:=by cases args;simp_all
 obtain⟨rfl,rfl⟩:=trodVars_none hV;obtain⟨A,len,cap,rfl⟩:=okWide_slice Tryz.underlying22 (hval 0 22 v0 rfl rfl);obtain⟨cs,rfl⟩:=okWide_ar Tryz.underlying33 (hval 1 33 v1 rfl rfl);obtain⟨fuel,h0⟩:=h0;obtain⟨fuel2,h2⟩:=h1;obtain⟨xs,hx⟩:=uses h0;obtain⟨ra,rb,rc,rd,hcs⟩:=fields33 h2;obtain rfl:cs=#[.int .i64 ra,.int .i64 rb,.int .i64 rc,.int .i64 rd]:=by cases cs;exact congrArg Array.mk hcs
 clear hA0 hval0;refine (law_ends A len cap xs ra rb rc rd W hx).mono fun e W' ⟨he,hg⟩=>?_;subst he;refine⟨_,rfl,law_post (tb:=4) laidOut (fun t ht=>?_) Tryz.underlying4 rfl hW' rfl ⟨hg.size,fun j hj=>hg.old j hj (by simp),hg.os,hg.tape,hg.output⟩ rfl rfl rfl⟩;rw [Tryz.params5]at ht;simp at ht;rcases ht with rfl | rfl
 ·exact read22
 exact read33
theorem over:Rows.graphEndsRow.holds Tryz.pinned (OpenSpec.ofChange Rows.graphEndsSpec):=
 OpenClaim.holds_of_wide 5 Tryz.f5 rfl rfl rfl rfl rfl rfl rfl ⟨rfl,rfl,rfl,rfl,rfl⟩ rfl rfl rfl rfl rfl (by kernel_rfl) Tryz.func5 (by kernel_rfl)
  (of_decide_eq_true (by kernel_rfl)) (by unfold Func.isWrapper;first | (rw [if_pos (by decide +kernel)];kernel_rfl) | (rw [if_neg (by decide +kernel)];exact⟨rfl,rfl⟩))
  (fun os started H enc _=>lifted os started H enc)
theorem proved:Rows.GraphEndsSaid:=
 over
#print axioms proved
end
end Go.Proofs.YtbpklgllihhgpaaGreat.graphEnds
