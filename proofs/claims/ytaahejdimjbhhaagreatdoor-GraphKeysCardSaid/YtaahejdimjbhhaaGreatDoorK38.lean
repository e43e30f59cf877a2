/- GraphKeys of layer 18: for every document made of numbers, every number and every tile position the law returns true, and its arguments read as they did. No condition. The two tables of the hash are tied to the program's text. -/
import Derived.ProofKit
import Derived.LaidMore
import Derived.Stop.Joined
import Derived.SevenTiedAt
import Derived.Deep.Strs
import Derived.ChangeSlices
import Derived.Test.YtaahejdimjbhhaaGreatDoorCards
import Derived.Test.YtaahejdimjbhhaaGreatDoorTie
import Derived.Test.YtaahejdimjbhhaaGreatDoorK37
set_option maxRecDepth 100000
set_option maxHeartbeats 0
set_option linter.all false
namespace Go.Proofs.YtaahejdimjbhhaaGreatDoor.graphKeys
open Go.Proofs.Tryz Go.ChangeShapes Go.WideShapes Go.ChangeAt Go.RowKit Go.Deep Go.Den
theorem own:ownKnob prog.godebug=none:=by kernel_rfl
theorem laidOut:laidOutB prog=true:=by kernel_rfl
theorem cells24:prog.cellsOf 24=2:=by kernel_rfl
theorem cells3:prog.cellsOf 3=1:=by kernel_rfl
theorem read3:prog.readableRec 3=true∧3<prog.types.size:=⟨by kernel_rfl,of_decide_eq_true (by kernel_rfl)⟩
theorem read22:prog.readableRec 22=true∧22<prog.types.size:=⟨by kernel_rfl,of_decide_eq_true (by kernel_rfl)⟩
theorem read24:prog.readableRec 24=true∧24<prog.types.size:=⟨by kernel_rfl,of_decide_eq_true (by kernel_rfl)⟩
def laid2{H:Type}: List (String×DataW H):=[("gouache/digest.round",Rows.laid_gouache_digest_round),("gouache/digest.start",Rows.laid_gouache_digest_start)]
theorem gRound:prog.globalNamed "gouache/digest.round"=some 1:=by kernel_rfl
theorem gStart:prog.globalNamed "gouache/digest.start"=some 0:=by kernel_rfl
theorem tRound:(prog.globals[1]?).map (·.type)=some 271:=by kernel_rfl
theorem tStart:(prog.globals[0]?).map (·.type)=some 216:=by kernel_rfl
theorem words_cells{H:Type}{enc:TypeId×Value→H}{W:World}{base:Nat}{v:Nat→Bool}{j:Bool}{fuel:Nat}{t:TypeId}{n:Nat}{cs:List Value}{x:DataW H×List MemPlace}(u:prog.underlying t=some (.array n 190))(h:DataW.trod enc prog W base v j fuel t cs=some x)
  (ks:List Int) (c:x.1=.agg (ks.map fun k=>.lit (.int .u32 k))):∀i,i<n→cs[i]?=some (.int .u32 (ks.getD i 0)):=by
 obtain⟨g,m,_,l,ao,G,p⟩:=DataW.trod_array u h;subst l;simp only [DataW.agg.injEq]at c;have c1:prog.cellsOf 190=1:=by kernel_rfl
 intro i o;have a:=p i o;rw [c1,Nat.mul_one]at a;obtain⟨y,d⟩:∃y,g[i]?=some y:=⟨_,List.getElem?_eq_getElem (by omega)⟩;rw [d]at a;obtain⟨k,z,N,_⟩:=DataW.trod_int underlying190 a;have e:(g.map (·.1))[i]?=some y.1:=by rw [List.getElem?_map,d];rfl
 rw [c,List.getElem?_map,N]at e;have s:ks.getD i 0=k:=by
  cases b:ks[i]? with
  | none=>rw [b]at e;cases e
  | some q=>
   rw [b]at e;simp only [Option.map_some,Option.some.injEq,DataW.lit.injEq,Lit.int.injEq,true_and]at e;rw [List.getD_eq_getElem?_getD,b];exact e
 rw [s];have f:((cs.drop i).take 1)[0]?=some (.int .u32 k):=by rw [z];rfl
 rw [List.getElem?_take_of_lt (by decide),List.getElem?_drop,Nat.add_zero]at f;exact f
theorem door_met(os:Os)(args:Array Value): laidMetH prog laid2 ((World.doorLaid prog 4000 os).forCall (fun _ _=>0) ⟨#[],args,[]⟩).memory:=
 laidMetH_of_parts3 (fuel:=8) (laidMet_of_run' 8 (by kernel_rfl) (by kernel_rfl)) (by kernel_rfl) (by kernel_rfl)
theorem of_laid{W:World}(h:laidMetH prog laid2 W): YQ W:=by
 rw [MakeChecks.laidMetH_plain _ _ _ (by kernel_rfl)]at h;obtain⟨p,⟨k,q,e,g,O,X,im,aM,b,cD,⟨n,s,f,j,o,x,av,aR,a4,Q,_,_⟩,_⟩,_,_⟩:=h;obtain rfl:=Option.some.inj (gRound.symm.trans im);obtain rfl:=Option.some.inj (gStart.symm.trans av);obtain rfl:=Option.some.inj (tRound.symm.trans aM);obtain rfl:=Option.some.inj (tStart.symm.trans aR);have c:=words_cells underlying271 cD (Yz.map fun w=>(w.toNat:Int)) (by kernel_rfl);have d:=words_cells underlying216 Q (Yv.l.map fun w=>(w.toNat:Int)) (by kernel_rfl);have a:∀(l:List Yb) (i:Nat),(Value.int .u32 ((l.map fun w=>(w.toNat:Int)).getD i 0))=wv (l.getD i 0):=fun l i=>by unfold wv;rw [List.getD_eq_getElem?_getD,List.getD_eq_getElem?_getD,List.getElem?_map];cases l[i]? <;> rfl
 have B:∀i,i<64→W.cell? ⟨1,i,none⟩=some (wv (Yz.getD i 0)):=fun i m=>by rw [World.var?_cell im b i,←Array.getElem?_toList,c i m,a]
 have c1:∀i,i<8→W.cell? ⟨0,i,none⟩=some (wv (Yv.l.getD i 0)):=fun i m=>by rw [World.var?_cell av a4 i,←Array.getElem?_toList,d i m,a]
 exact⟨B,c1,block_lt_of_cell (B 0 (by decide))⟩
section
variable {H:Type} {enc:TypeId×Value→H}
theorem fields24{w:World}{base:Nat}{g:Nat→Bool}{j:Bool}{n:Nat}{cs:List Value}{x:DataW H×List MemPlace}(h:DataW.trod enc prog w base g j n 24 cs=some x): ∃a b,cs=[.int .i64 a,.int .i64 b]:=by
 obtain⟨o,n,_,_,i,ao,d⟩:=DataW.trod_struct underlying24 h;rw [cells24]at i;match cs,i,o,ao with
 | [a,b],_,[y0,y1],_=>
  have e:DataW.trod enc prog w base g j n 3 (([a,b].drop 0).take (prog.cellsOf 3))=some y0:=d 0 _ rfl;rw [cells3]at e;have c:DataW.trod enc prog w base g j n 3 (([a,b].drop 1).take (prog.cellsOf 3))=some y1:=d 1 _ rfl;rw [cells3]at c;obtain⟨f,k,_⟩:=DataW.trod_int underlying3 e;obtain⟨m,l,_⟩:=DataW.trod_int underlying3 c;simp at k l;subst k l;exact⟨f,m,rfl⟩
theorem uses{W:World}{A:Option Addr}{c cap fuel:Nat}{x:DataW H×List MemPlace}(h:DataW.trod enc prog W 0 (fun _=>true) true fuel 22 [.slice A c cap]=some x): ∃d,dn W A c d:=by
 rcases open_ints underlying22 underlying3 cells3 h with ⟨f,_⟩ | ⟨a,t,l,i,f,_,p,_,J,_,m,_⟩
 ·simp at f;obtain⟨rfl,rfl,rfl⟩:=f;exact⟨[],rfl,fun j k=>absurd k (Nat.not_lt_zero j)⟩
 simp at f;obtain⟨rfl,rfl,rfl⟩:=f;simp only [if_true]at J;refine⟨i.take c,by rw [List.length_take];omega,fun j k=>?_⟩;obtain⟨g,o,s⟩:=a;have b:=m 0 (by omega);have e:(⟨g,o,s⟩:Addr).add 0=⟨g,o,s⟩:=by unfold Addr.add;simp
 rw [e]at b;have n:s=none:=by
  cases s with
  | none=>rfl
  | some q=>
   unfold World.cell? at b;split at b <;> simp at b
 subst n;have aM:=m j (by omega);simp only [add_plain]at aM;refine⟨g,o,rfl,?_⟩;rw [aM];simp [List.getD,k]
theorem lifted(os:Os)(S:os.Started)(H:Type)(enc:TypeId×Value→H):
  ReturnsInHanded {} Tryz.checked os 3 .any (fun w a=>(Rows.graphKeysSpec.pre enc prog Tryz.f3 [] false w a∧laidMetH prog laid2 w)∧sizedMet enc prog Tryz.f3 (OpenSpec.ofChange Rows.graphKeysSpec) false w a)
   (Rows.graphKeysSpec.post enc prog Tryz.f3 false true false false):=by
 refine returnsInHanded_of_change_and (C:=Tryz.checked) (X:=fun w _=>laidMetH prog laid2 w) (fun _ _ _ K h=>h.of_heap K) own S (by kernel_rfl) func3
  (ChangeSpec.witness_shaped (enc:=enc) (C:=Tryz.checked) (os:=os) (X:=fun w _=>laidMetH prog laid2 w) false (World.doorLaid prog 4000 os) #[.slice none 0 0,.int .i64 0,.agg #[.int .i64 0,.int .i64 0]] 8 rfl (World.shaped_of_RefB (by kernel_rfl) (by kernel_rfl)) (by kernel_rfl) (by kernel_rfl) (by kernel_rfl) (door_met os _)) ?_
 intro W y a B gs V l m _ _ E _;have b:∀(j:Nat) t v,Tryz.f3.params[j]?=some t→a[j]?=some v→Value.okWide prog W .any y t v:=l;have G:=m;obtain⟨p,q,k,F,rfl,a6,a7⟩:=m;have i:DataW.TrodAll enc prog W 0 (fun _=>true) true Tryz.f3.params.toList a.toList B p:=k;rw [Tryz.params3]at i b;obtain⟨u,a8,Z,a0,p0,q0,a5,rfl,rfl,c,P⟩:=trodAll_cons i;obtain⟨x,a9,d1,a1,p1,q1,rfl,rfl,rfl,D,Q⟩:=trodAll_cons P;obtain⟨Y,aa,d2,a2,p2,q2,rfl,rfl,rfl,f,R⟩:=trodAll_cons Q;obtain⟨rfl,rfl,rfl⟩:=trodAll_nil R;obtain rfl:a=#[u,x,Y]:=by cases a;simp_all
 obtain⟨rfl,rfl⟩:=trodVars_none F;obtain⟨A,O,z,rfl⟩:=okWide_slice underlying22 (b 0 22 u rfl rfl);obtain⟨N,rfl,rfl,rfl,w1⟩:=open_int underlying3 (b 1 3 x rfl rfl) D;obtain⟨g,rfl,_⟩:=okWide_struct underlying24 (b 2 24 Y rfl rfl);obtain⟨a3,c⟩:=c;obtain⟨a4,f⟩:=f;obtain⟨T,M⟩:=uses c;obtain⟨n,s,I⟩:=fields24 f;obtain rfl:g=#[.int .i64 n,.int .i64 s]:=by cases g;exact congrArg Array.mk I
 clear k l;refine (afo A O z T N n s W M (of_laid E)).mono fun e U ⟨J,d⟩=>?_;subst J;refine⟨_,rfl,OY (tb:=4) laidOut (fun t o=>?_) underlying4 rfl G rfl ⟨d.size,fun j L=>d.old j L (by simp),d.os,d.tape,d.output⟩ rfl rfl rfl⟩;rw [Tryz.params3]at o;simp at o;rcases o with rfl | rfl | rfl
 ·exact read22
 ·exact read3
 exact read24
theorem over:Rows.GraphKeysSaid:=
 OpenClaim.holds_of_wide 3 Tryz.f3 rfl rfl rfl rfl rfl rfl rfl ⟨rfl,rfl,rfl,rfl,rfl⟩ rfl rfl rfl rfl rfl (by kernel_rfl) func3 (by kernel_rfl)
  (of_decide_eq_true (by kernel_rfl)) (by unfold Func.isWrapper;first | (rw [if_pos (by decide +kernel)];kernel_rfl) | (rw [if_neg (by decide +kernel)];exact⟨rfl,rfl⟩))
  (fun b S H enc _=>lifted b S H enc)
theorem proved:Rows.GraphKeysCardSaid:=
 Claim7.holds_tied_plain_at .later [] [.data,.data] true (true,"4e109ea2c4aaf7c48c187513e3aec66fa71297cb5349fddd1ce69a23a4fe51da") true
  over (fun _ h=>by cases h) (by kernel_rfl) (fun _ h=>by cases h) graphKeys_row_tie rfl ⟨rfl,rfl⟩ (by kernel_rfl) rfl
  (fun f K l a=>by
   obtain rfl:f=3:=Option.some.inj ((show prog.funcNamed "gouache/gouachelaw18.GraphKeys"=some 3 by kernel_rfl).symm.trans l) |>.symm;obtain rfl:K=Tryz.f3:=(Option.some.inj (func3.symm.trans a)).symm;exact⟨by kernel_rfl,fun j t o=>by
    rw [Tryz.params3]at o;have e:t∈[22,3,24]:=(by simpa using Array.mem_of_getElem? o);have c:([22,3,24].all fun u=>!prog.wantsStandIn u)=true:=(by kernel_rfl);exact (show prog.wantsStandIn t=false by simpa using List.all_eq_true.1 c t e)⟩)
  (by kernel_rfl)
#print axioms proved
end
end Go.Proofs.YtaahejdimjbhhaaGreatDoor.graphKeys
