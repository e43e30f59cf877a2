/- GraphHidden of layer 18: for every document made of numbers, every hidden layer made of eight numbers and every number the law returns true, and its arguments read as they did. No condition. The two tables of the hash are tied to the program's text. -/
import Derived.ProofKit
import Derived.LaidMore
import Derived.Stop.Joined
import Derived.SevenTiedAt
import Derived.Deep.Strs
import Derived.ChangeSlices
import Derived.Test.YtaahejdimjbhhaaGreatDoorCards
import Derived.Test.YtaahejdimjbhhaaGreatDoorTie
import Derived.Test.YtaahejdimjbhhaaGreatDoorK42
set_option maxRecDepth 100000
set_option maxHeartbeats 0
set_option linter.all false
namespace Go.Proofs.YtaahejdimjbhhaaGreatDoor.graphHidden
open Go.Proofs.Tryz Go.ChangeShapes Go.WideShapes Go.ChangeAt Go.RowKit Go.Deep Go.Den
theorem own:ownKnob prog.godebug=none:=by kernel_rfl
theorem laidOut:laidOutB prog=true:=by kernel_rfl
theorem cells66:prog.cellsOf 66=8:=by kernel_rfl
theorem cells3:prog.cellsOf 3=1:=by kernel_rfl
theorem read3:prog.readableRec 3=true∧3<prog.types.size:=⟨by kernel_rfl,of_decide_eq_true (by kernel_rfl)⟩
theorem read22:prog.readableRec 22=true∧22<prog.types.size:=⟨by kernel_rfl,of_decide_eq_true (by kernel_rfl)⟩
theorem read66:prog.readableRec 66=true∧66<prog.types.size:=⟨by kernel_rfl,of_decide_eq_true (by kernel_rfl)⟩
def laid2{H:Type}: List (String×DataW H):=[("gouache/digest.round",Rows.laid_gouache_digest_round),("gouache/digest.start",Rows.laid_gouache_digest_start)]
theorem gRound:prog.globalNamed "gouache/digest.round"=some 1:=by kernel_rfl
theorem gStart:prog.globalNamed "gouache/digest.start"=some 0:=by kernel_rfl
theorem tRound:(prog.globals[1]?).map (·.type)=some 271:=by kernel_rfl
theorem tStart:(prog.globals[0]?).map (·.type)=some 216:=by kernel_rfl
theorem words_cells{H:Type}{enc:TypeId×Value→H}{W:World}{base:Nat}{v:Nat→Bool}{j:Bool}{fuel:Nat}{t:TypeId}{n:Nat}{cs:List Value}{x:DataW H×List MemPlace}(u:prog.underlying t=some (.array n 190))(h:DataW.trod enc prog W base v j fuel t cs=some x)
  (ks:List Int) (c:x.1=.agg (ks.map fun k=>.lit (.int .u32 k))):∀i,i<n→cs[i]?=some (.int .u32 (ks.getD i 0)):=by
 obtain⟨g,m,_,l,ao,G,p⟩:=DataW.trod_array u h;subst l;simp only [DataW.agg.injEq]at c;have c1:prog.cellsOf 190=1:=by kernel_rfl
 intro i o;have a:=p i o;rw [c1,Nat.mul_one]at a;obtain⟨y,d⟩:∃y,g[i]?=some y:=⟨_,List.getElem?_eq_getElem (by omega)⟩;rw [d]at a;obtain⟨k,z,N,_⟩:=DataW.trod_int underlying190 a;have e:(g.map (·.1))[i]?=some y.1:=by rw [List.getElem?_map,d];rfl
 rw [c,List.getElem?_map,N]at e;have s:ks.getD i 0=k:=by
  cases b:ks[i]? with
  | none=>rw [b]at e;cases e
  | some q=>
   rw [b]at e;simp only [Option.map_some,Option.some.injEq,DataW.lit.injEq,Lit.int.injEq,true_and]at e;rw [List.getD_eq_getElem?_getD,b];exact e
 rw [s];have f:((cs.drop i).take 1)[0]?=some (.int .u32 k):=by rw [z];rfl
 rw [List.getElem?_take_of_lt (by decide),List.getElem?_drop,Nat.add_zero]at f;exact f
theorem door_met(os:Os)(args:Array Value): laidMetH prog laid2 ((World.doorLaid prog 4000 os).forCall (fun _ _=>0) ⟨#[],args,[]⟩).memory:=
 laidMetH_of_parts3 (fuel:=8) (laidMet_of_run' 8 (by kernel_rfl) (by kernel_rfl)) (by kernel_rfl) (by kernel_rfl)
theorem of_laid{W:World}(h:laidMetH prog laid2 W): YQ W:=by
 rw [MakeChecks.laidMetH_plain _ _ _ (by kernel_rfl)]at h;obtain⟨p,⟨k,q,e,g,O,X,im,aM,b,cD,⟨n,s,f,j,o,x,av,aR,a4,Q,_,_⟩,_⟩,_,_⟩:=h;obtain rfl:=Option.some.inj (gRound.symm.trans im);obtain rfl:=Option.some.inj (gStart.symm.trans av);obtain rfl:=Option.some.inj (tRound.symm.trans aM);obtain rfl:=Option.some.inj (tStart.symm.trans aR);have c:=words_cells underlying271 cD (Yz.map fun w=>(w.toNat:Int)) (by kernel_rfl);have d:=words_cells underlying216 Q (Yv.l.map fun w=>(w.toNat:Int)) (by kernel_rfl);have a:∀(l:List Yb) (i:Nat),(Value.int .u32 ((l.map fun w=>(w.toNat:Int)).getD i 0))=wv (l.getD i 0):=fun l i=>by unfold wv;rw [List.getD_eq_getElem?_getD,List.getD_eq_getElem?_getD,List.getElem?_map];cases l[i]? <;> rfl
 have B:∀i,i<64→W.cell? ⟨1,i,none⟩=some (wv (Yz.getD i 0)):=fun i m=>by rw [World.var?_cell im b i,←Array.getElem?_toList,c i m,a]
 have c1:∀i,i<8→W.cell? ⟨0,i,none⟩=some (wv (Yv.l.getD i 0)):=fun i m=>by rw [World.var?_cell av a4 i,←Array.getElem?_toList,d i m,a]
 exact⟨B,c1,block_lt_of_cell (B 0 (by decide))⟩
section
variable {H:Type} {enc:TypeId×Value→H}
theorem fields66{w:World}{base:Nat}{L:Nat→Bool}{t:Bool}{n:Nat}{cs:List Value}{x:DataW H×List MemPlace}(h:DataW.trod enc prog w base L t n 66 cs=some x): ∃B I C D E F G K,cs=[.int .i64 B,.int .i64 I,.int .i64 C,.int .i64 D,.int .i64 E,.int .i64 F,.int .i64 G,.int .i64 K]:=by
 obtain⟨M,m,_,_,q,ao,o⟩:=DataW.trod_array underlying66 h;rw [cells66]at q;rw [cells3]at o;have J:∀v∈cs,∃z:Int,v=.int .i64 z:=fun v u=>by
  obtain⟨i,p⟩:=List.mem_iff_getElem?.1 u;have bq:=(List.getElem?_eq_some_iff.1 p).1;have j:=o i (by omega);rw [Nat.mul_one]at j;obtain⟨y,A⟩:∃y,M[i]?=some y:=⟨_,List.getElem?_eq_getElem (by omega)⟩;rw [A]at j;obtain⟨k,s,_,_⟩:=DataW.trod_int underlying3 j;have l:((cs.drop i).take 1)[0]?=some (.int .i64 k):=by rw [s];rfl
  rw [List.getElem?_take_of_lt (by decide),List.getElem?_drop,Nat.add_zero,p]at l;exact⟨k,Option.some.inj l⟩
 match cs,q with
 | [a,b,c,d,e,f,g,h],_=>
  obtain⟨a,rfl⟩:=J a (by simp);obtain⟨b,rfl⟩:=J b (by simp);obtain⟨c,rfl⟩:=J c (by simp);obtain⟨d,rfl⟩:=J d (by simp);obtain⟨e,rfl⟩:=J e (by simp);obtain⟨f,rfl⟩:=J f (by simp);obtain⟨g,rfl⟩:=J g (by simp);obtain⟨h,rfl⟩:=J h (by simp);exact⟨a,b,c,d,e,f,g,h,rfl⟩
theorem okWide_ar{w:World}{r}{base n:Nat}{t e:TypeId}{v:Value}(o:prog.underlying t=some (.array n e))(h:Value.okWide prog w r base t v): ∃a,v=.agg a:=by simp only [Value.okWide,o]at h;obtain⟨a,b,_⟩:=h;exact⟨a,b⟩
theorem uses{W:World}{A:Option Addr}{c cap fuel:Nat}{x:DataW H×List MemPlace}(h:DataW.trod enc prog W 0 (fun _=>true) true fuel 22 [.slice A c cap]=some x): ∃d,dn W A c d:=by
 rcases open_ints underlying22 underlying3 cells3 h with ⟨f,_⟩ | ⟨a,t,l,i,f,_,p,_,J,_,m,_⟩
 ·simp at f;obtain⟨rfl,rfl,rfl⟩:=f;exact⟨[],rfl,fun j k=>absurd k (Nat.not_lt_zero j)⟩
 simp at f;obtain⟨rfl,rfl,rfl⟩:=f;simp only [if_true]at J;refine⟨i.take c,by rw [List.length_take];omega,fun j k=>?_⟩;obtain⟨g,o,s⟩:=a;have b:=m 0 (by omega);have e:(⟨g,o,s⟩:Addr).add 0=⟨g,o,s⟩:=by unfold Addr.add;simp
 rw [e]at b;have n:s=none:=by
  cases s with
  | none=>rfl
  | some q=>
   unfold World.cell? at b;split at b <;> simp at b
 subst n;have aM:=m j (by omega);simp only [add_plain]at aM;refine⟨g,o,rfl,?_⟩;rw [aM];simp [List.getD,k]
theorem lifted(os:Os)(a0:os.Started)(H:Type)(enc:TypeId×Value→H):
  ReturnsInHanded {} Tryz.checked os 6 .any (fun w a=>(Rows.graphHiddenSpec.pre enc prog Tryz.f6 [] false w a∧laidMetH prog laid2 w)∧sizedMet enc prog Tryz.f6 (OpenSpec.ofChange Rows.graphHiddenSpec) false w a)
   (Rows.graphHiddenSpec.post enc prog Tryz.f6 false true false false):=by
 refine returnsInHanded_of_change_and (C:=Tryz.checked) (X:=fun w _=>laidMetH prog laid2 w) (fun _ _ _ R h=>h.of_heap R) own a0 (by kernel_rfl) func6
  (ChangeSpec.witness_shaped (enc:=enc) (C:=Tryz.checked) (os:=os) (X:=fun w _=>laidMetH prog laid2 w) false (World.doorLaid prog 4000 os) #[.slice none 0 0,.agg #[.int .i64 0,.int .i64 0,.int .i64 0,.int .i64 0,.int .i64 0,.int .i64 0,.int .i64 0,.int .i64 0],.int .i64 0] 8 rfl (World.shaped_of_RefB (by kernel_rfl) (by kernel_rfl)) (by kernel_rfl) (by kernel_rfl) (by kernel_rfl) (door_met os _)) ?_
 intro W G a K gs a1 n l _ _ M _;have b:∀(j:Nat) t v,Tryz.f6.params[j]?=some t→a[j]?=some v→Value.okWide prog W .any G t v:=n;have O:=l;obtain⟨p,q,k,N,rfl,a8,a9⟩:=l;have i:DataW.TrodAll enc prog W 0 (fun _=>true) true Tryz.f6.params.toList a.toList K p:=k;rw [Tryz.params6]at i b;obtain⟨E,aa,d0,a2,p0,q0,a7,rfl,rfl,c,V⟩:=trodAll_cons i;obtain⟨F,ab,d1,a3,p1,q1,rfl,rfl,rfl,f,Z⟩:=trodAll_cons V;obtain⟨Y,ac,d2,a4,p2,q2,rfl,rfl,rfl,L,r2⟩:=trodAll_cons Z;obtain⟨rfl,rfl,rfl⟩:=trodAll_nil r2;obtain rfl:a=#[E,F,Y]:=by cases a;simp_all
 obtain⟨rfl,rfl⟩:=trodVars_none N;obtain⟨A,U,J,rfl⟩:=okWide_slice underlying22 (b 0 22 E rfl rfl);obtain⟨g,rfl⟩:=okWide_ar underlying66 (b 1 66 F rfl rfl);obtain⟨m,rfl,rfl,rfl,w1⟩:=open_int underlying3 (b 2 3 Y rfl rfl) L;obtain⟨a5,c⟩:=c;obtain⟨a6,f⟩:=f;obtain⟨xs,T⟩:=uses c;obtain⟨s,I,u,x,y,z,B,D,P⟩:=fields66 f;obtain rfl:g=#[.int .i64 s,.int .i64 I,.int .i64 u,.int .i64 x,.int .i64 y,.int .i64 z,.int .i64 B,.int .i64 D]:=by cases g;exact congrArg Array.mk P
 clear k n;refine (wI A U J xs s I u x y z B D m W T (of_laid M)).mono fun e W' ⟨Q,d⟩=>?_;subst Q;refine⟨_,rfl,OY (tb:=4) laidOut (fun t o=>?_) underlying4 rfl O rfl ⟨d.size,fun j S=>d.old j S (by simp),d.os,d.tape,d.output⟩ rfl rfl rfl⟩;rw [Tryz.params6]at o;simp at o;rcases o with rfl | rfl | rfl
 ·exact read22
 ·exact read66
 exact read3
theorem over:Rows.GraphHiddenSaid:=
 OpenClaim.holds_of_wide 6 Tryz.f6 rfl rfl rfl rfl rfl rfl rfl ⟨rfl,rfl,rfl,rfl,rfl⟩ rfl rfl rfl rfl rfl (by kernel_rfl) func6 (by kernel_rfl)
  (of_decide_eq_true (by kernel_rfl)) (by unfold Func.isWrapper;first | (rw [if_pos (by decide +kernel)];kernel_rfl) | (rw [if_neg (by decide +kernel)];exact⟨rfl,rfl⟩))
  (fun b S H enc _=>lifted b S H enc)
theorem proved:Rows.GraphHiddenCardSaid:=
 Claim7.holds_tied_plain_at .later [] [.data,.data] true (true,"4e109ea2c4aaf7c48c187513e3aec66fa71297cb5349fddd1ce69a23a4fe51da") true
  over (fun _ h=>by cases h) (by kernel_rfl) (fun _ h=>by cases h) graphHidden_row_tie rfl ⟨rfl,rfl⟩ (by kernel_rfl) rfl
  (fun f K l a=>by
   obtain rfl:f=6:=Option.some.inj ((show prog.funcNamed "gouache/gouachelaw18.GraphHidden"=some 6 by kernel_rfl).symm.trans l) |>.symm;obtain rfl:K=Tryz.f6:=(Option.some.inj (func6.symm.trans a)).symm;exact⟨by kernel_rfl,fun j t o=>by
    rw [Tryz.params6]at o;have e:t∈[22,66,3]:=(by simpa using Array.mem_of_getElem? o);have c:([22,66,3].all fun u=>!prog.wantsStandIn u)=true:=(by kernel_rfl);exact (show prog.wantsStandIn t=false by simpa using List.all_eq_true.1 c t e)⟩)
  (by kernel_rfl)
#print axioms proved
end
end Go.Proofs.YtaahejdimjbhhaaGreatDoor.graphHidden
