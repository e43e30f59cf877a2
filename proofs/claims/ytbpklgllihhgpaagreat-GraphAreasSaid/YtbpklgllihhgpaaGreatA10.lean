import Derived.WalkKit
import Derived.Maps.RangeWalk
import Derived.Deep.QuietTactic
import Derived.BigQuiet
import Derived.Deep.WholeRow
import Derived.WalkSpells
import Derived.Lib.Hide
import Derived.Defers
import Derived.Recover
import Derived.Laws.Pointers
import Derived.Test.YtbpklgllihhgpaaGreatChecked
set_option maxRecDepth 100000
set_option maxHeartbeats 16000000
namespace Go.Proofs.YtbpklgllihhgpaaGreat
section
open Go.RowKit
open Go.ChangeMaps (setBlock)
theorem IU{P:Program}{t k e ty:TypeId}(ht:P.underlying t=some (.map k e)){b:Nat}{es:Array MapEntry}{clock:Nat}{w:World}(hb:w.heap[b]?=some (.map es clock)):
  (Builtin.len_ #[t] ty #[.map (some b)]).run P w=.ok (.int .i64 es.size) w:=by
 simp [Builtin.len_,run_underlying ht,MapKept.run_getObj_map hb,goInt]
structure Kz(b o r:Nat)(bud time ev:Int)(es:Array MapEntry)(cl:Nat)(w:World): Prop where
 c0:w.cell? ⟨b,o,none⟩=some (.int .i64 bud)
 c1:w.cell? ⟨b,o+1,none⟩=some (.map (some r))
 c2:w.cell? ⟨b,o+2,none⟩=some (.int .i64 time)
 c5:w.cell? ⟨b,o+5,none⟩=some (.int .i64 ev)
 f5:w.frozen? ⟨b,o+5,none⟩=false
 mp:w.heap[r]?=some (.map es cl)
structure Lc(es:Array MapEntry)(cl:Nat)(time:Int)(key:MapEntry→ByteArray)(used:MapEntry→Int)(row:MapEntry→Array Value): Prop where
 ke:∀e∈es.toList,e.key=.string (key e)
 va:∀e∈es.toList,e.val=.agg (row e)
 sz:∀e∈es.toList,(row e).size=257
 la:∀e∈es.toList,(row e)[256]?=some (.int .i64 (used e))
 on:∀e∈es.toList,(row e).all (·.oneCell')=true
 bo:∀e∈es.toList,e.born<cl
 nd:(es.toList.map (·.born)).Nodup
 ks:∀(i j:Nat) (x y:MapEntry),es[i]?=some x→es[j]?=some y→key x=key y→i=j
 le:∀e∈es.toList,used e≤time
theorem bU{P:Program}{ops:Array Oper}{rest:List Oper}{o:Oper}{a:Act}{w w':World}{Q:Exit→Act→World→Prop}(hg:o.guard=none)(t:TypeId)(x y:Operand)(ho:o.op=.store t x y){p v:Value}
  (hx:a.eval x=p) (hy:a.eval y=v) (hr:(Instr.storeAt t p v).run P w=.ok () w') (h:wpList P ops Q rest (a.put o.dst undef) w'):wpList P ops Q (o :: rest) a w:=by
 refine wpList_plain hg fun K hK=>?_;unfold Oper.wp;simp [execOp,ho,hx,hy,hr,Result.andThen];exact hK _ _ h
theorem iE:(Tryz.prog.info? 66).map (·.size)=some 256:=by kernel_rfl
noncomputable def Ry:Array Value:=match (Tryz.prog.info? 129).map (fun i=>i.zero)with | some (some (Value.agg cs))=>cs | _=>#[]
theorem Ld:(Tryz.prog.info? 129).map (fun i=>(i.zero,i.size))=some (some (.agg Ry),257):=by kernel_rfl
theorem Wv:Ry.size=257:=by kernel_rfl
def zX(es:Array MapEntry)(key:MapEntry→ByteArray)(used:MapEntry→Int)(seen:Array Nat)(k:ByteArray)(time:Int)(s6 s7:Value): Prop:=
 (s6=.string k∧s7=.int .i64 (time+1)∧∀e∈es.toList,seen.contains e.born=false)∨
  ∃e∈es.toList,s6=.string (key e)∧s7=.int .i64 (used e)∧∀x∈es.toList,seen.contains x.born=true→used e≤used x
structure mO(w1:World)(it r:Nat)(es:Array MapEntry)(cl:Nat)(seen:Array Nat)(wr:World): Prop where
 itr:wr.heap[it]?=some (.mapIter (some r) cl seen cl)
 old:∀j,j<it→wr.heap[j]?=w1.heap[j]?
 size:it<wr.heap.size
 os:wr.os=w1.os
 tape:wr.tape=w1.tape
 output:wr.output=w1.output
theorem mO.alloc{w1:World}{it r:Nat}{es:Array MapEntry}{cl:Nat}{seen:Array Nat}{wr:World}(h:mO w1 it r es cl seen wr)(o:Obj): mO w1 it r es cl seen (wr.alloc o) where
 itr:=(Go.MapKept.heap_alloc wr o).2 it h.size |>.trans h.itr
 old j hj:=((Go.MapKept.heap_alloc wr o).2 j (Nat.lt_trans hj h.size)).trans (h.old j hj)
 size:=by have:=h.size;simp;omega
 os:=h.os
 tape:=h.tape
 output:=h.output
theorem mO.drawn{w1:World}{it r:Nat}{es:Array MapEntry}{cl:Nat}{seen:Array Nat}{wr:World}(h:mO w1 it r es cl seen wr)(n:Nat): mO w1 it r es cl seen (wr.drewN n):=⟨h.itr,h.old,h.size,h.os,h.tape,h.output⟩
theorem mO.step{w1:World}{it r:Nat}{es:Array MapEntry}{cl:Nat}{seen:Array Nat}{wr w2:World}(h:mO w1 it r es cl seen wr)(h2:w2=wr∨w2=wr.drew)(s':Array Nat):
  mO w1 it r es cl s' (setBlock w2 it (.mapIter (some r) cl s' cl)):=by
 have e:w2.heap=wr.heap:=by rcases h2 with rfl | rfl <;> rfl
 refine⟨?_,fun j hj=>?_,?_,?_,?_,?_⟩
 ·simp [setBlock,e,h.size]
 ·simp only [setBlock,e];rw [Array.getElem?_setIfInBounds,if_neg (by omega)];exact h.old j hj
 ·simp [setBlock,e,h.size]
 ·rcases h2 with rfl | rfl <;> exact h.os
 ·rcases h2 with rfl | rfl <;> exact h.tape
 rcases h2 with rfl | rfl <;> exact h.output
theorem Hu{es:Array MapEntry}{seen:Array Nat}{e:MapEntry}(h:e∈(leftOf es seen).toList): e∈es.toList∧seen.contains e.born=false:=by unfold leftOf at h;simpa using h
theorem Np{es:Array MapEntry}{seen:Array Nat}{e:MapEntry}(h:e∈(leftOf es seen).toList): (leftOf es (seen.push e.born)).size<(leftOf es seen).size:=by
 have he:=Hu h;unfold leftOf;have key:∀p:MapEntry→Bool,(es.filter p).size=(es.toList.filter p).length:=fun p=>by rw [←Array.length_toList,Array.toList_filter]
 rw [key,key];have:(es.toList.filter fun x=>!(seen.push e.born).contains x.born)=(es.toList.filter fun x=>!seen.contains x.born).filter fun x=>!(x.born == e.born):=by rw [List.filter_filter];refine List.filter_congr fun x _=>?_;simp only [Array.contains_push,Bool.not_or,Bool.and_comm]
 rw [this];refine List.length_filter_lt_length_iff_exists.2 ⟨e,?_,by simp⟩;simpa using he
theorem Ll{seen:Array Nat}{a c:Nat}(h:(seen.push a).contains c=true): c=a∨seen.contains c=true:=by rw [Array.contains_push,Bool.or_eq_true]at h;exact h.symm.imp (fun h=>by simpa using h) id
theorem zX.yes{es:Array MapEntry}{key:MapEntry→ByteArray}{used:MapEntry→Int}{seen:Array Nat}{k:ByteArray}{time:Int}{s6:Value}{u:Int}(h:zX es key used seen k time s6 (.int .i64 u)){e:MapEntry}(he:e∈es.toList)
  (hnd:(es.toList.map (·.born)).Nodup) (hu:used e<u):zX es key used (seen.push e.born) k time (.string (key e)) (.int .i64 (used e)):=by
 refine .inr ⟨e,he,rfl,rfl,fun x hx hs=>?_⟩;rcases Ll hs with h1 | h1
 ·rw [born_inj hnd hx he h1];exact Int.le_refl _
 rcases h with ⟨_,_,h3⟩ | ⟨y,_,_,h3,h4⟩
 ·rw [h3 x hx]at h1;cases h1
 cases h3;exact Int.le_of_lt (Int.lt_of_lt_of_le hu (h4 x hx h1))
theorem zX.no{es:Array MapEntry}{key:MapEntry→ByteArray}{used:MapEntry→Int}{seen:Array Nat}{k:ByteArray}{time:Int}{s6:Value}{u:Int}(h:zX es key used seen k time s6 (.int .i64 u)){e:MapEntry}(he:e∈es.toList)
  (hnd:(es.toList.map (·.born)).Nodup) (hle:∀e∈es.toList,used e≤time) (hu:¬used e<u):zX es key used (seen.push e.born) k time s6 (.int .i64 u):=by
 rcases h with ⟨_,h2,_⟩ | ⟨y,h1,h2,h3,h4⟩
 ·cases h2;have:=hle e he;omega
 refine .inr ⟨y,h1,h2,h3,fun x hx hs=>?_⟩;rcases Ll hs with h5 | h5
 ·cases h3;rw [born_inj hnd hx he h5];omega
 exact h4 x hx h5
theorem mO.left{w1:World}{it r:Nat}{es:Array MapEntry}{cl:Nat}{seen:Array Nat}{wr:World}(h:mO w1 it r es cl seen wr)(hm:wr.heap[r]?=some (.map es cl)): wr.rangeLeft r it=(leftOf es seen).size:=by simp only [World.rangeLeft,hm,h.itr]
theorem zX.shape{es:Array MapEntry}{key:MapEntry→ByteArray}{used:MapEntry→Int}{seen:Array Nat}{k:ByteArray}{time:Int}{s6 s7:Value}(h:zX es key used seen k time s6 s7): ∃kk u,s6=.string kk∧s7=.int .i64 u:=by
 rcases h with ⟨h1,h2,_⟩ | ⟨e,_,h1,h2,_⟩
 ·exact⟨_,_,h1,h2⟩
 exact⟨_,_,h1,h2⟩
theorem Nc{es:Array MapEntry}{seen:Array Nat}(h:(leftOf es seen).size=0): ∀x∈es.toList,seen.contains x.born=true:=by
 intro x hx;cases hc:seen.contains x.born with
 | true=>rfl
 | false=>
  have:x∈leftOf es seen:=by unfold leftOf;simp only [Array.mem_filter,hc,Bool.not_false,and_true];simpa using hx
  rw [Array.eq_empty_of_size_eq_zero h]at this;simp at this
theorem zX.fin{es:Array MapEntry}{key:MapEntry→ByteArray}{used:MapEntry→Int}{seen:Array Nat}{k:ByteArray}{time:Int}{s6 s7:Value}(h:zX es key used seen k time s6 s7)(h0:(leftOf es seen).size=0)(hne:0<es.size):
  ∃(i:Nat) (x:MapEntry),es[i]?=some x∧s6=.string (key x)∧∀y∈es.toList,used x≤used y:=by
 have hall:=Nc h0;rcases h with ⟨_,_,h3⟩ | ⟨x,hx,h1,_,h3⟩
 ·have h4:es[0]∈es.toList:=by simp
  have:=h3 _ h4;rw [hall _ h4]at this;cases this
 obtain⟨i,hi,hix⟩:=List.mem_iff_getElem.1 hx;exact⟨i,x,by rw [←Array.getElem?_toList,List.getElem?_eq_getElem hi,hix],h1,fun y hy=>h3 y hy (hall y hy)⟩
theorem TI{w:World}{r:Nat}{es:Array MapEntry}{cl:Nat}{time:Int}{key:MapEntry→ByteArray}{used:MapEntry→Int}{row:MapEntry→Array Value}(hes:Lc es cl time key used row)(hm:w.heap[r]?=some (.map es cl)){i:Nat}{x:MapEntry}(hx:es[i]?=some x)(ty:TypeId):
  (Builtin.delete_ #[124,59] ty #[.map (some r),.string (key x)]).run Tryz.prog w=.ok (.tuple #[]) (setBlock w r (.map (es.eraseIdxIfInBounds i) cl)):=by
 have hk:∀(s:ByteArray),MapKept.IsKey .string (.string s):=fun s=>by simp [MapKept.IsKey]
 have hxm:x∈es.toList:=by rw [←Array.getElem?_toList]at hx;exact List.mem_of_getElem? hx
 rcases MapKept.findNow_spec (hk (key x)) es.toList 0 (fun y hy=>by rw [hes.ke y hy];exact hk _)with ⟨_,h2⟩ | ⟨j,e,h1,h2,h3⟩
 ·exact absurd (hes.ke x hxm) (h2 x hxm)
 have hem:e∈es.toList:=List.mem_of_getElem? h2;rw [hes.ke e hem]at h3;have hij:j=i:=hes.ks j i e x (by rw [←Array.getElem?_toList];exact h2) hx (by injection h3);subst hij;rw [Nat.zero_add]at h1;simp [Builtin.delete_,run_underlying Tryz.underlying124,MapKept.run_getObj_map hm,MapKept.run_checkKey Tryz.underlying59 (hk (key x)),MapKept.run_findKey Tryz.underlying59 h1,MapKept.run_setObj_map _ hm,Result.andThen,setBlock]
def Ej(b o:Nat)(w1 w':World): Prop:=
 ∃(r:Nat) (bud time ev:Int) (es:Array MapEntry) (cl:Nat),Kz b o r bud time ev es cl w1∧(((es.size:Int)≤bud∧∃n,w'=w1.drewN n)∨
  (¬(es.size:Int)≤bud∧∃(key:MapEntry→ByteArray) (used:MapEntry→Int) (row:MapEntry→Array Value),Lc es cl time key used row∧∃(i:Nat) (x:MapEntry),es[i]?=some x∧(∀y∈es.toList,used x≤used y)∧
   w'.heap[r]?=some (.map (es.eraseIdxIfInBounds i) cl)∧w'.heap[b]?=(w1.setCell ⟨b,o+5,none⟩ (.int .i64 (ev+1))).heap[b]?∧(∀j,j<w1.heap.size→j≠b→j≠r→w'.heap[j]?=w1.heap[j]?)∧
   w1.heap.size≤w'.heap.size∧w'.os=w1.os∧w'.tape=w1.tape∧w'.output=w1.output))
def U6(b o:Nat)(w1:World): Prop:=
 ∃(r:Nat) (bud time ev:Int) (es:Array MapEntry) (cl:Nat),Kz b o r bud time ev es cl w1∧((es.size:Int)≤bud∨(¬(es.size:Int)≤bud∧∃(key:MapEntry→ByteArray) (used:MapEntry→Int) (row:MapEntry→Array Value),
  Lc es cl time key used row∧0≤time∧time≤1000000000000∧0≤ev∧ev≤1000000000000∧0<es.size))
theorem La(b o:Nat){w1 w':World}{U:World→Prop}(hu:U w1)(h:Ej b o w1 w'): Ending.returned (.tuple #[])=.returned (.tuple #[])∧∃w1,U w1∧Ej b o w1 w':=⟨rfl,w1,hu,h⟩
theorem SI(b o:Nat)(k:ByteArray)(T:Array Value)(hT:T.size=256)(w:World)(U:World→Prop)
  (h55:Calls Tryz.prog 55 #[.pointer (some ⟨b,o,none⟩),.string k,.agg T] (w.alloc (.cells T 66)) fun e w1=>e=.returned (.tuple #[])∧U w1)
  (hU:∀w1,U w1→U6 b o w1) :
  Calls Tryz.prog 26 #[.pointer (some ⟨b,o,none⟩),.string k,.agg T] w fun e w'=>e=.returned (.tuple #[])∧∃w1,U w1∧Ej b o w1 w':=by
 have H66:=Lib.hid (iE.trans (congrArg some hT.symm));clear hT;go_enter Tryz.func26,Tryz.ntmps26;go_wp2_with (first
  | (refine wpList_load_row rfl 66 (.tmp 5) rfl w.heap.size rfl 66 T (0,0) _ (heap_alloc_new w _) Tryz.underlying66 rfl H66.out ?_)
  | (go_at_call 55;refine h55.mono ?_;rintro e w1 ⟨rfl,hu⟩))
 obtain⟨r,bud,time,ev,es,cl,hcf,hcase⟩:=hU w1 hu;have HCF:=Lib.hid hcf;obtain⟨c0,c1,c2,c5,f5,mp⟩:=hcf;have hlen:∀n ty,(Builtin.len_ #[124] ty #[.map (some r)]).run Tryz.prog (w1.drewN n)=.ok (.int .i64 es.size) (w1.drewN n):=fun n ty=>IU Tryz.underlying124 mp;rcases hcase with hfit | ⟨hfit,key,used,row,hes,ht0,ht1,he0,he1,hne⟩
 ·have hfb:decide ((es.size:Int)≤bud)=true:=by simpa using hfit
  have HF:=Lib.hid hfit;clear hfit;go_quiet (fail)
  go_wp2_with fail
  refine bodyPost_ret (results_none rfl _ _ _) rfl ?_;exact La b o hu ⟨r,bud,time,ev,es,cl,HCF.out,.inl ⟨HF.out,_,rfl⟩⟩
 have hfb:decide ((es.size:Int)≤bud)=false:=by simpa using hfit
 have HF:=Lib.hid hfit;have HES:=Lib.hid hes;clear hfit;go_quiet (fail)
 go_wp2_with fail
 clear hlen;go_quiet (fail)
 have hrange:=fun (n:Nat)=>run_range_map (P:=Tryz.prog) (w1.drewN n) 124 59 129 r es cl Tryz.underlying124 mp;go_wp2_with fail
 clear hrange;have hrlt:r<w1.heap.size:=(Array.getElem?_eq_some_iff.1 mp).1;have hblt:b<w1.heap.size:=block_lt_of_cell c0;have hbr:b≠r:=by rintro rfl;simp [World.cell?,mp]at c0
 have hL0:∀n,mO w1 w1.heap.size r es cl #[] ((w1.drewN n).alloc (.mapIter (some r) cl #[] cl)):=fun n=>
  ⟨heap_alloc_new (w1.drewN n) _,fun j hj=>(Go.MapKept.heap_alloc (w1.drewN n) _).2 j hj,by simp,rfl,rfl,rfl⟩
 go_loopw [6,7] (fun s6 s7 wr=>∃seen:Array Nat,mO w1 w1.heap.size r es cl seen wr∧zX es key used seen k time s6 s7) (fun _ _ wr=>wr.rangeLeft r w1.heap.size);case atStart=>exact⟨#[],hL0 _,.inl ⟨rfl,rfl,fun _ _=>by simp⟩⟩
 obtain⟨seen,hL,hB⟩:=hrel;have hmr:wr.heap[r]?=some (.map es cl):=(hL.old r hrlt).trans mp;rcases run_next_at (P:=Tryz.prog) wr 0 w1.heap.size r cl cl seen es cl hL.itr hmr hes.bo (Nat.le_refl _)with ⟨h0,hnx⟩ | ⟨e,he,w2,hw2,hnx⟩
 ·obtain⟨i,x,hix,rfl,hmin⟩:=hB.fin h0 hne;have hcb:∀q,wr.cell? ⟨b,q,none⟩=w1.cell? ⟨b,q,none⟩:=fun q=>by simp only [World.cell?,hL.old b hblt]
  have d1:=(hcb (o+1)).trans c1;have hdel:=TI hes hmr hix 0;have d5:(setBlock wr r (.map (es.eraseIdxIfInBounds i) cl)).cell? ⟨b,o+5,none⟩=some (.int .i64 ev):=by have:(setBlock wr r (.map (es.eraseIdxIfInBounds i) cl)).heap[b]?=wr.heap[b]?:=(by simp [setBlock,Ne.symm hbr]);simp only [World.cell?,this,hL.old b hblt];exact c5
  have e5:(setBlock wr r (.map (es.eraseIdxIfInBounds i) cl)).frozen? ⟨b,o+5,none⟩=false:=by have:(setBlock wr r (.map (es.eraseIdxIfInBounds i) cl)).heap[b]?=wr.heap[b]?:=(by simp [setBlock,Ne.symm hbr]);simp only [World.frozen?,this,hL.old b hblt];exact f5
  have HL:=Lib.hid hL;have HM:=Lib.hid hmin;clear hL hB hmin hL0 c0 c1 c2 c5 f5 hcb hmr;go_wp2_with fail
  go_end0;have hL:=HL.out;have hsz:(setBlock wr r (.map (es.eraseIdxIfInBounds i) cl)).heap.size=wr.heap.size:=by simp [setBlock]
  refine La b o hu ⟨r,bud,time,ev,es,cl,HCF.out,.inr ⟨(by have:=HF.out;omega),key,used,row,HES.out,i,x,hix,HM.out,?_,?_,?_,?_,hL.os,hL.tape,hL.output⟩⟩
  ·rw [heap_setCell_other _ _ _ _ (Ne.symm hbr)];simp [setBlock,Nat.lt_trans hrlt hL.size]
  ·have h1:(setBlock wr r (.map (es.eraseIdxIfInBounds i) cl)).heap[b]?=w1.heap[b]?:=(by simp only [setBlock];rw [Array.getElem?_setIfInBounds,if_neg (Ne.symm hbr)];exact hL.old b hblt);simp only [World.setCell,Array.getElem?_modify,if_true,h1]
  ·intro j hj hjb hjr;rw [heap_setCell_other _ _ _ _ hjb];simp only [setBlock];rw [Array.getElem?_setIfInBounds,if_neg (Ne.symm hjr)];exact hL.old j hj
  have:=hL.size;simp [World.setCell,hsz];omega
 obtain⟨hem,hns⟩:=Hu he;obtain⟨w3,hw3⟩:∃w3,w3=setBlock w2 w1.heap.size (.mapIter (some r) cl (seen.push e.born) cl):=⟨_,rfl⟩;have hL3:mO w1 w1.heap.size r es cl (seen.push e.born) w3:=hw3 ▸ hL.step hw2 _;have hm3:w3.heap[r]?=some (.map es cl):=(hL3.old r hrlt).trans mp;have hen:=run_entry_at (P:=Tryz.prog) w3 w1.heap.size r cl seen es cl e hL3.itr hm3 hem hes.nd;have hme:(leftOf es (seen.push e.born)).size<wr.rangeLeft r w1.heap.size:=by rw [hL.left hmr];exact Np he
 rw [←hw3]at hnx;rw [hes.ke e hem,hes.va e hem]at hnx hen;have hcell:(w3.alloc (.cells (row e) 129)).cell? ⟨w3.heap.size,256,none⟩=some (.int .i64 (used e)):=by rw [cell_of_row _ _ _ (row e) 129 (0,0) (heap_alloc_new w3 _)];exact hes.la e hem
 have hal:(Instr.alloc 129 true (.tuple #[])).run Tryz.prog w3=.ok (.pointer (some ⟨w3.heap.size,0,none⟩)) (w3.alloc (.cells Ry 129)):=by unfold Instr.alloc;rw [Sem.run_bind,(zero_of_info Ld).1];rfl
 have hst:=run_storeAt_new (P:=Tryz.prog) w3 129 Ry (row e) (by rw [hes.sz e hem];exact (zero_of_info Ld).2) (by rw [Wv,hes.sz e hem]) (hes.on e hem);obtain⟨kk,u,rfl,rfl⟩:=hB.shape;have HB:=Lib.hid hB;have HM3:=Lib.hid hm3;have HL3:=Lib.hid hL3;have HE:=Lib.hid hem;have HS:=Lib.hid hes;by_cases hlt:used e<u
 ·have HY:=Lib.hid (HB.out.yes hem hes.nd hlt);generalize key e=ke at *;generalize row e=cs at *;generalize used e=ue at *;clear hB hL hw2 hw3 hL3 hm3 he hes hmr hL0 c0 c1 c2 c5 f5;go_wp2_with (refine bU rfl 129 (.tmp 9) (.tmp 41) rfl rfl rfl hst ?_)
  go_quiet (fail)
  go_wp2_with fail
  have hLf:∀n,mO w1 w1.heap.size r es cl (seen.push e.born) ((w3.alloc (.cells cs 129)).drewN n):=fun n=>(HL3.out.alloc _).drawn n;go_roundw;case rel=>exact⟨_,hLf _,HY.out⟩
  rw [(hLf _).left ((hLf _).old r hrlt |>.trans mp)];exact hme
 have HY:=Lib.hid (HB.out.no hem hes.nd hes.le hlt);generalize key e=ke at *;generalize row e=cs at *;generalize used e=ue at *;clear hB hL hw2 hw3 hL3 hm3 he hes hmr hL0 c0 c1 c2 c5 f5;go_wp2_with (refine bU rfl 129 (.tmp 9) (.tmp 41) rfl rfl rfl hst ?_)
 have hLf:mO w1 w1.heap.size r es cl (seen.push e.born) (w3.alloc (.cells cs 129)):=HL3.out.alloc _;go_roundw;case rel=>exact⟨_,hLf,HY.out⟩
 rw [hLf.left (hLf.old r hrlt |>.trans mp)];exact hme
end
section
open Go.RowKit
theorem Jb(p q:Addr)(w:World):
  CallsD Tryz.prog 114 #[.pointer (some p),.pointer (some q)] .returning w fun e u' w'=>e=.returned (.tuple #[])∧u'=.returning∧w'=w.alloc (.cells #[.int .i64 0,.int .i64 0] 188):=by
 have hta:∀w,(Instr.typeAssert .nilIface 20 188 true).run Tryz.prog w=.ok (.tuple #[.agg #[.int .i64 0,.int .i64 0],.bool false]) w:=fun _=>by kernel_rfl
 refine callsD_of_wpS Tryz.func114 rfl fun c₀ cs hu=>?_;apply wpS_seq;apply wpS_region;simp [wpOpsS,go_sem,recoverD,hu,Tryz.ntmps114,Exit.thenS,hta];apply wpS_seq;apply wpS_region;simp [wpOpsS,go_sem,Exit.thenS];refine wpS_cond (t:=false) (by simp [Act.eval,Array.replicate]) ?_;simp only [Bool.false_eq_true,if_false];refine wpS_of_wp (wp_skip ?_);cases c₀;simp_all [bodyPostS,results,Tryz.results114]
theorem Qo(v0 v1 v2 v3:Value)(w:World)(U:World→Prop)
  (h115:Calls Tryz.prog 115 #[.agg #[v0,v1,v2,v3]] (((w.alloc (.cells #[v0,v1,v2,v3] 29)).alloc (.cells #[.int .i64 0] 91)).alloc (.cells #[.int .i64 0] 3)) fun e w1=>(∃v,e=.returned v)∧U w1)
  (hU:∀w1,U w1→w1.cell? ⟨w.heap.size+1,0,none⟩=some (.int .i64 0)∧w1.frozen? ⟨w.heap.size+1,0,none⟩=false∧w1.cell? ⟨w.heap.size+2,0,none⟩=some (.int .i64 0)∧w1.frozen? ⟨w.heap.size+2,0,none⟩=false) :
  Calls Tryz.prog 76 #[.agg #[v0,v1,v2,v3]] w fun e w'=>e=.returned (.tuple #[.int .i64 0,.int .i64 0])∧∃w1,U w1∧
   w'=((w1.setCell ⟨w.heap.size+1,0,none⟩ (.int .i64 0)).setCell ⟨w.heap.size+2,0,none⟩ (.int .i64 0)).alloc (.cells #[.int .i64 0,.int .i64 0] 188):=by
 have IX:∀(fn:Fn) (first cap:Array Value) (w:World),(Instr.makeFunc fn first cap).run Tryz.prog w=.ok (.func fn first cap) w:=fun _ _ _ _=>rfl;go_enter_defers Tryz.func76,Tryz.ntmps76;go_wp2_with (go_at_call 115;refine h115.mono ?_;rintro e w1 ⟨⟨v,rfl⟩,hu⟩;obtain⟨a1,a2,a3,a4⟩:=hU w1 hu)
 have b1:(w1.setCell ⟨w.heap.size+1,0,none⟩ (.int .i64 0)).setCell ⟨w.heap.size+1+1,0,none⟩ (.int .i64 0)=(w1.setCell ⟨w.heap.size+1,0,none⟩ (.int .i64 0)).setCell ⟨w.heap.size+2,0,none⟩ (.int .i64 0):=rfl;rw [b1];obtain⟨w2,hw2⟩:∃w2,w2=(w1.setCell ⟨w.heap.size+1,0,none⟩ (.int .i64 0)).setCell ⟨w.heap.size+2,0,none⟩ (.int .i64 0):=⟨_,rfl⟩;have c1:w2.cell? ⟨w.heap.size+1,0,none⟩=some (.int .i64 0):=by rw [hw2];simp [go_sem,a1]
 have c2:w2.cell? ⟨w.heap.size+1+1,0,none⟩=some (.int .i64 0):=by rw [hw2];simp [go_sem,a3]
 rw [←hw2];have l1:w.heap.size+1+1<w2.heap.size:=block_lt_of_cell c2;refine leaves_cons (f:=114) (args:=#[.pointer (some ⟨w.heap.size+1,0,none⟩),.pointer (some ⟨w.heap.size+1+1,0,none⟩)]) (by simp) (by simp [go_sem]) ?_;refine (Jb ⟨w.heap.size+1,0,none⟩ ⟨w.heap.size+1+1,0,none⟩ _).mono ?_;rintro e u' w'' ⟨rfl,rfl,rfl⟩;have k1:(w2.alloc (.cells #[.int .i64 0,.int .i64 0] 188)).cell? ⟨w.heap.size+1,0,none⟩=some (.int .i64 0):=by rw [←c1];simp only [World.cell?];rw [heap_alloc_old _ _ (by omega)]
 have k2:(w2.alloc (.cells #[.int .i64 0,.int .i64 0] 188)).cell? ⟨w.heap.size+1+1,0,none⟩=some (.int .i64 0):=by rw [←c2];simp only [World.cell?];rw [heap_alloc_old _ _ l1]
 simp [Leaves,settle,results,Tryz.results76,go_sem,k1,k2];exact⟨w1,hu,by rw [hw2]⟩
end
end Go.Proofs.YtbpklgllihhgpaaGreat
