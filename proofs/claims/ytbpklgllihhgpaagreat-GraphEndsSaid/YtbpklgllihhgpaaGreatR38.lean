import Derived.Test.YtbpklgllihhgpaaGreatR14
set_option maxRecDepth 100000
set_option maxHeartbeats 16000000
namespace Go.Proofs.YtbpklgllihhgpaaGreat
open Tryz Go.RowKit Go.Den
open Go.ChangeMaps (setBlock)
def I64(k:Int): Value:=k
theorem isKeyI(k:Int): MapKept.IsKey (.int .i64) (I64 k):=rfl
structure MapI(w:World)(b:Nat)(D:Int→Option Value): Prop where
 ex:∃es cl,w.heap[b]?=some (.map es cl)∧MapKept.Stamped es cl∧(∀e∈es.toList,∃k,e.key=I64 k∧D k=some e.val)∧∀k v,D k=some v→∃e∈es.toList,e.key=I64 k∧e.val=v
theorem MapI.heap{w w':World}{b:Nat}{D:Int→Option Value}(h:MapI w b D)(e:w'.heap[b]?=w.heap[b]?): MapI w' b D:=by obtain⟨es,cl,h1,h2⟩:=h.ex;exact⟨es,cl,e.trans h1,h2⟩
theorem MapI.lt{w:World}{b:Nat}{D:Int→Option Value}(h:MapI w b D): b<w.heap.size:=by obtain⟨es,cl,h1,h2⟩:=h.ex;exact (Array.getElem?_eq_some_iff.1 h1).1
theorem MapI.turn{w w':World}{b:Nat}{D:Int→Option Value}(h:MapI w b D){bs:List Nat}(T:Turn bs w w')(hb:b∉bs): MapI w' b D:=h.heap (T.old b h.lt hb)
theorem I64_inj{a b:Int}(h:I64 a=I64 b): a=b:=by injection h
section
variable {es:Array MapEntry} {cl:Nat} {D:Int→Option Value}
theorem find_no(h1:∀e∈es.toList,∃k,e.key=I64 k∧D k=some e.val){k:Int}(hk:D k=none): Instr.findNow (.int .i64) (I64 k) es.toList 0=some none:=by
 rcases MapKept.findNow_spec (isKeyI k) es.toList 0 (fun x hx=>by obtain⟨q,e,_⟩:=h1 x hx;rw [e];exact isKeyI q)with ⟨h2,_⟩ | ⟨j,e,_,h2,h3⟩
 ·exact h2
 obtain⟨q,h4,h5⟩:=h1 e (List.mem_of_getElem? h2);rw [h4]at h3;have hq:q=k:=I64_inj h3;rw [←hq,h5]at hk;cases hk
theorem find_yes(h1:∀e∈es.toList,∃k,e.key=I64 k∧D k=some e.val)(h2:∀k v,D k=some v→∃e∈es.toList,e.key=I64 k∧e.val=v){k:Int}{v:Value}(hk:D k=some v):
  ∃j e,Instr.findNow (.int .i64) (I64 k) es.toList 0=some (some (j,v))∧es[j]?=some e∧e.key=I64 k∧e.val=v:=by
 rcases MapKept.findNow_spec (isKeyI k) es.toList 0 (fun x hx=>by obtain⟨q,e,_⟩:=h1 x hx;rw [e];exact isKeyI q)with ⟨_,h3⟩ | ⟨j,e,h3,h4,h5⟩
 ·obtain⟨e,he,h6,_⟩:=h2 k v hk;exact absurd h6 (h3 e he)
 obtain⟨q,h6,h7⟩:=h1 e (List.mem_of_getElem? h4);have hq:q=k:=I64_inj (h6.symm.trans h5);subst hq;rw [hk]at h7;injection h7 with h7;rw [Nat.zero_add]at h3;exact⟨j,e,by rw [h7];exact h3,by rw [←Array.getElem?_toList];exact h4,h6,h7.symm⟩
end
variable {P:Program} {mt kt et:TypeId}
theorem MapI.look{w:World}{b:Nat}{D:Int→Option Value}(h:MapI w b D)(hm:P.underlying mt=some (.map kt et))(hd:P.underlying kt=some (.int .i64)){z:Value}(hz:(zeroValue et).run P w=.ok z w)(k:Int):
  (Instr.lookup mt (.map (some b)) k false).run P w=.ok ((D k).getD z) w:=by
 obtain⟨es,cl,h1,h2,h3,h4⟩:=h.ex;show (Instr.lookup mt (.map (some b)) (I64 k) false).run P w=_;cases hk:D k with
 | none=>simp [Instr.lookup,run_underlying hm,MapKept.run_getObj_map h1,MapKept.run_checkKey hd (isKeyI k),MapKept.run_findKey hd (find_no h3 hk),Result.andThen,hz]
 | some v=>
  obtain⟨j,e,f1,_⟩:=find_yes h3 h4 hk;simp [Instr.lookup,run_underlying hm,MapKept.run_getObj_map h1,MapKept.run_checkKey hd (isKeyI k),MapKept.run_findKey hd f1,Result.andThen]
theorem MapI.lookOk{w:World}{b:Nat}{D:Int→Option Value}(h:MapI w b D)(hm:P.underlying mt=some (.map kt et))(hd:P.underlying kt=some (.int .i64)){z:Value}(hz:(zeroValue et).run P w=.ok z w)(k:Int):
  (Instr.lookup mt (.map (some b)) k true).run P w=.ok (.tuple #[(D k).getD z,.bool (D k).isSome]) w:=by
 obtain⟨es,cl,h1,h2,h3,h4⟩:=h.ex;show (Instr.lookup mt (.map (some b)) (I64 k) true).run P w=_;cases hk:D k with
 | none=>simp [Instr.lookup,run_underlying hm,MapKept.run_getObj_map h1,MapKept.run_checkKey hd (isKeyI k),MapKept.run_findKey hd (find_no h3 hk),Result.andThen,hz]
 | some v=>
  obtain⟨j,e,f1,_⟩:=find_yes h3 h4 hk;simp [Instr.lookup,run_underlying hm,MapKept.run_getObj_map h1,MapKept.run_checkKey hd (isKeyI k),MapKept.run_findKey hd f1,Result.andThen]
def updI(D:Int→Option Value)(k:Int)(v:Value): Int→Option Value:=fun q=>if q=k then some v else D q
theorem turn_setBlock(w:World)(b:Nat)(o:Obj): Turn [b] w (setBlock w b o):=(Turn.refl [b] w).setBlock _ (.inl (by simp))
theorem setBlock_at{w:World}{b:Nat}{o o':Obj}(h:w.heap[b]?=some o): (setBlock w b o').heap[b]?=some o':=(MapKept.heap_set h).1
theorem sameI(k:Int)(n:Nat): Instr.sameBits n (I64 k) (I64 k)=true:=MapKept.sameBits_self (isKeyI k) n
theorem push_I{w:World}{b:Nat}{D:Int→Option Value}{es:Array MapEntry}{cl:Nat}(h1:w.heap[b]?=some (.map es cl))(h2:MapKept.Stamped es cl)(h3:∀e∈es.toList,∃k,e.key=I64 k∧D k=some e.val)
  (h4:∀k v,D k=some v→∃e∈es.toList,e.key=I64 k∧e.val=v) {k:Int} (hk:D k=none) (v:Value) :
  MapI (setBlock w b (.map (es.push { key:=I64 k,val:=v,born:=cl }) (cl+1))) b (updI D k v):=by
 refine⟨_,_,setBlock_at h1,MapKept.stamped_push h2 (fun x hx e=>?_),fun e he=>?_,fun q u hq=>?_⟩
 ·obtain⟨q,e1,e2⟩:=h3 x hx;rw [e1]at e;rw [I64_inj e,hk]at e2;cases e2
 ·rw [Array.toList_push,List.mem_append,List.mem_singleton]at he;rcases he with he | rfl
  ·obtain⟨q,e1,e2⟩:=h3 e he;refine⟨q,e1,?_⟩;unfold updI;rw [if_neg,e2];rintro rfl;rw [hk]at e2;cases e2
  exact⟨k,rfl,by unfold updI;rw [if_pos rfl]⟩
 rw [Array.toList_push];unfold updI at hq;by_cases e:q=k
 ·subst e;rw [if_pos rfl]at hq;injection hq with hq;exact⟨_,List.mem_append_right _ (List.mem_singleton.2 rfl),rfl,hq⟩
 rw [if_neg e]at hq;obtain⟨x,hx,h⟩:=h4 q u hq;exact⟨x,List.mem_append_left _ hx,h⟩
theorem mod_I{w:World}{b:Nat}{D:Int→Option Value}{es:Array MapEntry}{cl:Nat}(h1:w.heap[b]?=some (.map es cl))(h2:MapKept.Stamped es cl)(h3:∀e∈es.toList,∃k,e.key=I64 k∧D k=some e.val)
  (h4:∀k v,D k=some v→∃e∈es.toList,e.key=I64 k∧e.val=v) {k:Int} {j:Nat} {e:MapEntry} (hj:es[j]?=some e) (he:e.key=I64 k) (v:Value) (f:MapEntry→MapEntry) (hf:f e={ e with key:=I64 k,val:=v }) :
  MapI (setBlock w b (.map (es.modify j f) cl)) b (updI D k v):=by
 have hjl:es.toList[j]?=some e:=by rw [Array.getElem?_toList];exact hj
 obtain⟨hlt,hel⟩:=List.getElem?_eq_some_iff.1 hjl;have hm:(es.modify j f).toList=es.toList.take j ++ { e with key:=I64 k,val:=v } :: es.toList.drop (j+1):=by rw [Array.toList_modify,List.modify_eq_take_cons_drop hlt,hel,hf]
 have hs:es.toList=es.toList.take j ++ e :: es.toList.drop (j+1):=by rw [←hel,List.getElem_cons_drop,List.take_append_drop]
 obtain⟨s1,s2,s3⟩:=(MapKept.stamped_iff es cl).1 h2;have hne:∀x,x∈es.toList.take j∨x∈es.toList.drop (j+1)→x∈es.toList∧x.key≠I64 k:=by
  intro x hx;rw [hs,List.pairwise_append,List.pairwise_cons]at s3;rcases hx with hx | hx
  ·exact⟨List.mem_of_mem_take hx,he ▸ s3.2.2 x hx e (by simp)⟩
  exact⟨List.mem_of_mem_drop hx,he ▸ (s3.2.1.1 x hx).symm⟩
 refine⟨_,_,setBlock_at h1,(MapKept.stamped_iff _ _).2 ⟨fun x hx=>?_,?_,?_⟩,fun x hx=>?_,fun q u hq=>?_⟩
 ·rw [hm,List.mem_append,List.mem_cons]at hx;rcases hx with hx | rfl | hx
  ·exact s1 x (List.mem_of_mem_take hx)
  ·exact s1 e (List.mem_of_getElem? hjl)
  exact s1 x (List.mem_of_mem_drop hx)
 ·rw [hm];rw [hs]at s2;simpa using s2
 ·rw [hm];rw [hs,List.pairwise_append,List.pairwise_cons]at s3;rw [List.pairwise_append,List.pairwise_cons];refine⟨s3.1,⟨fun x hx=>?_,s3.2.1.2⟩,fun x hx y hy=>?_⟩
  ·exact he ▸ s3.2.1.1 x hx
  rcases List.mem_cons.1 hy with rfl | hy
  ·exact he ▸ s3.2.2 x hx e (by simp)
  exact s3.2.2 x hx y (by simp [hy])
 ·rw [hm,List.mem_append,List.mem_cons]at hx;have other:(x∈es.toList.take j∨x∈es.toList.drop (j+1))→∃q,x.key=I64 q∧updI D k v q=some x.val:=by intro hx;obtain⟨a,c⟩:=hne x hx;obtain⟨q,e1,e2⟩:=h3 x a;refine⟨q,e1,?_⟩;unfold updI;rw [if_neg,e2];rintro rfl;exact c e1
  rcases hx with hx | rfl | hx
  ·exact other (.inl hx)
  ·exact⟨k,rfl,by unfold updI;rw [if_pos rfl]⟩
  exact other (.inr hx)
 rw [hm];unfold updI at hq;by_cases eq:q=k
 ·subst eq;rw [if_pos rfl]at hq;injection hq with hq;exact⟨_,List.mem_append_right _ (List.mem_cons_self ..),rfl,hq⟩
 rw [if_neg eq]at hq;obtain⟨x,hx,e1,e2⟩:=h4 q u hq;rw [hs,List.mem_append,List.mem_cons]at hx;rcases hx with hx | rfl | hx
 ·exact⟨x,List.mem_append_left _ hx,e1,e2⟩
 ·exact absurd (I64_inj (e1.symm.trans he)) eq
 exact⟨x,List.mem_append_right _ (List.mem_cons_of_mem _ hx),e1,e2⟩
theorem MapI.upd{w:World}{b:Nat}{D:Int→Option Value}(h:MapI w b D)(hm:P.underlying mt=some (.map kt et))(hd:P.underlying kt=some (.int .i64))(k:Int)(v:Value):
  ∃w',(Instr.mapUpdate mt (.map (some b)) k v).run P w=.ok () w'∧MapI w' b (updI D k v)∧Turn [b] w w':=by
 obtain⟨es,cl,h1,h2,h3,h4⟩:=h.ex;cases hk:D k with
 | none=>
  refine⟨_,?_,push_I h1 h2 h3 h4 hk v,turn_setBlock _ _ _⟩;show (Instr.mapUpdate mt (.map (some b)) (I64 k) v).run P w=_;simp [Instr.mapUpdate,run_underlying hm,MapKept.run_getObj_map h1,MapKept.run_checkKey hd (isKeyI k),MapKept.run_findKey hd (find_no h3 hk),MapKept.run_setObj_map _ h1,Result.andThen,setBlock]
 | some u=>
  obtain⟨j,e,f1,f2,f3,f4⟩:=find_yes h3 h4 hk;refine⟨_,?_,mod_I h1 h2 h3 h4 f2 f3 v (fun e=>{ e with key:=I64 k,val:=v }) rfl,turn_setBlock _ _ _⟩;show (Instr.mapUpdate mt (.map (some b)) (I64 k) v).run P w=_;simp [Instr.mapUpdate,run_underlying hm,MapKept.run_getObj_map h1,MapKept.run_checkKey hd (isKeyI k),MapKept.run_findKey hd f1,Instr.keyThatStays,f2,f3,sameI,MapKept.run_setObj_map _ h1,Result.andThen,setBlock]
theorem MapI.entry{w:World}{b:Nat}{D:Int→Option Value}(h:MapI w b D)(hm:P.underlying mt=some (.map kt et))(hd:P.underlying kt=some (.int .i64)){z:Value}(hz:(zeroValue et).run P w=.ok z w){k:Int}(hk:D k=none)(v:Value):
  ∃s u w',(Instr.mapEntry mt (.map (some b)) k).run P w=.ok (.tuple #[z,s]) u∧Turn [b] w u∧(Instr.entryStore mt (.map (some b)) s v).run P u=.ok () w'∧MapI w' b (updI D k v)∧Turn [b] w w':=by
 obtain⟨es,cl,h1,h2,h3,h4⟩:=h.ex;obtain⟨u,hu⟩:∃u,u=setBlock w b (.map (es.push { key:=I64 k,val:=z,born:=cl }) (cl+1)):=⟨_,rfl⟩;have hub:=setBlock_at (o':=.map (es.push { key:=I64 k,val:=z,born:=cl }) (cl+1)) h1;rw [←hu]at hub;have hM:=push_I h1 h2 h3 h4 hk z;rw [←hu]at hM;have s1:=((MapKept.stamped_iff es cl).1 h2).1;have hfi:(es.push { key:=I64 k,val:=z,born:=cl }).findIdx? (fun e=>(e.born:Int) == (cl:Int))=some es.size:=by rw [Array.findIdx?_eq_some_iff_getElem];refine⟨by simp,by simp,fun j hj=>?_⟩;rw [Array.getElem_push_lt (by omega)];have:=s1 es[j] (by simp);simp;omega
 obtain⟨es2,cl2,g1,g2,g3,g4⟩:=hM.ex;rw [hub]at g1;injection g1 with g1;injection g1 with g1 g1';subst g1;subst g1';have hT:Turn [b] w u:=hu ▸ turn_setBlock w b _;have hM2:=mod_I hub g2 g3 g4 (j:=es.size) (e:={ key:=I64 k,val:=z,born:=cl }) (k:=k) (by simp) rfl v (fun e=>{ e with val:=v }) rfl;have h5:(Instr.mapEntry mt (.map (some b)) (I64 k)).run P w=.ok (.tuple #[z,cl]) u:=by rw [hu];simp [Instr.mapEntry,run_underlying hm,MapKept.run_getObj_map h1,MapKept.run_checkKey hd (isKeyI k),MapKept.run_findKey hd (find_no h3 hk),MapKept.run_setObj_map _ h1,Result.andThen,setBlock,hz,goInt]
 have h6:(Instr.entryStore mt (.map (some b)) cl v).run P u=.ok () (setBlock u b (.map ((es.push { key:=I64 k,val:=z,born:=cl }).modify es.size fun e=>{ e with val:=v }) (cl+1))):=by simp [Instr.entryStore,asInt,asIntOf,MapKept.run_getObj_map hub,hfi,MapKept.run_setObj_map _ hub,Result.andThen,setBlock]
 have e:updI (updI D k z) k v=updI D k v:=by funext q;unfold updI;by_cases h:q=k <;> simp [h]
 rw [e]at hM2;exact⟨cl,u,_,h5,hT,h6,hM2,hT.trans (turn_setBlock u b _)⟩
end Go.Proofs.YtbpklgllihhgpaaGreat
