import Derived.Test.YtbpklgllihhgpaaGreatA21
set_option maxRecDepth 100000
set_option maxHeartbeats 16000000
namespace Go.Proofs.YtbpklgllihhgpaaGreat
open Tryz Go.RowKit Go.Den
theorem Pi(A:Option Addr)(n cap:Nat)(w:World): Calls prog 102 #[.agg #[.slice A n cap]] w fun e w'=>(e=.returned (.agg #[.slice A n cap,(0:Int)])∨e=.returned (.agg #[.slice none 0 0,(2:Int)]))∧bH [] w w':=by
 by_cases h:1024<n
 ·have d1:decide (1024<(n:Int))=true:=aC (by omega);go_enter func102,ntmps102;go_wp2_with fail
  exact ag (v:=.agg #[.slice none 0 0,(2:Int)]) (by simp [results,results102,go_sem]) rfl ⟨.inr rfl,((bH.refl _ _).alloc _).alloc _⟩
 have d1:decide (1024<(n:Int))=false:=ak (by omega);go_enter func102,ntmps102;go_wp2_with fail
 exact ag (v:=.agg #[.slice A n cap,(0:Int)]) (by simp [results,results102,go_sem]) rfl ⟨.inl rfl,((bH.refl _ _).alloc _).alloc _⟩
theorem nX(w:World): dB w none 0 []:=⟨rfl,fun j t h=>by simp at h⟩
theorem PI(ts:List dC)(A:Option Addr)(n cap:Nat)(w:World)(h:dB w A n ts):
  Calls prog 60 #[.agg #[.slice A n cap]] w fun e w'=>(∃A' n' cap' ts',e=.returned (.agg #[.slice A' n' cap'])∧dB w' A' n' ts'∧n'≤1024)∧bH [] w w':=by
 have hV:=fun u (T:bH [] w u)=>qi ts A n cap u (h.turn T);have hle:eu ts=true→n≤1024:=fun hb=>by rw [h.1];unfold eu at hb;simp only [az,decide_eq_true_eq]at hb;exact hb.1
 have HA:=lh h;obtain⟨W,hW⟩:∃W,W=((w.alloc (.cells #[.slice A n cap] 87)).alloc (.cells #[.slice none 0 0] 87)):=⟨_,rfl⟩;have T0:bH [] w W:=hW ▸ ((tR w).alloc _).alloc _;have q0_0:=kU 0 (JK hW).1 rfl;have q1_0:=kU 0 (JK hW).2 rfl;have zf1:∀i,W.frozen? ⟨w.heap.size+1,i,none⟩=false:=fun i=>by rw [hW];simp [go_sem]
 have hWs:W.heap.size=w.heap.size+2:=by rw [hW];simp
 generalize eu ts=b at *;have HV:=lh hV;have HLE:=lh hle;clear hV h hle;cases b with
 | false=>
  go_enter func60,ntmps60;go_upto_region 1 with (fail)
  rw [←hW];clear hW;go_upto_region 2 with (go_at_call 100;refine (HV.o _ T0).mono ?_;rintro e w1 ⟨rfl,ht1⟩)
  obtain⟨hc,hf⟩:=bY ht1;go_wp2_with fail
  have y0:=tq hc q1_0;refine ag (v:=.agg #[.slice none 0 0]) (by simp [results,results60,go_sem,y0]) rfl ⟨⟨none,0,0,[],rfl,nX _,by omega⟩,?_⟩;exact (T0.trans ht1).sc
 | true=>
  go_enter func60,ntmps60;go_upto_region 1 with (fail)
  rw [←hW];clear hW;go_upto_region 2 with (go_at_call 100;refine (HV.o _ T0).mono ?_;rintro e w1 ⟨rfl,ht1⟩)
  obtain⟨hc,hf⟩:=bY ht1;go_wp2_with fail
  have y0:=tq hc q1_0;have TX:=(T0.trans ht1).setCell (a:=⟨w.heap.size+1,0,none⟩) (.slice A n cap) (.inr (by dsimp only;omega));exact ag (v:=.agg #[.slice A n cap]) (by simp [results,results60,go_sem,y0]) rfl ⟨⟨A,n,cap,ts,rfl,HA.o.turn TX,HLE.o trivial⟩,TX⟩
theorem Vx(x y:Int)(w:World): Calls prog 104 #[x,y] w fun e w'=>e=.returned (.bool (decide (0≤x) && decide (x<8) && decide (0≤y) && decide (y<8)))∧w'=w:=by
 by_cases h1:0≤x
 ·by_cases h2:x<8
  ·by_cases h3:0≤y
   ·by_cases h4:y<8;all_goals
     go_enter func104,ntmps104;(go_wp2_with fail);go_ret;exact⟨by simp [h1,h2,h3,h4],rfl⟩
   go_enter func104,ntmps104;(go_wp2_with fail);go_ret;exact⟨by simp;omega,rfl⟩
  go_enter func104,ntmps104;go_wp2_with fail
  go_ret;exact⟨by simp;omega,rfl⟩
 go_enter func104,ntmps104;go_wp2_with fail
 go_ret;exact⟨by simp;omega,rfl⟩
theorem RJ:jo (List.replicate 256 0):=⟨List.length_replicate,fun v hv=>by have:=List.eq_of_mem_replicate hv;omega⟩
theorem PU(ts:List dC)(A:Option Addr)(n cap:Nat)(hn:n≤1024)(x y:Int)(w:World)(h:dB w A n ts):
  Calls prog 59 #[.agg #[.slice A n cap],.agg #[x,y]] w fun e w'=>(∃px,jo px∧e=.returned (tv px))∧bH [] w w':=by
 have ha1:∀u:World,(Instr.alloc 66 true (.tuple #[])).run prog u=.ok (.pointer (some ⟨u,0,none⟩)) (u.alloc (.cells zeroCells66 66)):=fun u=>by have:=ww u;rwa [QQ]at this
 have hA:1≤n→∃g o,A=some ⟨g,o,none⟩∧∀w',bH [] w w'→∀j t,ts[j]?=some t→jo t.px∧w'.rangeAt g (o+j*258) t.row:=fun h1=>h.get h1;have hl:=h.1;obtain⟨W,hW⟩:∃W,W=((w.alloc (.cells #[.slice A n cap] 87)).alloc (.cells #[x,y] 133)).alloc (.cells zeroCells66 66):=⟨_,rfl⟩;have T0:bH [] w W:=hW ▸ ((((tR w).alloc _).alloc _).alloc _);have q0:=kU 0 (DD hW).1 rfl;obtain⟨q1,q2⟩:=WE (DD hW).2.1;have hWs:W.heap.size=w.heap.size+3:=by rw [hW];simp
 have hres:W.heap[w.heap.size+2]?=some (.cells zeroCells66 66 (0,0)):=by rw [hW];have:=heap_alloc_new ((w.alloc (.cells #[.slice A n cap] 87)).alloc (.cells #[x,y] 133)) (.cells zeroCells66 66);simpa using this
 have HA:=lh hA;have HN:=lh hl;clear hA hl h;go_enter func59,ntmps59;go_upto_region 1 with (fail)
 rw [show w.heap.size+1+1=w.heap.size+2 from rfl,←hW];clear hW ha1;have HRES:=lh hres;clear hres;go_wp2_with fail
 go_loopw [5] (fun s5 wr=>∃k:Nat,k≤n∧s5=k∧bH [] W wr) (fun s5 _=>n - (intOf s5).toNat);case atStart=>exact⟨0,by omega,rfl,tR W⟩
 obtain⟨k,hk,rfl,TT⟩:=hrel;obtain⟨hc,hf⟩:=bY TT;by_cases hlt:k<n
 ·obtain⟨g,o,rfl,hR⟩:=HA.o (by omega);have hls:k<ts.length:=by have:=HN.o;omega
  obtain⟨t,ht⟩:∃t,ts[k]?=some t:=⟨ts[k],by simp [hls]⟩;have hRk:=fun w' T=>hR w' T k t ht;obtain⟨ok,hrow⟩:=hRk wr (T0.trans TT);have c0:wr.cell? ⟨g,o+k*258,none⟩=some (.int .i64 t.x):=by simpa using hrow 0 _ rfl
  have c1:wr.cell? ⟨g,o+k*258+1,none⟩=some (.int .i64 t.y):=hrow 1 _ rfl;have HR:=lh hRk;have b0:(0:Int)≤(k:Int):=by omega
  have b1:(k:Int)<(n:Int):=by omega
  clear hR hRk hrow ht hls;generalize hxe:t.x=tx at *;generalize hye:t.y=ty at *;have HX:=lh hxe;have HY:=lh hye;clear hxe hye;go_upto_region 4 with (fail)
  by_cases he:tx=x∧ty=y
  ·obtain⟨rfl,rfl⟩:=he;have e1:tx=tx:=rfl;go_quiet (fail)
   have TV:bH [] W (wr.drewN nq):=TT.drawn nq;generalize wr.drewN nq=V at *;obtain⟨hc,hf⟩:=bY TV;obtain⟨_,hrow⟩:=HR.o V (T0.trans TV);have r2:V.rangeAt g (o+k*258+2) (t.px.map (Value.int .u8)):=fun j v hv=>by have:=hrow (j+2) v (by show (t.px.map (Value.int .u8))[j]?=some v;exact hv);rw [show o+k*258+2+j=o+k*258+(j+2) by omega];exact this
   have hres:V.heap[w.heap.size+2]?=some (.cells zeroCells66 66 (0,0)):=(by rw [TV.old _ (by omega) (by simp)];exact HRES.o);have hl2:(Instr.loadAt 66 (.pointer (some ⟨g,o+k*258+2,none⟩))).run prog V=.ok (.agg ⟨t.px.map (Value.int .u8)⟩) V:=run_loadAt_mid (P:=prog) V _ _ 66 _ _ r2 underlying66 rfl (by rw [aJ,ok.1,iE]);have hst:=jV (ty:=66) (cells:=⟨t.px.map (Value.int .u8)⟩) hres (by
    rw [iE];show some 256=some (t.px.map (Value.int .u8)).length;rw [aJ,ok.1]) (by
    rw [←QQ,vX];show 256=(t.px.map (Value.int .u8)).length;rw [aJ,ok.1]) (by simp [Value.oneCell'])
   have hr2:(V.setRow (w.heap.size+2) ⟨t.px.map (Value.int .u8)⟩).heap[w.heap.size+2]?=some (.cells ⟨t.px.map (Value.int .u8)⟩ 66 (0,0)):=(by simp only [World.setRow,au,if_true,hres];rfl);have hl3:=run_loadVar_row (P:=prog) _ (w.heap.size+2) 66 66 ⟨t.px.map (Value.int .u8)⟩ (0,0) _ hr2 underlying66 rfl (by
    rw [iE];show some 256=some (t.px.map (Value.int .u8)).length;rw [aJ,ok.1])
   have HT:bH [] w (V.setRow (w.heap.size+2) ⟨t.px.map (Value.int .u8)⟩):=(T0.trans TV).setRow _ (.inr (by omega));have HOK:=lh ok;have HPX:Hid (tv t.px=.agg ⟨t.px.map (Value.int .u8)⟩):=lh rfl;clear ok hres hr2 hrow r2 c0 c1 TT HR;generalize (⟨t.px.map (Value.int .u8)⟩:Array Value)=FT at *;go_wp2_with (first
    | (refine qP rfl 66 (.tmp 25) rfl rfl hl2 ?_)
    | (refine bU rfl 66 (.tmp 4) (.tmp 26) rfl rfl rfl hst ?_))
   (try go_frame);refine ag (v:=.agg FT) ?_ rfl ⟨⟨_,HOK.o,by rw [HPX.o]⟩,HT⟩;simp [results,results59,asAddr,hl3]
  have he':tx=x→¬ty=y:=fun a b=>he ⟨a,b⟩;by_cases h1:tx=x
  ·have h2:=he' h1;go_quiet (fail)
   have TV:bH [] W (wr.drewN nq):=TT.drawn nq;(go_wp2_with fail);go_roundw;case rel=>exact⟨k+1,by omega,by go_num,TV⟩
   simp [intOf];omega
  go_quiet (fail)
  have TV:bH [] W (wr.drewN nq):=TT.drawn nq;go_wp2_with fail
  go_roundw;case rel=>exact⟨k+1,by omega,by go_num,TV⟩
  simp [intOf];omega
 obtain rfl:k=n:=by omega
 have hres:wr.heap[w.heap.size+2]?=some (.cells zeroCells66 66 (0,0)):=by rw [TT.old _ (by omega) (by simp)];exact HRES.o
 have hst:=jV (ty:=66) (cells:=zeroCells66) hres (by kernel_rfl) rfl (by kernel_rfl);have hr2:(wr.setRow (w.heap.size+2) zeroCells66).heap[w.heap.size+2]?=some (.cells zeroCells66 66 (0,0)):=by simp only [World.setRow,au,if_true,hres];rfl
 have hl3:=run_loadVar_row (P:=prog) _ (w.heap.size+2) 66 66 zeroCells66 (0,0) _ hr2 underlying66 rfl (by kernel_rfl);have HT:bH [] w (wr.setRow (w.heap.size+2) zeroCells66):=(T0.trans TT).setRow _ (.inr (by omega));clear hres hr2;go_wp2_with (refine bU rfl 66 (.tmp 4) (.tmp 27) rfl rfl rfl hst ?_)
 try go_frame
 refine ag (v:=.agg zeroCells66) ?_ rfl ⟨⟨_,RJ,by rw [KX]⟩,HT⟩;simp [results,results59,asAddr,hl3]
section
open Go.ChangeMaps (setBlock)
def sO(k:Int): Value:=k
theorem mG(k:Int): MapKept.IsKey (.int .i64) (sO k):=rfl
structure lq(w:World)(b:Nat)(D:Int→Option Value): Prop where
 ex:∃es cl,w.heap[b]?=some (.map es cl)∧MapKept.Stamped es cl∧(∀e∈es.toList,∃k,e.key=sO k∧D k=some e.val)∧∀k v,D k=some v→∃e∈es.toList,e.key=sO k∧e.val=v
theorem lq.heap{w w':World}{b:Nat}{D:Int→Option Value}(h:lq w b D)(e:w'.heap[b]?=w.heap[b]?): lq w' b D:=by obtain⟨es,cl,h1,h2⟩:=h.ex;exact⟨es,cl,e.trans h1,h2⟩
theorem lq.lt{w:World}{b:Nat}{D:Int→Option Value}(h:lq w b D): b<w.heap.size:=by obtain⟨es,cl,h1,h2⟩:=h.ex;exact (ae.1 h1).1
theorem lq.turn{w w':World}{b:Nat}{D:Int→Option Value}(h:lq w b D){bs:List Nat}(T:bH bs w w')(hb:b∉bs): lq w' b D:=h.heap (T.old b h.lt hb)
theorem zD{a b:Int}(h:sO a=sO b): a=b:=by injection h
section
variable {es:Array MapEntry} {cl:Nat} {D:Int→Option Value}
theorem zt(h1:∀e∈es.toList,∃k,e.key=sO k∧D k=some e.val){k:Int}(hk:D k=none): Instr.findNow (.int .i64) (sO k) es.toList 0=some none:=by
 rcases MapKept.findNow_spec (mG k) es.toList 0 (fun x hx=>by obtain⟨q,e,_⟩:=h1 x hx;rw [e];exact mG q)with ⟨h2,_⟩ | ⟨j,e,_,h2,h3⟩
 ·exact h2
 obtain⟨q,h4,h5⟩:=h1 e (aH h2);rw [h4]at h3;have hq:q=k:=zD h3;rw [←hq,h5]at hk;cases hk
theorem Au(h1:∀e∈es.toList,∃k,e.key=sO k∧D k=some e.val)(h2:∀k v,D k=some v→∃e∈es.toList,e.key=sO k∧e.val=v){k:Int}{v:Value}(hk:D k=some v):
  ∃j e,Instr.findNow (.int .i64) (sO k) es.toList 0=some (some (j,v))∧es[j]?=some e∧e.key=sO k∧e.val=v:=by
 rcases MapKept.findNow_spec (mG k) es.toList 0 (fun x hx=>by obtain⟨q,e,_⟩:=h1 x hx;rw [e];exact mG q)with ⟨_,h3⟩ | ⟨j,e,h3,h4,h5⟩
 ·obtain⟨e,he,h6,_⟩:=h2 k v hk;exact absurd h6 (h3 e he)
 obtain⟨q,h6,h7⟩:=h1 e (aH h4);have hq:q=k:=zD (h6.symm.trans h5);subst hq;rw [hk]at h7;injection h7 with h7;rw [Nat.zero_add]at h3;exact⟨j,e,by rw [h7];exact h3,by rw [←Array.getElem?_toList];exact h4,h6,h7.symm⟩
end
variable {P:Program} {mt kt et:TypeId}
theorem lq.look{w:World}{b:Nat}{D:Int→Option Value}(h:lq w b D)(hm:P.underlying mt=some (.map kt et))(hd:P.underlying kt=some (.int .i64)){z:Value}(hz:(zeroValue et).run P w=.ok z w)(k:Int):
  (Instr.lookup mt (.map (some b)) k false).run P w=.ok ((D k).getD z) w:=by
 obtain⟨es,cl,h1,h2,h3,h4⟩:=h.ex;show (Instr.lookup mt (.map (some b)) (sO k) false).run P w=_;cases hk:D k with
 | none=>simp [Instr.lookup,run_underlying hm,MapKept.run_getObj_map h1,MapKept.run_checkKey hd (mG k),MapKept.run_findKey hd (zt h3 hk),Result.andThen,hz]
 | some v=>
  obtain⟨j,e,f1,_⟩:=Au h3 h4 hk;simp [Instr.lookup,run_underlying hm,MapKept.run_getObj_map h1,MapKept.run_checkKey hd (mG k),MapKept.run_findKey hd f1,Result.andThen]
theorem lq.lookOk{w:World}{b:Nat}{D:Int→Option Value}(h:lq w b D)(hm:P.underlying mt=some (.map kt et))(hd:P.underlying kt=some (.int .i64)){z:Value}(hz:(zeroValue et).run P w=.ok z w)(k:Int):
  (Instr.lookup mt (.map (some b)) k true).run P w=.ok (.tuple #[(D k).getD z,.bool (D k).isSome]) w:=by
 obtain⟨es,cl,h1,h2,h3,h4⟩:=h.ex;show (Instr.lookup mt (.map (some b)) (sO k) true).run P w=_;cases hk:D k with
 | none=>simp [Instr.lookup,run_underlying hm,MapKept.run_getObj_map h1,MapKept.run_checkKey hd (mG k),MapKept.run_findKey hd (zt h3 hk),Result.andThen,hz]
 | some v=>
  obtain⟨j,e,f1,_⟩:=Au h3 h4 hk;simp [Instr.lookup,run_underlying hm,MapKept.run_getObj_map h1,MapKept.run_checkKey hd (mG k),MapKept.run_findKey hd f1,Result.andThen]
def o6(D:Int→Option Value)(k:Int)(v:Value): Int→Option Value:=fun q=>if q=k then some v else D q
theorem lY(w:World)(b:Nat)(o:Obj): bH [b] w (setBlock w b o):=(bH.refl [b] w).setBlock _ (.inl (by simp))
theorem qO{w:World}{b:Nat}{o o':Obj}(h:w.heap[b]?=some o): (setBlock w b o').heap[b]?=some o':=(MapKept.heap_set h).1
theorem Wq(k:Int)(n:Nat): Instr.sameBits n (sO k) (sO k)=true:=MapKept.sameBits_self (mG k) n
theorem Qd{w:World}{b:Nat}{D:Int→Option Value}{es:Array MapEntry}{cl:Nat}(h1:w.heap[b]?=some (.map es cl))(h2:MapKept.Stamped es cl)(h3:∀e∈es.toList,∃k,e.key=sO k∧D k=some e.val)
  (h4:∀k v,D k=some v→∃e∈es.toList,e.key=sO k∧e.val=v) {k:Int} (hk:D k=none) (v:Value) :
  lq (setBlock w b (.map (es.push { key:=sO k,val:=v,born:=cl }) (cl+1))) b (o6 D k v):=by
 refine⟨_,_,qO h1,MapKept.stamped_push h2 (fun x hx e=>?_),fun e he=>?_,fun q u hq=>?_⟩
 ·obtain⟨q,e1,e2⟩:=h3 x hx;rw [e1]at e;rw [zD e,hk]at e2;cases e2
 ·rw [Array.toList_push,aV,aN]at he;rcases he with he | rfl
  ·obtain⟨q,e1,e2⟩:=h3 e he;refine⟨q,e1,?_⟩;unfold o6;rw [aF,e2];rintro rfl;rw [hk]at e2;cases e2
  exact⟨k,rfl,by unfold o6;rw [aG rfl]⟩
 rw [Array.toList_push];unfold o6 at hq;by_cases e:q=k
 ·subst e;rw [aG rfl]at hq;injection hq with hq;exact⟨_,List.mem_append_right _ (aN.2 rfl),rfl,hq⟩
 rw [aF e]at hq;obtain⟨x,hx,h⟩:=h4 q u hq;exact⟨x,List.mem_append_left _ hx,h⟩
theorem UA{w:World}{b:Nat}{D:Int→Option Value}{es:Array MapEntry}{cl:Nat}(h1:w.heap[b]?=some (.map es cl))(h2:MapKept.Stamped es cl)(h3:∀e∈es.toList,∃k,e.key=sO k∧D k=some e.val)
  (h4:∀k v,D k=some v→∃e∈es.toList,e.key=sO k∧e.val=v) {k:Int} {j:Nat} {e:MapEntry} (hj:es[j]?=some e) (he:e.key=sO k) (v:Value) (f:MapEntry→MapEntry) (hf:f e={ e with key:=sO k,val:=v }) :
  lq (setBlock w b (.map (es.modify j f) cl)) b (o6 D k v):=by
 have hjl:es.toList[j]?=some e:=by rw [Array.getElem?_toList];exact hj
 obtain⟨hlt,hel⟩:=ah.1 hjl;have hm:(es.modify j f).toList=es.toList.take j ++ { e with key:=sO k,val:=v } :: es.toList.drop (j+1):=by rw [Array.toList_modify,List.modify_eq_take_cons_drop hlt,hel,hf]
 have hs:es.toList=es.toList.take j ++ e :: es.toList.drop (j+1):=by rw [←hel,List.getElem_cons_drop,List.take_append_drop]
 obtain⟨s1,s2,s3⟩:=(MapKept.stamped_iff es cl).1 h2;have hne:∀x,x∈es.toList.take j∨x∈es.toList.drop (j+1)→x∈es.toList∧x.key≠sO k:=by
  intro x hx;rw [hs,List.pairwise_append,List.pairwise_cons]at s3;rcases hx with hx | hx
  ·exact⟨List.mem_of_mem_take hx,he ▸ s3.2.2 x hx e (by simp)⟩
  exact⟨List.mem_of_mem_drop hx,he ▸ (s3.2.1.1 x hx).symm⟩
 refine⟨_,_,qO h1,(MapKept.stamped_iff _ _).2 ⟨fun x hx=>?_,?_,?_⟩,fun x hx=>?_,fun q u hq=>?_⟩
 ·rw [hm,aV,aS]at hx;rcases hx with hx | rfl | hx
  ·exact s1 x (List.mem_of_mem_take hx)
  ·exact s1 e (aH hjl)
  exact s1 x (List.mem_of_mem_drop hx)
 ·rw [hm];rw [hs]at s2;simpa using s2
 ·rw [hm];rw [hs,List.pairwise_append,List.pairwise_cons]at s3;rw [List.pairwise_append,List.pairwise_cons];refine⟨s3.1,⟨fun x hx=>?_,s3.2.1.2⟩,fun x hx y hy=>?_⟩
  ·exact he ▸ s3.2.1.1 x hx
  rcases aS.1 hy with rfl | hy
  ·exact he ▸ s3.2.2 x hx e (by simp)
  exact s3.2.2 x hx y (by simp [hy])
 ·rw [hm,aV,aS]at hx;have other:(x∈es.toList.take j∨x∈es.toList.drop (j+1))→∃q,x.key=sO q∧o6 D k v q=some x.val:=by intro hx;obtain⟨a,c⟩:=hne x hx;obtain⟨q,e1,e2⟩:=h3 x a;refine⟨q,e1,?_⟩;unfold o6;rw [aF,e2];rintro rfl;exact c e1
  rcases hx with hx | rfl | hx
  ·exact other (.inl hx)
  ·exact⟨k,rfl,by unfold o6;rw [aG rfl]⟩
  exact other (.inr hx)
 rw [hm];unfold o6 at hq;by_cases eq:q=k
 ·subst eq;rw [aG rfl]at hq;injection hq with hq;exact⟨_,List.mem_append_right _ (List.mem_cons_self ..),rfl,hq⟩
 rw [aF eq]at hq;obtain⟨x,hx,e1,e2⟩:=h4 q u hq;rw [hs,aV,aS]at hx;rcases hx with hx | rfl | hx
 ·exact⟨x,List.mem_append_left _ hx,e1,e2⟩
 ·exact absurd (zD (e1.symm.trans he)) eq
 exact⟨x,List.mem_append_right _ (List.mem_cons_of_mem _ hx),e1,e2⟩
theorem lq.upd{w:World}{b:Nat}{D:Int→Option Value}(h:lq w b D)(hm:P.underlying mt=some (.map kt et))(hd:P.underlying kt=some (.int .i64))(k:Int)(v:Value):
  ∃w',(Instr.mapUpdate mt (.map (some b)) k v).run P w=.ok () w'∧lq w' b (o6 D k v)∧bH [b] w w':=by
 obtain⟨es,cl,h1,h2,h3,h4⟩:=h.ex;cases hk:D k with
 | none=>
  refine⟨_,?_,Qd h1 h2 h3 h4 hk v,lY _ _ _⟩;show (Instr.mapUpdate mt (.map (some b)) (sO k) v).run P w=_;simp [Instr.mapUpdate,run_underlying hm,MapKept.run_getObj_map h1,MapKept.run_checkKey hd (mG k),MapKept.run_findKey hd (zt h3 hk),MapKept.run_setObj_map _ h1,Result.andThen,setBlock]
 | some u=>
  obtain⟨j,e,f1,f2,f3,f4⟩:=Au h3 h4 hk;refine⟨_,?_,UA h1 h2 h3 h4 f2 f3 v (fun e=>{ e with key:=sO k,val:=v }) rfl,lY _ _ _⟩;show (Instr.mapUpdate mt (.map (some b)) (sO k) v).run P w=_;simp [Instr.mapUpdate,run_underlying hm,MapKept.run_getObj_map h1,MapKept.run_checkKey hd (mG k),MapKept.run_findKey hd f1,Instr.keyThatStays,f2,f3,Wq,MapKept.run_setObj_map _ h1,Result.andThen,setBlock]
theorem lq.entry{w:World}{b:Nat}{D:Int→Option Value}(h:lq w b D)(hm:P.underlying mt=some (.map kt et))(hd:P.underlying kt=some (.int .i64)){z:Value}(hz:(zeroValue et).run P w=.ok z w){k:Int}(hk:D k=none)(v:Value):
  ∃s u w',(Instr.mapEntry mt (.map (some b)) k).run P w=.ok (.tuple #[z,s]) u∧bH [b] w u∧(Instr.entryStore mt (.map (some b)) s v).run P u=.ok () w'∧lq w' b (o6 D k v)∧bH [b] w w':=by
 obtain⟨es,cl,h1,h2,h3,h4⟩:=h.ex;obtain⟨u,hu⟩:∃u,u=setBlock w b (.map (es.push { key:=sO k,val:=z,born:=cl }) (cl+1)):=⟨_,rfl⟩;have hub:=qO (o':=.map (es.push { key:=sO k,val:=z,born:=cl }) (cl+1)) h1;rw [←hu]at hub;have hM:=Qd h1 h2 h3 h4 hk z;rw [←hu]at hM;have s1:=((MapKept.stamped_iff es cl).1 h2).1;have hfi:(es.push { key:=sO k,val:=z,born:=cl }).findIdx? (fun e=>(e.born:Int) == (cl:Int))=some es.size:=by rw [Array.findIdx?_eq_some_iff_getElem];refine⟨by simp,by simp,fun j hj=>?_⟩;rw [Array.getElem_push_lt (by omega)];have:=s1 es[j] (by simp);simp;omega
 obtain⟨es2,cl2,g1,g2,g3,g4⟩:=hM.ex;rw [hub]at g1;injection g1 with g1;injection g1 with g1 g1';subst g1;subst g1';have hT:bH [b] w u:=hu ▸ lY w b _;have hM2:=UA hub g2 g3 g4 (j:=es.size) (e:={ key:=sO k,val:=z,born:=cl }) (k:=k) (by simp) rfl v (fun e=>{ e with val:=v }) rfl;have h5:(Instr.mapEntry mt (.map (some b)) (sO k)).run P w=.ok (.tuple #[z,cl]) u:=by rw [hu];simp [Instr.mapEntry,run_underlying hm,MapKept.run_getObj_map h1,MapKept.run_checkKey hd (mG k),MapKept.run_findKey hd (zt h3 hk),MapKept.run_setObj_map _ h1,Result.andThen,setBlock,hz,goInt]
 have h6:(Instr.entryStore mt (.map (some b)) cl v).run P u=.ok () (setBlock u b (.map ((es.push { key:=sO k,val:=z,born:=cl }).modify es.size fun e=>{ e with val:=v }) (cl+1))):=by simp [Instr.entryStore,asInt,asIntOf,MapKept.run_getObj_map hub,hfi,MapKept.run_setObj_map _ hub,Result.andThen,setBlock]
 have e:o6 (o6 D k z) k v=o6 D k v:=by funext q;unfold o6;by_cases h:q=k <;> simp [h]
 rw [e]at hM2;exact⟨cl,u,_,h5,hT,h6,hM2,hT.trans (lY u b _)⟩
end
end Go.Proofs.YtbpklgllihhgpaaGreat
