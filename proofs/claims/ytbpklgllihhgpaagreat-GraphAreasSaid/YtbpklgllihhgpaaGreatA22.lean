import Derived.Great.BuildSlice
import Derived.Test.YtbpklgllihhgpaaGreatA21
set_option maxRecDepth 100000
set_option maxHeartbeats 16000000
namespace Go.Proofs.YtbpklgllihhgpaaGreat
open Tryz Go.RowKit Go.Den
theorem dn.cell{w:World}{A:Option Addr}{n:Nat}{c:List Int}(h:dn w A n c)(h1:1≤n): ∃g o,A=some ⟨g,o,none⟩∧∀w',bH [] w w'→∀j,j<n→w'.cell? ⟨g,o+j,none⟩=some (.int .i64 (c.getD j 0)):=by obtain⟨g,o,rfl,_⟩:=h.2 0 (by omega);refine⟨g,o,rfl,fun w' T j hj=>?_⟩;obtain⟨g',o',e,hc⟩:=h.2 j hj;injection e with e;injection e with e1 e2 e3;subst e1;subst e2;rw [(bY T).1 _ _ (ai hc)];exact hc
theorem KG(c:List Int)(x:Int)(A:Option Addr)(n cap:Nat)(hb:n≤1000000000)(w:World)(h:dn w A n c):
  Calls prog 73 #[.slice A n cap,x] w fun e w'=>e=.returned (.bool (decide (x∈c)))∧w'=w:=by
 have hn:=h.1;have hC:=fun h1=>h.cell h1;have HC:=lh hC;have HN:=lh hn;clear hC hn h;go_enter func73,ntmps73;go_wp2_with fail
 go_loop [5] (fun s5=>∃k:Nat,k≤n∧s5=k∧∀i,i<k→c.getD i 0≠x) (fun s5=>n - (intOf s5).toNat);case atStart=>exact⟨0,by omega,rfl,fun i hi=>absurd hi (aU i)⟩
 obtain⟨k,hk,rfl,hall⟩:=hrel;have HALL:=lh hall;clear hall;by_cases hlt:k<n
 ·obtain⟨g,o,rfl,hA⟩:=HC.o (by omega);have hcell:=hA w (tR w) k hlt;clear hA;have hmem:c.getD k 0∈c:=by have:k<c.length:=(by have:=HN.o;omega);simp [List.getD,this]
  have HM:=lh hmem;clear hmem;generalize hz:c.getD k 0=z at *;have HZ:=lh hz;clear hz;have b0:(0:Int)≤(k:Int):=by omega
  have b1:(k:Int)<(n:Int):=by omega
  by_cases h0:z=x
  ·subst h0;(go_wp2_with fail);go_ret;exact⟨by rw [aC HM.o];rfl,rfl⟩
  go_wp2_with fail
  go_round;case rel=>exact⟨k+1,by omega,by go_num,fun i hi=>by
   by_cases h:i<k
   ·exact HALL.o i h
   obtain rfl:i=k:=(by omega);rw [HZ.o];exact h0⟩
  simp [intOf];omega
 obtain rfl:k=n:=by omega
 go_wp2_with fail
 go_ret;refine⟨?_,rfl⟩;rw [ak]
 ·rfl
 intro hm;obtain⟨j,hj,rfl⟩:=List.getElem_of_mem hm;exact HALL.o j (by have:=HN.o;omega) (by simp [List.getD,hj])
theorem jg(l:bI)(u:World)(ty:TypeId): (u.alloc (.cells ⟨l.row⟩ ty)).rangeAt u.heap.size 0 l.row:=by intro j v hv;rw [aA _ _ _ _ ty (0,0) (heap_alloc_new u _),Nat.zero_add,←hv];show (l.row.toArray)[j]?=_;rw [List.getElem?_toArray]
theorem kQ{W:World}{b:Nat}{L:List Value}(h:W.rangeAt b 0 L)(k:Nat)(v:Value)(e:L[k]?=some v): W.cell? ⟨b,k,none⟩=some v:=by simpa using h k v e
theorem MS(l:bI)(w:World): Calls prog 113 #[l.v] w fun e w'=>e=.returned (if l.kind=4 then .slice (some ⟨w.heap.size+1,0,none⟩) 1 1 else .slice l.Xi l.Xh l.Xj)∧bH [] w w'∧(l.kind=4→w'.cell? ⟨w.heap.size+1,0,none⟩=some (.int .i64 l.of)):=by
 have hp:=jg l w 89;have p1:=kQ hp 1 l.kind rfl;have p15:=kQ hp 15 (.slice l.Xi l.Xh l.Xj) rfl;have p16:=kQ hp 16 l.of rfl;have T:=(tR w).alloc (.cells ⟨l.row⟩ 89);clear hp;unfold bI.v;generalize l.row=row at *;have hs:(w.alloc (.cells ⟨row⟩ 89)).heap.size=w.heap.size+1:=by show (w.heap.push _).size=_;simp
 by_cases h:l.kind=4
 ·rw [aG h];rw [h]at p1;go_enter func113,ntmps113;go_wp2_with fail
  go_ret;refine⟨rfl,T.alloc _,fun _=>?_⟩;rw [←hs,aA _ _ _ _ 3 (0,0) (heap_alloc_new _ _)];rfl
 rw [aF h];go_enter func113,ntmps113;go_wp2_with fail
 go_ret;exact⟨rfl,T,fun h2=>absurd h2 h⟩
noncomputable def ZL:Array Value:=match (prog.info? 89).map (fun i=>i.zero)with | some (some (Value.agg cs))=>cs | _=>#[]
inductive UG:Ending→Prop where
 | mk (a b:Int) (c:Bool):UG (.returned (.agg #[a,b,.bool c]))
theorem rX:(prog.info? 89).map (fun i=>(i.zero,i.size))=some (some (.agg ZL),31):=by kernel_rfl
theorem UZ:ZL.size=31:=by kernel_rfl
theorem bI.row_len(l:bI): l.row.length=31:=rfl
theorem bI.row_one(l:bI): (⟨l.row⟩:Array Value).all (·.oneCell')=true:=by refine all_oneCell_toArray (cs:=l.row) fun v hv=>?_;unfold bI.row at hv;simp only [aS,aW,or_false]at hv;rcases hv with h | h | h | h | h | h | h | h | h | h | h | h | h | h | h | h | h | h | h | h | h | h | h | h | h | h | h | h | h | h | h <;> subst h <;> rfl
theorem pX(l:bI)(u:World): (Instr.storeAt 89 (.pointer (some ⟨u,0,none⟩)) (.agg ⟨l.row⟩)).run prog (u.alloc (.cells ZL 89))=.ok () (u.alloc (.cells ⟨l.row⟩ 89)):=
 run_storeAt_new u 89 ZL ⟨l.row⟩ (zero_of_info rX).2 (by rw [UZ];rfl) l.row_one
theorem oM(u:World): (Instr.alloc 89 true (.tuple #[])).run prog u=.ok (.pointer (some ⟨u,0,none⟩)) (u.alloc (.cells ZL 89)):=by unfold Instr.alloc;rw [Sem.run_bind,(zero_of_info rX).1];rfl
theorem Jc(d:df)(id:Int)(w:World)(h:d.At w): Calls prog 96 #[d.v,id] w fun e w'=>UG e∧bH [] w w':=by
 have hL:=h.layers;have hsm:=h.small;have hn:=hL.1;have hC:=fun h1=>hL.cell h1;clear h hL;obtain⟨sA,sn,sc,spaces,root,next,lA,ln,lc,layers⟩:=d;simp only [df.v]at *;have HC:=lh hC;have HN:=lh hn;clear hC hn;go_enter func96,ntmps96;go_wp2_with fail
 obtain⟨W,hW⟩:∃W,W=(w.alloc (.cells #[.slice sA sn sc,root,next,.slice lA ln lc] 29)).alloc (.cells #[(0:Int),(0:Int),.bool false] 168):=⟨_,rfl⟩;have TW:bH [] w W:=hW ▸ ((tR w).alloc _).alloc _;have w3:=kU 3 (JK hW).1 rfl;obtain⟨z0,z1,z2⟩:=WP (JK hW).2;have zf:∀i,W.frozen? ⟨w.heap.size+1,i,none⟩=false:=fun i=>by rw [hW];simp [go_sem]
 rw [←hW];go_loopw [5] (fun s5 wr=>∃k:Nat,k≤ln∧s5=k∧bH [] W wr) (fun s5 _=>ln - (intOf s5).toNat);case atStart=>exact⟨0,by omega,rfl,tR W⟩
 obtain⟨k,hk,rfl,T⟩:=hrel;have T1:=TW.trans T;have w3:wr.cell? ⟨w,3,none⟩=some (.slice lA ln lc):=by rw [(bY T).1 _ _ (ai w3)];exact w3
 have hb1:=ai z0;have z0:wr.cell? ⟨w.heap.size+1,0,none⟩=some (.int .i64 0):=by rw [(bY T).1 _ _ hb1];exact z0
 have z1:wr.cell? ⟨w.heap.size+1,1,none⟩=some (.int .i64 0):=by rw [(bY T).1 _ _ hb1];exact z1
 have z2:wr.cell? ⟨w.heap.size+1,2,none⟩=some (.bool false):=by rw [(bY T).1 _ _ hb1];exact z2
 have zf:∀i,wr.frozen? ⟨w.heap.size+1,i,none⟩=false:=fun i=>by rw [(bY T).2 _ _ hb1];exact zf i
 by_cases hlt:k<ln
 ·obtain⟨g,o,rfl,hA⟩:=HC.o (by omega);have hls:k<layers.length:=by have:=HN.o;omega
  obtain⟨l,hl⟩:∃l,layers[k]?=some l:=⟨layers[k],by simp [hls]⟩;obtain⟨hAt,hR⟩:=hA wr T1 k l hl;have hiL:(prog.info? 89).map (·.size)=some l.row.length:=(zero_of_info rX).2;have hst:=pX l wr;have hal:=oM wr;have b0:(0:Int)≤(k:Int):=by omega
  have b1:(k:Int)<(ln:Int):=by omega
  have hp:=jg l wr 89;have p0:=kQ hp 0 l.id rfl;have p1:=kQ hp 1 l.kind rfl;have p15:=kQ hp 15 (.slice l.Xi l.Xh l.Xj) rfl;have TL:=(tR wr).alloc (.cells ⟨l.row⟩ 89);have hkids:=hAt.kids;have hkb:=hAt.Xk;clear hp hAt hA hl hls;generalize l.row=row at *;generalize l.Xi=kA at *;generalize l.Xh=kn at *;generalize l.Xj=kc at *;have HK:=lh hkids;clear hkids;go_wp2_with (first
   | (refine wpList_load_mid rfl 89 _ rfl _ _ rfl _ _ hR underlying89 rfl hiL ?_)
   | (refine bU rfl 89 _ _ rfl rfl rfl hst ?_))
  have hbw:=ai z0;have y0:(wr.alloc (.cells ⟨row⟩ 89)).cell? ⟨w.heap.size+1,0,none⟩=some (.int .i64 0):=by rw [(bY TL).1 _ _ hbw];exact z0
  have y1:(wr.alloc (.cells ⟨row⟩ 89)).cell? ⟨w.heap.size+1,1,none⟩=some (.int .i64 0):=by rw [(bY TL).1 _ _ hbw];exact z1
  have y2:(wr.alloc (.cells ⟨row⟩ 89)).cell? ⟨w.heap.size+1,2,none⟩=some (.bool false):=by rw [(bY TL).1 _ _ hbw];exact z2
  have yf:∀i,(wr.alloc (.cells ⟨row⟩ 89)).frozen? ⟨w.heap.size+1,i,none⟩=false:=fun i=>by rw [(bY TL).2 _ _ hbw];exact zf i
  have TK:bH [] W (wr.alloc (.cells ⟨row⟩ 89)):=T.trans TL;have TX:bH [] w (wr.alloc (.cells ⟨row⟩ 89)):=T1.trans TL;have HK2:Hid (dn (wr.alloc (.cells ⟨row⟩ 89)) kA kn l.kids):=lh (HK.o.turn TL);clear z0 z1 z2 zf hst hal hR hiL w3 HK;generalize wr.heap.size=b at *;generalize wr.alloc (.cells ⟨row⟩ 89)=V at *;clear TL T T1;go_loopw [7] (fun s7 v=>∃j:Nat,j≤kn∧s7=j∧v=V) (fun s7 _=>kn - (intOf s7).toNat);case atStart=>exact⟨0,by omega,rfl,rfl⟩
  obtain⟨j,hj,rfl,rfl⟩:=hrel;by_cases hjl:j<kn
  ·obtain⟨g2,o2,rfl,hA2⟩:=HK2.o.cell (by omega);have hcell:=hA2 _ (tR _) j hjl;clear hA2;generalize l.kids.getD j 0=q at *;have c0:(0:Int)≤(j:Int):=(by omega);have c1:(j:Int)<(kn:Int):=(by omega);by_cases hk2:l.kind=2
   ·rw [hk2]at p1;by_cases hq:q=id
    ·subst hq;(go_wp2_with fail);refine ag (v:=.agg #[l.id,j,.bool true]) (by simp [results,results96,go_sem,y0,y1,y2]) rfl ⟨.mk _ _ _,?_⟩;exact ((TX.sc).sc).sc
    (go_wp2_with fail);go_roundw;case rel=>exact⟨j+1,by omega,by go_num,by first | rfl | trivial⟩
    simp [intOf];omega
   (go_wp2_with fail);exact⟨⟨k+1,by omega,by go_num,TK⟩,by simp [intOf];omega⟩
  obtain rfl:j=kn:=by omega
  go_wp2_with fail
  exact⟨⟨k+1,by omega,by go_num,TK⟩,by simp [intOf];omega⟩
 obtain rfl:k=ln:=by omega
 go_wp2_with fail
 refine ag (v:=.agg #[(0:Int),(0:Int),.bool false]) (by simp [results,results96,go_sem,z0,z1,z2]) rfl ⟨.mk _ _ _,?_⟩;exact ((T1.sc).sc).sc
def Il(w:World)(base:Nat)(v:Value)(xs:List Int): Prop:=qJ w base 3 1 v xs.length (xs.map (Value.int .i64))
theorem V8:(prog.info? 3).map (fun i=>(i.zero,i.size,i.bytes))=some (some (.int .i64 0),1,8):=by kernel_rfl
theorem Qj:∃i,prog.info? 3=some i∧i.zero=some (.int .i64 0)∧i.size=1∧i.bytes=8:=by
 have h:=V8;cases hi:prog.info? 3 with
 | none=>rw [hi]at h;cases h
 | some i=>
  rw [hi]at h;simp only [Option.map_some,Option.some.injEq,Prod.mk.injEq]at h;exact⟨i,rfl,h.1,h.2.1,h.2.2⟩
theorem Il.form{w:World}{base:Nat}{v:Value}{xs:List Int}(h:Il w base v xs): (v=.slice none 0 0∧xs=[])∨∃g o cap,v=.slice (some ⟨g,o,none⟩) xs.length cap∧base≤g∧g<w.heap.size∧xs.length≤cap∧∀j,j<xs.length→w.cell? ⟨g,o+j,none⟩=some (.int .i64 (xs.getD j 0)):=by
 rcases h.2 with ⟨rfl,h0⟩ | ⟨g,off,cap,arr,rfl,hb,hh,hn,hm,hs,hx⟩
 ·exact .inl ⟨rfl,List.eq_nil_of_length_eq_zero h0⟩
 refine .inr ⟨g,off,cap,rfl,hb,(ae.1 hh).1,hn,fun j hj=>?_⟩;rw [aA w g (off+j) arr 3 (0,0) hh];exact hx j _ (by simp [List.getD,hj])
theorem Il.ints{w:World}{base:Nat}{v:Value}{xs:List Int}(h:Il w base v xs): ∃A n cap,v=.slice A n cap∧dn w A n xs:=by
 rcases h.form with ⟨rfl,rfl⟩ | ⟨g,o,cap,rfl,_,_,_,hc⟩
 ·exact⟨none,0,0,rfl,rfl,fun j hj=>absurd hj (aU j)⟩
 exact⟨some ⟨g,o,none⟩,xs.length,cap,rfl,rfl,fun j hj=>⟨g,o,rfl,hc j hj⟩⟩
theorem Il.turn{w w':World}{base:Nat}{v:Value}{xs:List Int}(h:Il w base v xs)(T:bH [] w w'): Il w' base v xs:=
 h.keep fun g hg=>T.old g (h.lt g hg).2.1 (by simp)
theorem iQ{w:World}{base:Nat}{v:Value}{xs c:List Int}(h:Il w base v xs){A:Option Addr}{n cap:Nat}(hi:dn w A n c)(hb:base≤w.heap.size)(h1:xs.length+n≤1000000)(ty:TypeId):
  ∃v' w',(Builtin.append_ #[22,22] ty #[v,.slice A n cap]).run prog w=.ok v' w'∧Il w' base v' (xs ++ c)∧bH (dI v) w w'∧(∀g∈dI v',g∈dI v∨w.heap.size≤g):=by
 obtain⟨i,hI,iz,is,ib⟩:=Qj;have hn:=hi.1;by_cases h0:n=0
 ·subst h0;have hc:c=[]:=List.eq_nil_of_length_eq_zero hn.symm;subst hc;rw [List.append_nil];refine⟨v,w,?_,h,bH.refl _ w,fun g hg=>.inl hg⟩;rcases h.form with ⟨rfl,rfl⟩ | ⟨g,o,cp,rfl,_,_,hle,_⟩
  ·cases A <;> simp [Builtin.append_,run_underlying underlying22,sizeOf,typeInfo,hI,Builtin.lenOf,Builtin.firstCells,loadCells,loadCellsFrom]
  cases A <;> simp [Builtin.append_,run_underlying underlying22,sizeOf,typeInfo,hI,Builtin.lenOf,Builtin.firstCells,hle,storeCells,loadCells,loadCellsFrom]
 obtain⟨g,o,rfl,hcell⟩:=hi.cell (by omega);have hcell:=hcell w (tR w);have hr:=oq (P:=prog) (ty:=ty) underlying22 hI iz is ib rfl (by omega) (v:=v) (n:=xs.length) (xs:=xs.map (Value.int .i64)) h ⟨g,o,none⟩ n cap (c.map (Value.int .i64)) (by rw [aJ,←hn,Nat.mul_one]) (fun j u hu=>by
  have hj:j<c.length:=by have:=(ah.1 hu).1;simpa using this
  rw [Addr.add_lit];rw [hcell j (by omega),←hu];simp [List.getD,hj]) (fun u hu=>by obtain⟨x,_,rfl⟩:=List.mem_map.1 hu;rfl) (aK h1 (by decide)) (by omega) hb
 obtain⟨v',w',e1,e2,e3,e4⟩:=hr;refine⟨v',w',e1,?_,e3,e4⟩;unfold Il;rw [aO,List.map_append,←hn];exact e2
theorem rG{P:Program}{ops:Array Oper}{rest:List Oper}{o:Oper}{a:Act}{w w':World}{Q:Exit→Act→World→Prop}(hg:o.guard=none)(s x:Operand)(t:TypeId){v y v':Value}
  (hop:o.op=Op.call { callee:=Callee.builtin Builtin.append,args:=#[s,x],argTypes:=#[t,t] }) (hs:a.eval s=v) (hx:a.eval x=y)
  (hrun:(Builtin.append_ #[t,t] o.type #[v,y]).run P w=.ok v' w') (K:wpList P ops Q rest (a.put o.dst v') w'):wpList P ops Q (o :: rest) a w:=by
 refine wpList_plain hg fun K' hK'=>?_;unfold Oper.wp;simp [execOp,hop,resolve,invoke,builtin,hs,hx,hrun,Result.andThen];exact hK' _ _ K
theorem yB{ops:Array Oper}{rest:List Oper}{o:Oper}{a:Act}{w:World}{Q:Exit→Act→World→Prop}(hg:o.guard=none)(s x:Operand)
  (hop:o.op=Op.call { callee:=Callee.builtin Builtin.append,args:=#[s,x],argTypes:=#[22,22] }) {base:Nat} {v:Value} {xs c:List Int} (hs:a.eval s=v) (h:Il w base v xs) {A:Option Addr} {n cap:Nat}
  (hx:a.eval x=.slice A n cap) (hi:dn w A n c) (hb:base≤w.heap.size) (h1:xs.length+n≤1000000)
  (K:∀v' w',Il w' base v' (xs ++ c)→bH (dI v) w w'→(∀g∈dI v',g∈dI v∨w.heap.size≤g)→wpList prog ops Q rest (a.put o.dst v') w'):wpList prog ops Q (o :: rest) a w:=by
 obtain⟨v',w',hrun,r1,r2,r3⟩:=iQ h hi hb h1 o.type;exact rG hg s x 22 hop hs hx hrun (K v' w' r1 r2 r3)
theorem mg(u:World): Il (u.alloc (.cells #[] 3)) u.heap.size (.slice (some ⟨u,0,none⟩) 0 0) []:=
 qJ.of_own (World.ownsRow_lit u #[] 0 (aQ _) (by decide) rfl)
theorem Il.base{w:World}{base base':Nat}{v:Value}{xs:List Int}(h:Il w base v xs)(hb:base'≤base): Il w base' v xs:=by
 refine⟨h.1,?_⟩;rcases h.2 with h2 | ⟨g,off,cap,arr,h3,h4,h5⟩
 ·exact .inl h2
 exact .inr ⟨g,off,cap,arr,h3,by omega,h5⟩
theorem fH{W w w':World}{bs:List Nat}(h:bH [] W w)(k:bH bs w w')(hb:∀g∈bs,W.heap.size≤g): bH [] W w':=
 ⟨aK h.size k.size,fun j hj _=>(k.old j (aj hj h.size) (fun hm=>by have:=hb j hm;omega)).trans (h.old j hj (by simp)),k.os.trans h.os,k.tape.trans h.tape,k.output.trans h.output⟩
theorem qj(g o n c:Nat): dI (.slice (some ⟨g,o,none⟩) n c)=[g]:=rfl
def fZ(l:bI): List Int:=if l.kind=4 then [l.of] else l.kids
def eP(ls:List bI)(id:Int): List Int:=match mW (ls.map (·.id)) id with | some k=>(match ls[k]? with | some l=>fZ l | none=>[]) | none=>[]
theorem rV(l:bI)(w:World)(h:l.At w): Calls prog 113 #[l.v] w fun e w'=>∃A n cap,e=.returned (.slice A n cap)∧dn w' A n (fZ l)∧n≤50∧bH [] w w':=by
 refine (MS l w).mono ?_;rintro e w' ⟨rfl,T,h4⟩;unfold fZ;by_cases hk:l.kind=4
 ·simp only [hk,if_true];refine⟨_,_,_,rfl,⟨rfl,fun j hj=>?_⟩,by omega,T⟩;obtain rfl:j=0:=by omega
  exact⟨_,_,rfl,h4 hk⟩
 simp only [hk,if_false];exact⟨_,_,_,rfl,h.kids.turn T,h.Xk,T⟩
theorem MX(d:df)(id:Int)(w:World)(h:d.At w): Calls prog 112 #[d.v,id,.bool false] w fun e w'=>∃v,e=.returned v∧Il w' w.heap.size v (eP d.layers id)∧bH [] w w':=by
 have hA:=uD d id;have hP:=Jc d id;have hC:=fun h1=>h.layers.cell h1;have hn:=h.layers.1;have hlen:d.ids.length=d.ln:=by rw [h.layers.1];simp [df.ids]
 have HAt:=lh h;have hsm:=h.small;have hid:d.ids=d.layers.map (·.id):=rfl;clear h;generalize d.ids=ids at *;obtain⟨sA,sn,sc,spaces,root,next,lA,ln,lc,layers⟩:=d;simp only [df.v]at *;have T0:=(tR w).alloc (.cells #[.slice sA sn sc,root,next,.slice lA ln lc] 29);have w3:(w.alloc (.cells #[.slice sA sn sc,root,next,.slice lA ln lc] 29)).cell? ⟨w,3,none⟩=some (.slice lA ln lc):=by simp [go_sem]
 have HAA:=lh hA;have HPP:=lh hP;have HC:=lh hC;have HN:=lh hn;have HID:=lh hid;clear hA hP hC hn hid;cases hat:mW ids id with
 | none=>
  have hs:eP layers id=[]:=by unfold eP;rw [←HID.o,hat]
  have ham:sQ ids id=-1:=by unfold sQ;rw [hat]
  rw [hs];rw [ham]at HAA;go_enter func112,ntmps112;go_wp2_with (go_at_call 20;refine (HAA.o _ (HAt.o.turn (by assumption))).mono ?_;rintro e w1 ⟨rfl,ht1⟩)
  go_ret;exact⟨_,rfl,qJ.nil _ _ _ _,T0.trans ht1⟩
 | some k=>
  have hk:k<ln:=by have:=(bi.1 hat).1;omega
  have hls:k<layers.length:=by have:=HN.o;omega
  obtain⟨l,hl⟩:∃l,layers[k]?=some l:=⟨layers[k],by simp [hls]⟩;have hs:eP layers id=fZ l:=by unfold eP;rw [←HID.o,hat];simp [hl]
  have ham:sQ ids id=(k:Int):=by unfold sQ;rw [hat]
  rw [hs];rw [ham]at HAA;obtain⟨g,o,rfl,hR⟩:=HC.o (by omega);have HR:Hid (∀w',bH [] w w'→l.At w'∧w'.rangeAt g (o+k*31) l.row):=lh fun w' T=>hR w' T k l hl;have hiL:(prog.info? 89).map (·.size)=some l.row.length:=(zero_of_info rX).2;have b0:(0:Int)≤(k:Int):=by omega
  have b1:(k:Int)<(ln:Int):=by omega
  have HPA:=lh (rV l);clear hR hs ham hat hl hls;go_enter func112,ntmps112;go_upto_region 4 with (go_at_call 20;refine (HAA.o _ (HAt.o.turn (by assumption))).mono ?_;rintro e w1 ⟨rfl,ht1⟩)
  have T1:=T0.trans ht1;have hb3:=ai w3;have TE:=T1.alloc (.cells #[] 3);have TE2:=ht1.alloc (.cells #[] 3);have e3:(w1.alloc (.cells #[] 3)).cell? ⟨w,3,none⟩=some (.slice (some ⟨g,o,none⟩) ln lc):=by rw [(bY TE2).1 _ _ hb3];exact w3
  obtain⟨hLA,hRR⟩:=HR.o _ TE;have hIE:=mg w1;go_upto_region 5 with (first
   | (refine wpList_load_mid rfl 89 _ rfl _ _ rfl _ _ hRR underlying89 rfl hiL ?_)
   | (go_at_call 113;refine (HPA.o _ hLA).mono ?_;rintro e w2 ⟨A2,n2,c2,rfl,hI2,hn2,ht2⟩)
   | (refine yB rfl _ _ rfl rfl (hIE.turn ht2) rfl hI2 (by have:=ht2.size;simp only [aI]at this;omega) (by simp;omega) ?_;intro v' w4 hV hT hB))
  rw [List.nil_append]at hV;have hT:bH [w1.heap.size] w2 w4:=hT;have hV:=hV.base (base':=w.heap.size) (by have:=T1.size;omega);have hz1:(w.alloc (.cells #[.slice sA sn sc,root,next,.slice (some ⟨g,o,none⟩) ln lc] 29)).heap.size=w.heap.size+1:=by simp only [aI]
  have T4:bH [] (w.alloc (.cells #[.slice sA sn sc,root,next,.slice (some ⟨g,o,none⟩) ln lc] 29)) w4:=fH (TE2.trans ht2) hT (fun q hq=>by
   have:q=w1.heap.size:=(by simpa using hq);have:=ht1.size;omega)
  have q0:w4.cell? ⟨w,0,none⟩=some (.slice sA sn sc):=by rw [(bY T4).1 _ _ hb3];simp [go_sem]
  have q1:w4.cell? ⟨w,1,none⟩=some (.int .i64 root):=by rw [(bY T4).1 _ _ hb3];simp [go_sem]
  have q2:w4.cell? ⟨w,2,none⟩=some (.int .i64 next):=by rw [(bY T4).1 _ _ hb3];simp [go_sem]
  have q3:w4.cell? ⟨w,3,none⟩=some (.slice (some ⟨g,o,none⟩) ln lc):=by rw [(bY T4).1 _ _ hb3];exact w3
  have hAt4:=HAt.o.turn (T0.trans T4);have HV:=lh hV;clear hIE hLA hRR TE TE2 e3 hT hB hV hI2 ht2 ht1 T1 w3;go_wp2_with (go_at_call 96;refine (HPP.o _ hAt4).mono ?_;rintro e w5 ⟨hpos,ht5⟩;cases hpos)
  go_ret;exact⟨_,rfl,HV.o.turn (ht5.alloc _),(T0.trans T4).trans (ht5.alloc _)⟩
inductive iY(ls:List bI): Int→Int→Prop where
 | one {x y:Int} (h:y∈eP ls x):iY ls x y
 | tail {x y z:Int} (h:iY ls x y) (k:z∈eP ls y):iY ls x z
structure nZ(ls:List bI)(id:Int)(xs todo:List Int): Prop where
 nd:xs.Nodup
 rx:∀x∈xs,iY ls id x
 rt:∀x∈todo,iY ls id x
 st:∀y∈eP ls id,y∈xs∨y∈todo
 cl:∀x∈xs,∀y∈eP ls x,y∈xs∨y∈todo
 len:todo.length≤50*(xs.length+1)
def oP(ls:List bI): Prop:=ls.length≤50∧∀l∈ls,l.kids.length≤50
theorem yz{l:bI}(h:l.kids.length≤50): (fZ l).length≤50:=by
 unfold fZ;split
 ·simp
 exact h
theorem yM{ls:List bI}{id:Int}: eP ls id=[]∨∃l∈ls,eP ls id=fZ l:=by
 unfold eP;split
 ·split
  ·rename_i k _ l hl;exact .inr ⟨l,aH hl,rfl⟩
  exact .inl rfl
 exact .inl rfl
theorem oJ{ls:List bI}(h:oP ls)(id:Int): (eP ls id).length≤50:=by
 rcases yM (ls:=ls) (id:=id)with e | ⟨l,hl,e⟩
 ·rw [e];simp
 rw [e];exact yz (h.2 l hl)
theorem nZ.start{ls:List bI}(h:oP ls)(id:Int): nZ ls id [] (eP ls id):=
 ⟨List.nodup_nil,fun x hx=>by simp at hx,fun x hx=>.one hx,fun y hy=>.inr hy,fun x hx=>by simp at hx,by have:=oJ h id;simp;omega⟩
theorem nZ.seen{ls:List bI}{id n:Int}{xs rest:List Int}(h:nZ ls id xs (n :: rest))(hn:n∈xs): nZ ls id xs rest:=by
 have go:∀y,y∈xs∨y∈n :: rest→y∈xs∨y∈rest:=by
  rintro y (hy | hy)
  ·exact .inl hy
  rcases aS.1 hy with rfl | hy
  ·exact .inl hn
  exact .inr hy
 exact⟨h.nd,h.rx,fun x hx=>h.rt x (by simp [hx]),fun y hy=>go y (h.st y hy),fun x hx y hy=>go y (h.cl x hx y hy),by have:=h.len;simp at this;omega⟩
theorem nZ.fresh{ls:List bI}(hs:oP ls){id n:Int}{xs rest:List Int}(h:nZ ls id xs (n :: rest))(hn:n∉xs): nZ ls id (xs ++ [n]) (rest ++ eP ls n):=by
 have go:∀y,y∈xs∨y∈n :: rest→y∈xs ++ [n]∨y∈rest ++ eP ls n:=by
  rintro y (hy | hy)
  ·exact .inl (by simp [hy])
  rcases aS.1 hy with rfl | hy
  ·exact .inl (by simp)
  exact .inr (by simp [hy])
 have rn:iY ls id n:=h.rt n (by simp);refine⟨?_,?_,?_,fun y hy=>go y (h.st y hy),?_,?_⟩
 ·rw [List.nodup_append];refine⟨h.nd,by simp,fun a ha b hb=>?_⟩;have:b=n:=by simpa using hb
  subst this;exact fun e=>hn (e ▸ ha)
 ·intro x hx;rcases aV.1 hx with hx | hx
  ·exact h.rx x hx
  have:x=n:=by simpa using hx
  subst this;exact rn
 ·intro x hx;rcases aV.1 hx with hx | hx
  ·exact h.rt x (by simp [hx])
  exact .tail rn hx
 ·intro x hx y hy;rcases aV.1 hx with hx | hx
  ·exact go y (h.cl x hx y hy)
  have:x=n:=by simpa using hx
  subst this;exact .inr (by simp [hy])
 have h1:=h.len;have h2:=oJ hs n;simp at h1 ⊢;omega
theorem nZ.done{ls:List bI}{id:Int}{xs:List Int}(h:nZ ls id xs [])(y:Int): y∈xs↔iY ls id y:=by
 refine⟨h.rx y,fun hr=>?_⟩;induction hr with
 | one hy=>exact (h.st _ hy).resolve_right (by simp)
 | tail _ hz ih=>exact (h.cl _ ih _ hz).resolve_right (by simp)
def Me(ls:List bI): List Int:=(ls.map fZ).flatten
theorem BJ{ls:List bI}{x y:Int}(h:iY ls x y): y∈Me ls:=by
 have key:∀{x y:Int},y∈eP ls x→y∈Me ls:=by
  intro x y hy;rcases yM (ls:=ls) (id:=x)with e | ⟨l,hl,e⟩
  ·rw [e]at hy;simp at hy
  rw [e]at hy;exact List.mem_flatten.2 ⟨fZ l,List.mem_map.2 ⟨l,hl,rfl⟩,hy⟩
 cases h with
 | one h=>exact key h
 | tail _ h=>exact key h
theorem Ia{ls:List bI}(h:oP ls): (Me ls).length≤2500:=by
 have key:∀(m:List bI),(∀l∈m,l.kids.length≤50)→((m.map fZ).flatten).length≤50*m.length:=by
  intro m;induction m with
  | nil=>intro _;simp
  | cons l m ih=>
   intro hm;have h1:=ih fun l hl=>hm l (by simp [hl]);have h2:=yz (hm l (by simp));simp only [List.map_cons,List.flatten_cons,aO,List.length_cons];omega
 have:=key ls h.2;have:=h.1;unfold Me;omega
theorem xC:∀{xs us:List Int},xs.Nodup→(∀x∈xs,x∈us)→xs.length≤us.length
 | [],_,_,_=>Nat.zero_le _
 | x :: xs,us,hn,hs=>by
  have h1:=List.nodup_cons.1 hn;have hx:=hs x (by simp);have h2:=xC (us:=us.erase x) h1.2 fun y hy=>by have hne:y≠x:=fun e=>h1.1 (e ▸ hy);exact (List.mem_erase_of_ne hne).2 (hs y (by simp [hy]))
  rw [List.length_erase_of_mem hx]at h2;have:0<us.length:=List.length_pos_of_mem hx;simp only [List.length_cons];omega
theorem nZ.short{ls:List bI}(h:oP ls){id:Int}{xs todo:List Int}(hi:nZ ls id xs todo): xs.length≤2500∧todo.length≤125050:=by have h1:=xC hi.nd fun x hx=>BJ (hi.rx x hx);have h2:=Ia h;have h3:=hi.len;omega
theorem Il.ints'{w:World}{base:Nat}{A:Option Addr}{n cap:Nat}{xs:List Int}(h:Il w base (.slice A n cap) xs): dn w A n xs:=by obtain⟨A',n',cap',e,h2⟩:=h.ints;injection e with e1 e2 e3;rw [e1,e2];exact h2
theorem Il.tail{w:World}{base g o n cap:Nat}{x:Int}{rest:List Int}(h:Il w base (.slice (some ⟨g,o,none⟩) n cap) (x :: rest)): Il w base (.slice (if cap=1 then some ⟨g,o,none⟩ else some ⟨g,o+1,none⟩) rest.length (cap - 1)) rest:=by
 rcases h.2 with ⟨h1,_⟩ | ⟨g',off,cap',arr,e,hb,hh,hn,hm,hs,hx⟩
 ·cases h1
 injection e with e1 e2 e3;injection e1 with e1;injection e1 with e1 e4 e5;subst e1;subst e4;subst e3;simp only [List.length_cons]at hn;by_cases hc:cap=1
 ·subst hc;have hr:rest=[]:=List.eq_nil_of_length_eq_zero (by omega);subst hr;exact⟨rfl,.inr ⟨g,o,0,arr,rfl,hb,hh,aQ _,Nat.zero_le _,by omega,fun j u hu=>by simp at hu⟩⟩
 rw [aF hc];refine⟨by simp,.inr ⟨g,o+1,cap - 1,arr,rfl,hb,hh,by omega,by omega,by omega,fun j u hu=>?_⟩⟩;have:=hx (j+1) u (by simpa using hu);rw [←this,Nat.add_assoc,Nat.add_comm 1 j]
theorem Il.kept{w w':World}{base:Nat}{v:Value}{xs:List Int}{bs:List Nat}(h:Il w base v xs)(T:bH bs w w')(hd:∀g∈dI v,g∉bs): Il w' base v xs:=
 h.keep fun g hg=>T.old g (h.lt g hg).2.1 (hd g hg)
structure Q7(Wd:World)(ls:List bI)(id:Int)(v u:Value)(wr:World)(xs todo:List Int): Prop where
 iv:Il wr Wd.heap.size v xs
 iu:Il wr Wd.heap.size u todo
 inv:nZ ls id xs todo
 ap:∀g∈dI v,g∉dI u
 t:bH [] Wd wr
theorem Bo{P:Program}{o:Oper}{a:Act}{w w':World}{K:Act→World→Prop}{Q:Exit→Act→World→Prop}{d:Option Tmp}(hd:o.dst=d)(s x:Operand)(t:TypeId){v y v':Value}
  (hop:o.op=Op.call { callee:=Callee.builtin Builtin.append,args:=#[s,x],argTypes:=#[t,t] }) (hs:a.eval s=v) (hx:a.eval x=y)
  (hrun:(Builtin.append_ #[t,t] o.type #[v,y]).run P w=.ok v' w') (h:K (a.put d v') w'):Oper.wp P o a w K Q:=by
 subst hd;unfold Oper.wp;simp [execOp,hop,resolve,invoke,builtin,hs,hx,hrun,Result.andThen];exact h
theorem pF{W w w':World}{b:Nat}(h:bH [] W w)(k:bH [b] w w')(hb:W.heap.size≤b): bH [] W w':=
 fH h k fun g hg=>by
  have:g=b:=by simpa using hg
  omega
theorem gZ{W w w' wx:World}{base:Nat}{v:Value}{xs:List Int}(h:bH [] W w)(k:bH (dI v) w w')(hi:Il wx base v xs)(hb:W.heap.size≤base): bH [] W w':=
 fH h k fun g hg=>aK hb (hi.lt g hg).1
theorem Gs(u:World)(x:Int): dn (u.alloc (.cells #[x] 3)) (some ⟨u,0,none⟩) 1 [x]:=by
 refine⟨rfl,fun j hj=>?_⟩;obtain rfl:j=0:=by omega
 refine⟨_,_,rfl,?_⟩;rw [aA _ _ _ _ 3 (0,0) (heap_alloc_new u _)];rfl
def slen(v:Value): Nat:=match v with | .slice _ n _=>n | _=>0
theorem Il.slen{w:World}{base:Nat}{v:Value}{xs:List Int}(h:Il w base v xs): slen v=xs.length:=by rcases h.form with ⟨rfl,rfl⟩ | ⟨g,o,cap,rfl,_⟩ <;> rfl
theorem G6(d:df)(id:Int)(w:World)(h:d.At w)(hsh:oP d.layers): Calls prog 74 #[d.v,id,.bool false] w fun e w'=>∃v xs,e=.returned v∧Il w' w.heap.size v xs∧(∀y,y∈xs↔iY d.layers id y)∧xs.length≤2500∧bH [] w w':=by
 have hS:=fun id=>MX d id;have HAt:=lh h;clear h;obtain⟨sA,sn,sc,spaces,root,next,lA,ln,lc,layers⟩:=d;simp only [df.v]at *;have T0:=(tR w).alloc (.cells #[.slice sA sn sc,root,next,.slice lA ln lc] 29);have HS:=lh hS;clear hS;go_enter func74,ntmps74;go_wp2_with (go_at_call 112;refine (HS.o _ _ (HAt.o.turn (T0.alloc _))).mono ?_;rintro e w1 ⟨v1,rfl,hV1,ht1⟩)
 have q0:(w.alloc (.cells #[.slice sA sn sc,root,next,.slice lA ln lc] 29)).cell? ⟨w,0,none⟩=some (.slice sA sn sc):=by simp [go_sem]
 have q1:(w.alloc (.cells #[.slice sA sn sc,root,next,.slice lA ln lc] 29)).cell? ⟨w,1,none⟩=some (.int .i64 root):=by simp [go_sem]
 have q2:(w.alloc (.cells #[.slice sA sn sc,root,next,.slice lA ln lc] 29)).cell? ⟨w,2,none⟩=some (.int .i64 next):=by simp [go_sem]
 have q3:(w.alloc (.cells #[.slice sA sn sc,root,next,.slice lA ln lc] 29)).cell? ⟨w,3,none⟩=some (.slice lA ln lc):=by simp [go_sem]
 have hE:=mg (w.alloc (.cells #[.slice sA sn sc,root,next,.slice lA ln lc] 29));have hz:(w.alloc (.cells #[.slice sA sn sc,root,next,.slice lA ln lc] 29)).heap.size=w.heap.size+1:=by simp only [aI]
 generalize w.alloc (.cells #[.slice sA sn sc,root,next,.slice lA ln lc] 29)=Wd at *;have R0:Q7 Wd layers id (.slice (some ⟨w.heap.size+1,0,none⟩) 0 0) v1 w1 [] (eP layers id):=by
  rw [hz]at hE;refine⟨by rw [hz];exact hE.turn ht1,hV1.base (by simp only [aI];omega),.start hsh id,fun g hg hm=>?_,((tR Wd).alloc _).trans ht1⟩;have h1:g=w.heap.size+1:=by simpa [dI,Value.ownBlock]using hg
  have h2:=(hV1.lt g hm).1;simp only [aI]at h2;omega
 clear hE hV1 ht1;go_loopw [7,8] (fun s7 s8 wr=>∃xs todo,Q7 Wd layers id s7 s8 wr xs todo) (fun s7 s8 _=>(2501 - slen s7)*51+slen s8);case atStart=>exact⟨_,_,R0⟩
 clear R0;obtain⟨xs,todo,R⟩:=hrel;have hsz:=R.inv.short hsh;have hlv:=R.iv;have hlu:=R.iu;obtain⟨A7,n7,c7,rfl,hI7⟩:=hlv.ints;have hn7:=hI7.1;cases todo with
 | nil=>
  obtain⟨A8,n8,c8,rfl,hI8⟩:=hlu.ints;obtain rfl:n8=0:=hI8.1;have HR:=lh R;clear R hlv hlu hI7 hI8 hsz;go_wp2_with fail
  go_ret;exact⟨_,_,rfl,HR.o.iv.base (by omega),HR.o.inv.done,(HR.o.inv.short hsh).1,T0.trans HR.o.t⟩
 | cons x rest=>
  rcases hlu.form with ⟨_,h0⟩ | ⟨g,o,cp,rfl,hg,hgl,hcp,hcell⟩
  ·cases h0
  have hx:=hcell 0 (by simp);have hRest:=hlu.tail;have hx:wr.cell? ⟨g,o,none⟩=some (.int .i64 x):=by simpa using hx
  have hsz2:=hsz.2;have hsx:=hsz.1;simp only [List.length_cons]at *;generalize hm:rest.length=m at *;have b0:(0:Int)<(m:Int)+1:=by omega
  have d0:decide ((0:Int)<(m:Int)+1)=true:=aC b0;have b1:(m:Int)+1≤(cp:Int):=by omega
  have hHas:=KG xs x A7 n7 c7 (by omega) wr hI7;have HR:=lh R;have HH:=lh hHas;have HRe:=lh hRest;have HN7:=lh hn7;have HM:=lh hm;clear R hlv hlu hRest hHas hcell hsz hn7 hm;have hbl:∀q∈dI (.slice (if cp=1 then some ⟨g,o,none⟩ else some ⟨g,o+1,none⟩) m (cp - 1)),q=g:=by
   intro q hq;by_cases hc:cp=1
   ·rw [aG hc]at hq;simpa [dI,Value.ownBlock]using hq
   rw [aF hc]at hq;simpa [dI,Value.ownBlock]using hq
  have HBL:=lh hbl;clear hbl;go_upto_region 6 with (fail)
  generalize (if cp=1 then some (Addr.mk g o none) else some (Addr.mk g (o+1) none))=Ar at *;have hap:∀q∈dI (.slice A7 n7 c7),q∉dI (.slice Ar m (cp - 1)):=by intro q hq hq2;have h1:=HBL.o q hq2;subst h1;exact HR.o.ap q hq (by simp [dI,Value.ownBlock])
  have HAP:=lh hap;clear hap;by_cases hmem:x∈xs
  ·rw [aC hmem]at HH;(go_wp2_with (go_at_call 73;refine HH.o.mono ?_;rintro e w2 ⟨rfl,hw⟩;rw [hw];clear hw));refine⟨⟨xs,rest,HR.o.iv,HRe.o,HR.o.inv.seen hmem,HAP.o,HR.o.t⟩,?_⟩;simp [slen]
  rw [ak hmem]at HH;have hI1:=Gs wr x;have hIv:=HR.o.iv.turn ((tR wr).alloc (.cells #[x] 3));have hbs:Wd.heap.size≤wr.heap.size:=HR.o.t.size;go_upto_region 8 with (first
   | (go_at_call 73;refine HH.o.mono ?_;rintro e w2 ⟨rfl,hw⟩;rw [hw];clear hw)
   | (refine yB (v:=.slice A7 n7 c7) rfl _ _ rfl rfl hIv rfl hI1 (by simp only [aI];omega) (by omega) ?_;intro v' V hV hT hB))
  have TV:bH [] Wd V:=fH (HR.o.t.alloc _) hT (fun q hq=>(HR.o.iv.lt q hq).1);have hRest:Il V Wd.heap.size (.slice Ar m (cp - 1)) rest:=(HRe.o.turn ((tR wr).alloc _)).kept hT (fun q hq hq2=>HAP.o q hq2 hq);have D0:Hid (∀w',bH [] V w'→w'.cell? ⟨w,0,none⟩=some (.slice sA sn sc)):=lh fun w' T=>by rw [(bY (TV.trans T)).1 _ _ (ai q0)];exact q0
  have D1:Hid (∀w',bH [] V w'→w'.cell? ⟨w,1,none⟩=some (.int .i64 root)):=lh fun w' T=>by rw [(bY (TV.trans T)).1 _ _ (ai q0)];exact q1
  have D2:Hid (∀w',bH [] V w'→w'.cell? ⟨w,2,none⟩=some (.int .i64 next)):=lh fun w' T=>by rw [(bY (TV.trans T)).1 _ _ (ai q0)];exact q2
  have D3:Hid (∀w',bH [] V w'→w'.cell? ⟨w,3,none⟩=some (.slice lA ln lc)):=lh fun w' T=>by rw [(bY (TV.trans T)).1 _ _ (ai q0)];exact q3
  have hAtV:=HAt.o.turn (T0.trans TV);have HV:=lh hV;clear hIv hI1 hT hB hV;refine cu.start (fun w'=>bH [] V w') 8 (by kernel_rfl) ?_;have hS:=(tR V).drawn 1;change bH [] V V.drew at hS;generalize V.drew=Y at *;refine tk 1 (.slice Ar m (cp - 1)) ?_;go_frame;refine tk 3 (.agg #[.slice sA sn sc,root,next,.slice lA ln lc]) ?_ (hy:=fun w' hw=>by have e0:=D0.out _ hw;have e1:=D1.out _ hw;have e2:=D2.out _ hw;have e3:=D3.out _ hw;go_simp);go_frame;refine tk 4 x ?_;go_frame;refine tk 5 (.bool false) ?_;go_frame;have hY:V.heap.size≤Y.heap.size:=hS.size;have hY:V.heap.size≤Y.heap.size:=hS.size;refine eH 0 fun K hK=>?_;go_simp;refine hK _ _ (fun _=>hS.alloc _) ?_;clear hK K;try go_frame
  obtain⟨v2,w5,e2,E2,t2,f2⟩:=iQ (cap:=cp - 1) (mg Y) (hRest.turn (hS.alloc (.cells #[] 3))).ints' (by simp only [aI];omega) (by have:=HM.o;simp;omega) 22;have t2:bH [Y.heap.size] (Y.alloc (.cells #[] 3)) w5:=t2;have S5:bH [] V w5:=pF (hS.alloc _) t2 hY;refine eH 2 fun K hK=>?_;refine Bo (d:=some 33) rfl _ _ 22 rfl rfl rfl e2 ?_;refine hK _ _ (fun _=>S5) ?_;clear hK K;try go_frame
  rw [List.nil_append]at E2;have hY5:Y.heap.size≤w5.heap.size:=by have:=t2.size;simp only [aI]at this;omega
  refine eH 6 fun K hK=>?_;go_simp;refine (HS.o x _ (hAtV.turn S5)).mono ?_;rintro e w6 ⟨v3,rfl,E3,t3⟩;have S6:=S5.trans t3;refine hK _ _ (fun _=>S6) ?_;clear hK K;try go_frame
  have E26:=E2.turn t3;obtain⟨A3,n3,c3,rfl,hI3⟩:=E3.ints;have hn3:=hI3.1;have hs3:=oJ hsh x;obtain⟨v4,w7,e4,E4,t4,f4⟩:=iQ (cap:=c3) E26 hI3 (by have:=t3.size;omega) (by have:=HM.o;omega) 22;have S7:bH [] V w7:=gZ S6 t4 E26 hY;refine eH 7 fun K hK=>?_;refine Bo (d:=some 38) rfl _ _ 22 rfl rfl rfl e4 ?_;refine hK _ _ (fun _=>S7) ?_;clear hK K;try go_frame
  clear hS;have hS:=S7;refine iZ fun K hK=>?_;go_simp;refine hK _ _ ?_;clear hK K;try go_frame
  go_wp2_with fail
  refine⟨⟨xs ++ [x],rest ++ eP layers x,HV.o.turn hS,E4.base (by have:=hY;have:=TV.size;omega),HR.o.inv.fresh hsh hmem,fun q hq hq2=>?_,TV.trans hS⟩,?_⟩
  ·have h1:=(HV.o.lt q hq).2.1;have h2:=(E4.lt q hq2).1;omega
  have h1:=HV.o.slen;have h2:=E4.slen;have h3:=oJ hsh x;have h4:=HR.o.iv.slen;have h5:=HM.o;have h6:=(HR.o.inv.short hsh).1;have h7:slen (.slice A7 n7 c7)=n7:=rfl;have h8:=HN7.o;simp only [slen,aO,List.length_cons,List.length_nil]at *;omega
theorem kP{s:Nat}: ∀{L:List (List Value)},(∀r∈L,r.length=s)→∀j i,i<s→L.flatten[j*s+i]?=(L[j]?).bind (·[i]?)
 | [],_,j,i,_=>by simp
 | r :: L,h,0,i,hi=>by have hr:=h r (by simp);rw [List.flatten_cons,Nat.zero_mul,Nat.zero_add,bD (by omega)];rfl
 | r :: L,h,j+1,i,hi=>by have hr:=h r (by simp);rw [List.flatten_cons,Nat.add_mul,Nat.one_mul,bG (by omega),hr,show j*s+s+i - s=j*s+i by omega,kP (fun r hr=>h r (by simp [hr])) j i hi];rfl
theorem oz{s:Nat}: ∀{L:List (List Value)},(∀r∈L,r.length=s)→L.flatten.length=L.length*s
 | [],_=>by simp
 | r :: L,h=>by have hr:=h r (by simp);rw [List.flatten_cons,aO,oz (fun r hr=>h r (by simp [hr])),List.length_cons,Nat.add_mul,hr];omega
structure kD where
 e:TypeId
 size:Nat
 bytes:Nat
 Z:Value
 hi:(prog.info? e).map (fun i=>(i.zero,i.size,i.bytes))=some (some Z,size,bytes)
 hz:Z.cells.size=size
 hs:0<size
 hb:size≤1000
 hc:bytes≤4096
theorem kD.info(k:kD): ∃i,prog.info? k.e=some i∧i.zero=some k.Z∧i.size=k.size∧i.bytes=k.bytes:=by
 have h:=k.hi;cases hi:prog.info? k.e with
 | none=>rw [hi]at h;cases h
 | some i=>
  rw [hi]at h;simp only [Option.map_some,Option.some.injEq,Prod.mk.injEq]at h;exact⟨i,rfl,h.1,h.2.1,h.2.2⟩
structure kD.Row(k:kD)(r:List Value): Prop where
 len:r.length=k.size
 one:∀u∈r,u.oneCell'=true
def iK(k:kD)(w:World)(base:Nat)(v:Value)(rows:List (List Value)): Prop:=(∀r∈rows,k.Row r)∧qJ w base k.e k.size v rows.length rows.flatten
theorem iK.turn{k:kD}{w w':World}{base:Nat}{v:Value}{rows:List (List Value)}(h:iK k w base v rows)(T:bH [] w w'): iK k w' base v rows:=
 ⟨h.1,h.2.keep fun g hg=>T.old g (h.2.lt g hg).2.1 (by simp)⟩
theorem iK.kept{k:kD}{w w':World}{base:Nat}{v:Value}{rows:List (List Value)}{bs:List Nat}(h:iK k w base v rows)(T:bH bs w w')(hd:∀g∈dI v,g∉bs): iK k w' base v rows:=
 ⟨h.1,h.2.keep fun g hg=>T.old g (h.2.lt g hg).2.1 (hd g hg)⟩
theorem jU(k:kD)(w:World)(base:Nat): iK k w base (.slice none 0 0) []:=⟨fun r h=>by simp at h,by simp,.inl ⟨rfl,rfl⟩⟩
theorem iK.form{k:kD}{w:World}{base:Nat}{v:Value}{rows:List (List Value)}(h:iK k w base v rows): (v=.slice none 0 0∧rows=[])∨∃g o cap,v=.slice (some ⟨g,o,none⟩) rows.length cap∧base≤g∧g<w.heap.size∧rows.length≤cap∧∀j r,rows[j]?=some r→w.rangeAt g (o+j*k.size) r:=by
 rcases h.2.2 with ⟨rfl,h0⟩ | ⟨g,off,cap,arr,rfl,hb,hh,hn,hm,hs,hx⟩
 ·exact .inl ⟨rfl,List.eq_nil_of_length_eq_zero h0⟩
 refine .inr ⟨g,off,cap,rfl,hb,(ae.1 hh).1,hn,fun j r hr i u hu=>?_⟩;have hi:i<k.size:=by rw [←(h.1 r (aH hr)).len];exact (ah.1 hu).1
 rw [aA w g _ arr k.e (0,0) hh,Nat.add_assoc];refine hx _ u ?_;rw [kP (fun r hr=>(h.1 r hr).len) j i hi,hr];exact hu
theorem zH{k:kD}{t:TypeId}(ht:prog.underlying t=some (.slice k.e)){w:World}{base:Nat}{v:Value}{rows news:List (List Value)}(h:iK k w base v rows)(g o cap m:Nat)(hm:m=news.length)(h1:∀r∈news,k.Row r)
  (hc:∀j r,news[j]?=some r→w.rangeAt g (o+j*k.size) r) (hb:base≤w.heap.size) (hn:rows.length+m≤100000) (ty:TypeId) :
  ∃v' w',(Builtin.append_ #[t,t] ty #[v,.slice (some ⟨g,o,none⟩) m cap]).run prog w=.ok v' w'∧iK k w' base v' (rows ++ news)∧bH (dI v) w w'∧(∀g∈dI v',g∈dI v∨w.heap.size≤g):=by
 obtain⟨i,hI,iz,is,ib⟩:=k.info;have hl:news.flatten.length=m*k.size:=by rw [oz fun r hr=>(h1 r hr).len,hm]
 obtain⟨v',w',e1,e2,e3,e4⟩:=oq (P:=prog) (ty:=ty) ht hI iz is ib k.hz k.hs h.2 ⟨g,o,none⟩ m cap news.flatten hl (fun j u hu=>by
  have hj:j<m*k.size:=by rw [←hl];exact (ah.1 hu).1
  have hq:j / k.size<news.length:=by rw [←hm];exact Nat.div_lt_of_lt_mul (by rw [Nat.mul_comm];exact hj)
  have hr:=Nat.mod_lt j k.hs;have he:j / k.size*k.size+j % k.size=j:=by rw [Nat.mul_comm];exact Nat.div_add_mod j k.size
  rw [←he,kP (fun r hr=>(h1 r hr).len) _ _ hr]at hu;have hn:news[j / k.size]?=some news[j / k.size]:=aB hq;rw [hn]at hu;rw [Addr.add_lit];have:=hc _ _ hn _ u hu;rw [show o+j=o+j / k.size*k.size+j % k.size by omega];exact this) (fun u hu=>by
  obtain⟨r,hr,hu⟩:=List.mem_flatten.1 hu;exact (h1 r hr).one u hu) (aK hn (by decide)) (by
  have:=k.hc;have:(rows.length+m)*k.bytes≤100000*4096:=Nat.mul_le_mul hn this;omega) hb
 refine⟨v',w',e1,⟨fun r hr=>?_,?_⟩,e3,e4⟩
 ·rcases aV.1 hr with hr | hr
  ·exact h.1 r hr
  exact h1 r hr
 rw [aO,List.flatten_append,←hm];exact e2
theorem Nl(n:Nat)(Z:Array Value)(T:List Value)(hZ:Z.size=n)(hT:T.length=n): Instr.fill (fun i=>some (i*n,n)) Z [(0,.agg ⟨T⟩)]=some ⟨T⟩:=by
 have e0:(Value.agg ⟨T⟩).cells=⟨T⟩:=rfl;simp only [Instr.fill,e0,Nat.zero_mul];rw [aF (by simp [hT,hZ])];congr 1;refine Array.ext_getElem? fun i=>?_;rw [←Array.foldl_toList,Array.toList_zipIdx,Go.Den.CV,hT,hZ];by_cases h:i<n
 ·rw [aG (by omega)];simp
 rw [aF (by omega),Array.getElem?_eq_none (by omega)];simp;omega
theorem nG{k:kD}{t:TypeId}(ht:prog.underlying t=some (.slice k.e)){r:List Value}(hr:k.Row r)(w:World): (Instr.buildSlice t 1 #[(0,.agg ⟨r⟩)]).run prog w=.ok (.slice (some ⟨w,0,none⟩) 1 1) (w.alloc (.cells ⟨r⟩ k.e)):=by obtain⟨i,hI,iz,is,ib⟩:=k.info;have h1:=k.hs;have h2:=k.hb;refine run_buildSlice w t k.e 1 _ ⟨r⟩ i _ ht hI iz (by rw [is];omega) (by rw [is];omega) ?_;rw [is];exact Nl k.size _ r (by simp) hr.len
theorem jT(w:World)(r:List Value)(e:TypeId): (w.alloc (.cells ⟨r⟩ e)).rangeAt w.heap.size 0 r:=by intro j u hu;rw [Nat.zero_add,aA _ _ _ ⟨r⟩ e (0,0) (heap_alloc_new w _)];simpa using hu
theorem yR{k:kD}{t:TypeId}(ht:prog.underlying t=some (.slice k.e)){w:World}{base:Nat}{v:Value}{rows:List (List Value)}(h:iK k w base v rows){r:List Value}(hr:k.Row r)(hb:base≤w.heap.size)(hn:rows.length+1≤100000)(ty:TypeId):
  ∃v' w',(Builtin.append_ #[t,t] ty #[v,.slice (some ⟨w,0,none⟩) 1 1]).run prog (w.alloc (.cells ⟨r⟩ k.e))=.ok v' w'∧iK k w' base v' (rows ++ [r])∧bH (dI v) w w'∧(∀g∈dI v',g∈dI v∨w.heap.size≤g):=by
 have T:=(tR w).alloc (.cells ⟨r⟩ k.e);obtain⟨v',w',e1,e2,e3,e4⟩:=zH (news:=[r]) ht (h.turn T) w.heap.size 0 1 1 rfl (fun r' h'=>by
  rw [aN]at h';subst h';exact hr) (fun j r' h'=>by
  cases j with
  | succ j=>simp at h'
  | zero=>
   have h':r=r':=(by simpa using h');subst h';rw [Nat.zero_mul];exact jT w r k.e) (by simp;omega) hn ty
 refine⟨v',w',e1,e2,?_,fun g hg=>(e4 g hg).imp id fun h=>?_⟩
 ·exact ((bH.refl (dI v) w).alloc _).trans e3
 simp at h;omega
theorem bQ{P:Program}{ops:Array Oper}{rest:List Oper}{o:Oper}{a:Act}{w w':World}{Q:Exit→Act→World→Prop}{v:Value}(hg:o.guard=none)(hr:(execOp a.eval o).run P w=.ok (.value v) w')(h:wpList P ops Q rest (a.put o.dst v) w'): wpList P ops Q (o :: rest) a w:=
 wpList_plain hg fun K hK=>by unfold Oper.wp;rw [hr];exact hK _ _ h
theorem bZ{P:Program}{o:Oper}{a:Act}{w u:World}{K:Act→World→Prop}{Q:Exit→Act→World→Prop}{d:Option Tmp}(hd:o.dst=d){v:Value}(hr:(execOp a.eval o).run P w=.ok (.value v) u)(h:K (a.put d v) u): o.wp P a w K Q:=by subst hd;unfold Oper.wp;rw [hr];exact h
theorem iU{P:Program}{o:Oper}{a:Act}{w w':World}{t:TypeId}{ps:Array (Nat×Operand)}{vs:Array (Nat×Value)}{v:Value}(ho:o.op=.build t ps)(hp:(ps.map fun (i,x)=>(i,a.eval x))=vs)(hr:(Instr.build t vs).run P w=.ok v w'): (execOp a.eval o).run P w=.ok (.value v) w':=by obtain⟨d,op,ty,pos,af,g⟩:=o;simp only at ho;subst ho;show (Sem.bind (Instr.build t (ps.map fun (i,x)=>(i,a.eval x))) _).run P w=_;rw [hp,Sem.run_bind',hr];rfl
theorem gm{P:Program}{o:Oper}{a:Act}{w w':World}{t:TypeId}{n:Nat}{ps:Array (Nat×Operand)}{vs:Array (Nat×Value)}{v:Value}(ho:o.op=.buildSlice t n ps)(hp:(ps.map fun (i,x)=>(i,a.eval x))=vs)(hr:(Instr.buildSlice t n vs).run P w=.ok v w'): (execOp a.eval o).run P w=.ok (.value v) w':=by obtain⟨d,op,ty,pos,af,g⟩:=o;simp only at ho;subst ho;show (Sem.bind (Instr.buildSlice t n (ps.map fun (i,x)=>(i,a.eval x))) _).run P w=_;rw [hp,Sem.run_bind',hr];rfl
theorem dV{P:Program}{o:Oper}{a:Act}{w w':World}{t:TypeId}{x:Operand}{y v:Value}(ho:o.op=.buildSlice t 1 #[(0,x)])(hx:a.eval x=y)(hr:(Instr.buildSlice t 1 #[(0,y)]).run P w=.ok v w'): (execOp a.eval o).run P w=.ok (.value v) w':=
 gm ho (by simp [hx]) hr
theorem oN{P:Program}{o:Oper}{a:Act}{w w':World}{t:TypeId}{i j:Nat}{x y:Operand}{p q v:Value}(ho:o.op=.build t #[(i,x),(j,y)])(hx:a.eval x=p)(hy:a.eval y=q)(hr:(Instr.build t #[(i,p),(j,q)]).run P w=.ok v w'): (execOp a.eval o).run P w=.ok (.value v) w':=
 iU ho (by simp [hx,hy]) hr
theorem dL{P:Program}{o:Oper}{a:Act}{w w':World}(s x:Operand)(t:TypeId){v y v':Value}(hop:o.op=Op.call { callee:=Callee.builtin Builtin.append,args:=#[s,x],argTypes:=#[t,t] })(hs:a.eval s=v)(hx:a.eval x=y)
  (hrun:(Builtin.append_ #[t,t] o.type #[v,y]).run P w=.ok v' w'):(execOp a.eval o).run P w=.ok (.value v') w':=by
 simp [execOp,hop,resolve,invoke,builtin,hs,hx,hrun,Result.andThen]
section
section
variable {P:Program} {ops:Array Oper} {Q:Exit→Act→World→Prop} {md:Region.Mode} {S:World→Prop} {z:Nat}
theorem cu.two{i j:Nat}{oi oj:Oper}{n:Nat}{done:Array Bool}{a:Act}{w:World}(hi:ops[i]?=some oi)(hj:ops[j]?=some oj)(hr:(Region.ready md ops done == [i,j])=true)(gi:Region.wanted oi (yielded ops a.tmps)=true)(gj:Region.wanted oj (yielded ops a.tmps)=true)
  (h1:∀K:Act→World→Prop,(∀a' w',(i≠z→S w')→cu P md ops Q S z n (done.setIfInBounds i true) a' w'→K a' w')→Oper.wp P oi a w K Q)
  (h2:∀K:Act→World→Prop,(∀a' w',(j≠z→S w')→cu P md ops Q S z n (done.setIfInBounds j true) a' w'→K a' w')→Oper.wp P oj a w K Q):cu P md ops Q S z (n+1) done a w:=by
 have hr':Region.ready md ops done=[i,j]:=by simpa using hr
 refine⟨fun h0=>(by rw [hr']at h0;cases h0),fun q hq=>?_⟩;rw [hr',aS,aN]at hq;rcases hq with rfl | rfl
 ·refine wpOp_step hi fun K hK=>?_;rw [aG gi];exact h1 K fun a' w' hS hA=>hK a' w' ⟨hS,hA⟩
 refine wpOp_step hj fun K hK=>?_;rw [aG gj];exact h2 K fun a' w' hS hA=>hK a' w' ⟨hS,hA⟩
end
theorem di{P:Program}{o:Oper}{a:Act}{w w':World}{t:TypeId}{v:Value}(ho:o.op=.alloc t)(hr:(Instr.alloc t true (.tuple #[])).run P w=.ok v w'): (execOp a.eval o).run P w=.ok (.value v) w':=by simp only [execOp,ho,Sem.run_bind,hr,Result.andThen];rfl
theorem fO{P:Program}{o:Oper}{a:Act}{w w':World}{K:Act→World→Prop}{Q:Exit→Act→World→Prop}{d:Option Tmp}(hd:o.dst=d)(t:TypeId)(x y:Operand)(ho:o.op=.store t x y){p v:Value}(hx:a.eval x=p)(hy:a.eval y=v)(hr:(Instr.storeAt t p v).run P w=.ok () w')(h:K (a.put d undef) w'): o.wp P a w K Q:=by subst hd;unfold Oper.wp;simp only [execOp,ho,hx,hy,Sem.run_bind,hr,Result.andThen];exact h
end
end Go.Proofs.YtbpklgllihhgpaaGreat
