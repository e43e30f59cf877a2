import Derived.Test.YtbpklgllihhgpaaGreatR47
import Derived.Test.YtbpklgllihhgpaaGreatR48
import Derived.Test.YtbpklgllihhgpaaGreatR49
set_option maxRecDepth 100000
set_option maxHeartbeats 16000000
namespace Go.Proofs.YtbpklgllihhgpaaGreat
open Tryz Go.RowKit Go.Den
theorem catch_rest(p q:Addr)(w:World):
  CallsD prog 114 #[.pointer (some p),.pointer (some q)] .returning w fun e u' w'=>e=.returned (.tuple #[])∧u'=.returning∧w'=w.alloc (.cells #[(0:Int),(0:Int)] 188):=by
 have hta:∀w,(Instr.typeAssert .nilIface 20 188 true).run prog w=.ok (.tuple #[.agg #[(0:Int),(0:Int)],.bool false]) w:=fun _=>by kernel_rfl
 refine callsD_of_wpS func114 rfl fun c₀ cs hu=>?_;apply wpS_seq;apply wpS_region;simp [wpOpsS,go_sem,recoverD,hu,ntmps114,Exit.thenS,hta];apply wpS_seq;apply wpS_region;simp [wpOpsS,go_sem,Exit.thenS];refine wpS_cond (t:=false) (by simp [Act.eval,Array.replicate]) ?_;simp only [Bool.false_eq_true,if_false];refine wpS_of_wp (wp_skip ?_);cases c₀;simp_all [bodyPostS,results,results114]
theorem catch_hit(pb qb:Nat)(hpq:pb≠qb)(e id x y:Int)(older:List PanicEntry)(w:World)(hp:w.cell? ⟨pb,0,none⟩=some (.int .i64 x))(fp:w.frozen? ⟨pb,0,none⟩=false)(hq:w.cell? ⟨qb,0,none⟩=some (.int .i64 y))(fq:w.frozen? ⟨qb,0,none⟩=false):
  CallsD prog 114 #[.pointer (some ⟨pb,0,none⟩),.pointer (some ⟨qb,0,none⟩)] (.panicking ({ v:=defect e id,recovered:=false } :: older)) w fun r u' w'=>
   r=.returned (.tuple #[])∧u'=.panicking ({ v:=defect e id,recovered:=true } :: older)∧w'.cell? ⟨pb,0,none⟩=some (.int .i64 e)∧w'.cell? ⟨qb,0,none⟩=some (.int .i64 id)∧Turn [pb,qb] w w':=by
 have hta:∀w,(Instr.typeAssert (defect e id) 20 188 true).run prog w=.ok (.tuple #[.agg #[e,id],.bool true]) w:=fun _=>by kernel_rfl
 refine callsD_of_wpS func114 rfl fun c₀ cs hu=>?_;apply wpS_seq;apply wpS_region;simp [wpOpsS,go_sem,recoverD,hu,ntmps114,Exit.thenS,hta];apply wpS_seq;apply wpS_region;simp [wpOpsS,go_sem,Exit.thenS];refine wpS_cond (t:=true) (by simp [Act.eval,Array.replicate]) ?_;simp only [if_true];refine wpS_of_wp ?_;have l1:pb<w.heap.size:=block_lt_of_cell hp;have l2:qb<w.heap.size:=block_lt_of_cell hq;obtain⟨W,hW⟩:∃W,W=w.alloc (.cells #[e,id] 188):=⟨_,rfl⟩;have T0:Turn [] w W:=by rw [hW];exact (tR w).alloc _
 have hb:W.heap[w.heap.size]?=some (.cells #[e,id] 188 (0,0)):=by rw [hW];exact heap_alloc_new _ _
 have c0:=cell_of hb (i:=0) (v:=e) rfl;have c1:=cell_of hb (i:=1) (v:=id) rfl;have p1:=((tcell T0).1 pb 0 l1).trans hp;have p2:=((tcell T0).2 pb 0 l1).trans fp;have q1:=((tcell T0).1 qb 0 l2).trans hq;have q2:=((tcell T0).2 qb 0 l2).trans fq;have T1:Turn [pb,qb] w W:=T0.mono (by simp);have n1:w.heap.size≠pb:=by omega
 have n2:w.heap.size≠qb:=by omega
 rw [←hW];clear hW hb T0 hp fp hq fq hta;generalize w.heap.size=nb at *;simp only [Array.replicate_succ,Array.replicate_zero,List.push_toArray,List.nil_append,List.cons_append,List.append_toArray,List.setIfInBounds_toArray,List.set_cons_zero,List.set_cons_succ];go_region;have z1:((W.setCell ⟨pb,0,none⟩ e).setCell ⟨qb,0,none⟩ id).drew.cell? ⟨pb,0,none⟩=some (.int .i64 e):=by simp [go_sem,p1]
 have z2:((W.setCell ⟨pb,0,none⟩ e).setCell ⟨qb,0,none⟩ id).drew.cell? ⟨qb,0,none⟩=some (.int .i64 id):=by simp [go_sem,q1]
 have T2:Turn [pb,qb] w ((W.setCell ⟨pb,0,none⟩ e).setCell ⟨qb,0,none⟩ id).drew:=((T1.setCell _ (.inl (by simp))).setCell _ (.inl (by simp))).drawn 1;generalize ((W.setCell ⟨pb,0,none⟩ e).setCell ⟨qb,0,none⟩ id).drew=U at *;clear p1 p2 q1 q2 T1 c0 c1 n1 n2 l1 l2;cases c₀;simp_all [bodyPostS,results,results114]
def CheckPost(d:DocM)(bad:Option Nat)(e:Ending): Prop:=match bad with
 | none=>e=.returned (.tuple #[(0:Int),(0:Int)])
 | some i=>∃l,d.layers[i]?=some l∧e=.returned (.tuple #[(1:Int),l.id])
theorem doc_Check(d:DocM)(bad:Option Nat)(w:World)(h:d.At w)(hc:CkIn d bad):
  Calls prog 76 #[d.v] w fun e w'=>CheckPost d bad e∧Turn [] w w':=by
 have hmf:∀(fn:Fn) (first cap:Array Value) (w:World),(Instr.makeFunc fn first cap).run prog w=.ok (.func fn first cap) w:=fun _ _ _ _=>rfl;obtain⟨W,hW⟩:∃W,W=((w.alloc (.cells ⟨d.row⟩ 29)).alloc (.cells #[(0:Int)] 91)).alloc (.cells #[(0:Int)] 3):=⟨_,rfl⟩;have T0:Turn [] w W:=by rw [hW];exact (((tR w).alloc _).alloc _).alloc _
 have x0:W.heap[w.heap.size]?=some (.cells ⟨d.row⟩ 29 (0,0)):=by rw [hW];simp only [heap_at,World.size_alloc];rw [if_neg (by omega),if_neg (by omega),if_pos (by first | trivial | omega)]
 have q0:=cell_of x0 (i:=0) (v:=.slice d.sA d.sn d.sc) rfl;have q1:=cell_of x0 (i:=1) (v:=d.root) rfl;have q2:=cell_of x0 (i:=2) (v:=d.next) rfl;have q3:=cell_of x0 (i:=3) (v:=.slice d.lA d.ln d.lc) rfl;have x1:W.heap[w.heap.size+1]?=some (.cells #[(0:Int)] 91 (0,0)):=by rw [hW];simp only [heap_at,World.size_alloc];rw [if_neg (by omega),if_pos (by first | trivial | omega)]
 have x2:W.heap[w.heap.size+1+1]?=some (.cells #[(0:Int)] 3 (0,0)):=by rw [hW];simp only [heap_at,World.size_alloc];rw [if_pos (by first | trivial | omega)]
 have hck:=doc_check d bad W (h.turn T0) hc;have hcell:∀u,Turn [] W u→u.cell? ⟨w.heap.size+1,0,none⟩=some (.int .i64 0)∧u.frozen? ⟨w.heap.size+1,0,none⟩=false∧u.cell? ⟨w.heap.size+1+1,0,none⟩=some (.int .i64 0)∧u.frozen? ⟨w.heap.size+1+1,0,none⟩=false:=fun u t=>by have y1:=(t.old _ (Array.getElem?_eq_some_iff.1 x1).1 (by simp)).trans x1;have y2:=(t.old _ (Array.getElem?_eq_some_iff.1 x2).1 (by simp)).trans x2;exact⟨cell_of y1 (i:=0) (v:=(0:Int)) rfl,frozen_of y1 0,cell_of y2 (i:=0) (v:=(0:Int)) rfl,frozen_of y2 0⟩
 have l2:w.heap.size+1+1<W.heap.size:=(Array.getElem?_eq_some_iff.1 x2).1;have HCK:=lh hck;have HCE:=lh hcell;have HT0:=lh T0;clear hck hcell T0 x0 x1 x2 h hc;unfold DocM.row at hW;unfold DocM.v at *;cases bad with
 | none=>
  go_enter_defers func76,ntmps76;go_upto_region 2 with fail
  rw [←hW];clear hW;go_wp2_with (go_at_call 115;refine HCK.out.mono ?_;rintro e w1 ⟨⟨tb,rfl⟩,ht⟩;obtain⟨a1,a2,a3,a4⟩:=HCE.out w1 ht)
  obtain⟨w2,hw2⟩:∃w2,w2=(w1.setCell ⟨w.heap.size+1,0,none⟩ (0:Int)).setCell ⟨w.heap.size+1+1,0,none⟩ (0:Int):=⟨_,rfl⟩;have c1:w2.cell? ⟨w.heap.size+1,0,none⟩=some (.int .i64 0):=by rw [hw2];simp [go_sem,a1]
  have c2:w2.cell? ⟨w.heap.size+1+1,0,none⟩=some (.int .i64 0):=by rw [hw2];simp [go_sem,a3]
  have T2:Turn [] w w2:=by rw [hw2];exact ((HT0.out.trans ht).sc).sc
  rw [←hw2];clear hw2;have l1:w.heap.size+1+1<w2.heap.size:=block_lt_of_cell c2;refine leaves_cons (f:=114) (args:=#[.pointer (some ⟨w.heap.size+1,0,none⟩),.pointer (some ⟨w.heap.size+1+1,0,none⟩)]) (by simp) (by simp [go_sem]) ?_;refine (catch_rest ⟨w.heap.size+1,0,none⟩ ⟨w.heap.size+1+1,0,none⟩ _).mono ?_;rintro e u' w'' ⟨rfl,rfl,rfl⟩;have k1:(w2.alloc (.cells #[(0:Int),(0:Int)] 188)).cell? ⟨w.heap.size+1,0,none⟩=some (.int .i64 0):=by rw [←c1];simp only [World.cell?];rw [heap_alloc_old _ _ (by omega)]
  have k2:(w2.alloc (.cells #[(0:Int),(0:Int)] 188)).cell? ⟨w.heap.size+1+1,0,none⟩=some (.int .i64 0):=by rw [←c2];simp only [World.cell?];rw [heap_alloc_old _ _ l1]
  simp [Leaves,settle,results,results76,go_sem,k1,k2];exact⟨rfl,T2.alloc _⟩
 | some i=>
  go_enter_defers func76,ntmps76;go_upto_region 2 with fail
  rw [←hW];clear hW;go_wp2_with (go_at_call 115;refine HCK.out.mono ?_;rintro e w1 ⟨⟨l,hl,rfl⟩,ht⟩;obtain⟨a1,a2,a3,a4⟩:=HCE.out w1 ht)
  refine leaves_cons (f:=114) (args:=#[.pointer (some ⟨w.heap.size+1,0,none⟩),.pointer (some ⟨w.heap.size+1+1,0,none⟩)]) (by simp) (by simp [go_sem]) ?_;refine (catch_hit (w.heap.size+1) (w.heap.size+1+1) (by omega) 1 l.id 0 0 [] _ a1 a2 a3 a4).mono ?_;rintro e u' w2 ⟨rfl,rfl,k1,k2,T2⟩;simp [Leaves,settle,results,results76,go_sem,k1,k2];exact⟨⟨l,hl,rfl⟩,(HT0.out.trans ht).fresh T2 (by simp;omega)⟩
theorem CkIn.ok{d:DocM}(h:CkIn d none): d.Ok:=⟨fun k l hl=>(h.lay k l hl (by simp)).2.1,h.kids rfl,h.clone rfl,fun _ _ _=>h.acy rfl _,h.depth rfl⟩
def depsRes(d:DocM)(bad:Option Nat)(id:Int)(r:Rc): List DepM:=match bad with
 | none=>depsOf d.layers id r
 | some _=>[]
structure GdW(w wr:World)(q:Rc)(c7 c8 p:Nat)(d:DocM)(m:LayerM): Prop where
 t:Turn [] w wr
 h1:wr.heap[w.heap.size+1]?=some (.cells (rcs q) 24 (0,0))
 h7:wr.heap[c7]?=some (.cells ⟨d.row⟩ 107 (0,0))
 h8:wr.heap[c8]?=some (.cells ⟨m.row⟩ 89 (0,0))
 hp:wr.heap[p]?=some (.cells #[.slice none 0 0] 35 (0,0))
 ma:m.At wr
 lt:w.heap.size≤p
theorem GdW.turn{w wr u:World}{q:Rc}{c7 c8 p:Nat}{d:DocM}{m:LayerM}(P:GdW w wr q c7 c8 p d m)(T:Turn [] wr u): GdW w u q c7 c8 p d m:=
 ⟨P.t.trans T,(T.old _ (Array.getElem?_eq_some_iff.1 P.h1).1 (by simp)).trans P.h1,(T.old _ (Array.getElem?_eq_some_iff.1 P.h7).1 (by simp)).trans P.h7,(T.old _ (Array.getElem?_eq_some_iff.1 P.h8).1 (by simp)).trans P.h8,(T.old _ (Array.getElem?_eq_some_iff.1 P.hp).1 (by simp)).trans P.hp,P.ma.turn T,P.lt⟩
theorem GdW.out{w wr:World}{q:Rc}{c7 c8 p:Nat}{d:DocM}{m:LayerM}(P:GdW w wr q c7 c8 p d m): OutW wr p wr.heap.size []:=.nil P.hp
theorem GdW.fin{w wr u:World}{q:Rc}{c7 c8 p:Nat}{d:DocM}{m:LayerM}(P:GdW w wr q c7 c8 p d m){B:Nat}(hB:p<B)(k:Past p B wr u): Turn [] w u:=Past.new P.t k P.lt hB
theorem OwnD_base{w:World}{b c:Nat}{v:Value}{ds:List DepM}(h:OwnD w c v ds)(hb:b≤c): OwnD w b v ds:=Own.base h hb
def outD(lv:List (LayerM×Rc)): List DepM:=(lv.filter (fun x=>x.1.kind≠3)).map fun x=>⟨x.1.id,false,x.2⟩
theorem outD_len(lv:List (LayerM×Rc)): (outD lv).length≤lv.length:=by unfold outD;rw [List.length_map];exact List.length_filter_le ..
theorem outD_step{lv:List (LayerM×Rc)}{i:Nat}{x:LayerM×Rc}(h:lv[i]?=some x): outD (lv.take (i+1))=if x.1.kind≠3 then outD (lv.take i) ++ [⟨x.1.id,false,x.2⟩] else outD (lv.take i):=by obtain⟨hl,rfl⟩:=List.getElem?_eq_some_iff.1 h;unfold outD;rw [List.take_succ_eq_append_getElem hl,List.filter_append,List.map_append];by_cases h3:lv[i].1.kind=3 <;> simp [h3]
theorem LikeL.outD{xs ys:List (LayerM×Rc)}(h:LikeL xs ys): outD ys=outD xs:=by
 induction h with
 | nil=>rfl
 | @cons l m q xs ys hl _ ih=>
  obtain⟨_,e2,e3,_⟩:=like_fields hl;unfold Go.Proofs.YtbpklgllihhgpaaGreat.outD at *;by_cases h3:l.kind=3
  ·rw [List.filter_cons_of_neg (by simp [e2,h3]),List.filter_cons_of_neg (by simp [h3])];exact ih
  rw [List.filter_cons_of_pos (by simp [e2,h3]),List.filter_cons_of_pos (by simp [h3]),List.map_cons,List.map_cons,ih,e3]
structure GpW(w wr:World)(p B:Nat)(A:Option Addr)(lv:List (LayerM×Rc))(ds:List DepM): Prop where
 t:Turn [] w wr
 ow:OutW wr p B ds
 rows:∀(j:Nat) (x:LayerM×Rc),lv[j]?=some x→∃g o,A=some ⟨g,o,none⟩∧g≠p∧g<B∧wr.rangeAt g (o+j*35) (lvRow x)
 lt:w.heap.size≤p
theorem GpW.start{w wr:World}{p:Nat}{A:Option Addr}{lv:List (LayerM×Rc)}(t:Turn [] w wr)(ow:OutW wr p wr.heap.size [])(rows:∀(j:Nat) (x:LayerM×Rc),lv[j]?=some x→∃g o,A=some ⟨g,o,none⟩∧g≠p∧g<wr.heap.size∧wr.rangeAt g (o+j*35) (lvRow x))(lt:w.heap.size≤p): GpW w wr p wr.heap.size A lv (outD (lv.take 0)):=
 ⟨t,ow,rows,lt⟩
theorem OwnV.rows{w:World}{base p:Nat}{A:Option Addr}{n c:Nat}{lv:List (LayerM×Rc)}(h:OwnV w base (.slice A n c) lv)(hp:p<base): ∀(j:Nat) (x:LayerM×Rc),lv[j]?=some x→∃g o,A=some ⟨g,o,none⟩∧g≠p∧g<w.heap.size∧w.rangeAt g (o+j*35) (lvRow x):=by
 intro j x hx;have hr:(lv.map lvRow)[j]?=some (lvRow x):=by rw [List.getElem?_map,hx];rfl
 rcases Own.form h with ⟨_,h0⟩ | ⟨g,o,cap,e,hb,hg,_,hrow⟩
 ·rw [h0]at hr;simp at hr
 injection e with e1 e2 e3;exact⟨g,o,e1,by omega,hg,hrow j _ hr⟩
theorem OwnV.slice{w:World}{base:Nat}{v:Value}{lv:List (LayerM×Rc)}(h:OwnV w base v lv): ∃A n c,v=.slice A n c:=by rcases Own.form h with ⟨e,_⟩ | ⟨_,_,_,e,_⟩ <;> exact⟨_,_,_,e⟩
theorem GpW.past{w wr u:World}{p B:Nat}{A:Option Addr}{lv:List (LayerM×Rc)}{ds ds':List DepM}(P:GpW w wr p B A lv ds)(k:Past p B wr u)(o:OutW u p B ds'): GpW w u p B A lv ds':=by refine⟨Past.new P.t k P.lt P.ow.lt,o,fun j x hx=>?_,P.lt⟩;obtain⟨g,og,e,h1,h2,hr⟩:=P.rows j x hx;refine⟨g,og,e,h1,h2,fun i v hv=>?_⟩;have:=hr i v hv;rw [←this];simp only [World.cell?,k.old h1 h2 (Nat.lt_of_lt_of_le h2 P.ow.le)]
theorem GpW.turn{w wr u:World}{p B:Nat}{A:Option Addr}{lv:List (LayerM×Rc)}{ds:List DepM}(P:GpW w wr p B A lv ds)(T:Turn [] wr u): GpW w u p B A lv ds:=P.past (.of T) (P.ow.turn T)
theorem infoLVs:(prog.info? 115).map (·.size)=some 35:=by kernel_rfl
theorem infoLVz:(prog.info? 115).map (fun i=>(i.zero,i.size))=some (some (.agg ⟨zLV⟩),35):=by kernel_rfl
theorem alloc_LV(u:World): (Instr.alloc 115 true (.tuple #[])).run prog u=.ok (.pointer (some ⟨u,0,none⟩)) (u.alloc (.cells ⟨zLV⟩ 115)):=by unfold Instr.alloc;rw [Sem.run_bind,(zero_of_info infoLVz).1];rfl
theorem store_LV(u:World)(x:LayerM×Rc): (Instr.storeAt 115 (.pointer (some ⟨u,0,none⟩)) (.agg ⟨lvRow x⟩)).run prog (u.alloc (.cells ⟨zLV⟩ 115))=.ok () (u.alloc (.cells ⟨lvRow x⟩ 115)):=
 run_storeAt_new u 115 _ ⟨lvRow x⟩ infoLVs rfl (all_oneCell_toArray (cs:=lvRow x) (lv_row x).one)
structure LikeF(l m:LayerM): Prop where
 id:m.id=l.id
 kind:m.kind=l.kind
 of_:m.of=l.of
 place:m.place=l.place
 nd:m.nd=l.nd
 kids:m.kids=l.kids
 kidn:m.kidn=l.kidn
 ks:m.ks=l.ks
 cs:m.cs=l.cs
 good:fltB m.filt m.ks m.cs=fltB l.filt l.ks l.cs
theorem LayerM.Like.facts{l m:LayerM}(h:l.Like m): LikeF l m:=by unfold LayerM.Like at h;rw [h];exact⟨rfl,rfl,rfl,rfl,by funext r;rfl,rfl,rfl,rfl,rfl,rfl⟩
theorem walk_any(d:DocM)(bad:Option Nat)(id:Int)(r:Rc)(w:World)(h:d.At w)(hc:CkIn d bad)(hth:∀l∈d.layers,l.Thin)(bs:List Nat)(hbs:∀b∈bs,b<w.heap.size)(h0:Stab bs w fun u=>d.At u):
  Calls prog 39 #[d.v,id] w fun e w'=>(∃(D:DocM) (m:LayerM) (b:Bool),e=.returned (.tuple #[D.v,m.v,.bool b])∧(b=true→bad=none∧D=d∧(∃l,layerAt d.layers id=some l∧l.Like m)∧Stab bs w' fun u=>m.At u)∧(b=false→depsRes d bad id r=[]))∧Turn [] w w':=by
 cases bad with
 | none=>
  refine (graph_walk d id w bs hbs h0 hth true 0 0 (fun e=>by cases e) (fun _=>rfl) (fun u t=>(doc_Check d none u (h.turn t) hc).mono fun e w' hh=>hh)).mono ?_;rintro e w' ⟨hW,hT⟩;refine⟨?_,hT⟩;unfold WalkPost at hW;rw [if_pos rfl]at hW;unfold IsWalk at hW;cases hla:layerAt d.layers id with
  | none=>
   rw [hla]at hW;exact⟨d,zeroL,false,hW,fun hb=>(by cases hb),fun _=>(by unfold depsRes depsOf;simp only;rw [hla])⟩
  | some l=>
   rw [hla]at hW;obtain⟨m,h1,h2,h3⟩:=hW;exact⟨d,m,true,h3,fun _=>⟨rfl,rfl,⟨l,rfl,h1⟩,h2⟩,fun hb=>(by cases hb)⟩
 | some i=>
  obtain⟨lb,hlb,_⟩:=hc.badl i rfl;refine (graph_walk d id w bs hbs h0 hth false 1 lb.id (fun _=>by decide) (fun e=>by cases e) (fun u t=>(doc_Check d (some i) u (h.turn t) hc).mono fun e w' hh=>⟨?_,hh.2⟩)).mono ?_
  ·obtain⟨l2,h2,h3⟩:=hh.1;obtain rfl:lb=l2:=(by rw [hlb]at h2;injection h2);exact h3
  rintro e w' ⟨hW,hT⟩;refine⟨?_,hT⟩;unfold WalkPost at hW;rw [if_neg (by simp)]at hW;exact⟨⟨none,0,0,[],0,0,none,0,0,[]⟩,zeroL,false,hW,fun hb=>(by cases hb),fun _=>rfl⟩
theorem st8(w1:World)(o:Obj)(m:LayerM)(k:Nat)(hk:k=w1.heap.size+1):
  (Instr.storeAt 89 (.pointer (some ⟨k,0,none⟩)) (.agg ⟨m.row⟩)).run prog ((w1.alloc o).alloc (.cells ⟨zeroL.row⟩ 89))=.ok () ((w1.alloc o).alloc (.cells ⟨m.row⟩ 89)):=by
 subst hk;have:=store_LY (w1.alloc o) m;rwa [World.size_alloc]at this
theorem graph_deps(d:DocM)(bad:Option Nat)(id:Int)(r:Rc)(w:World)(h:d.At w)(hc:CkIn d bad)(hth:∀l∈d.layers,l.Thin):
  Calls prog 13 #[d.v,id,r.v] w fun e w'=>IsDeps w w' (depsRes d bad id r) e∧Turn [] w w':=by
 have hCa:=prog_can r;have hEm:=rect_empty r.can;obtain⟨W,hW⟩:∃W,W=(w.alloc (.cells ⟨d.row⟩ 29)).alloc (.cells (rcs r) 24):=⟨_,rfl⟩;have T0:Turn [] w W:=by rw [hW];exact ((tR w).alloc _).alloc _
 have x0:W.heap[w.heap.size]?=some (.cells ⟨d.row⟩ 29 (0,0)):=by rw [hW];simp only [heap_at,World.size_alloc];rw [if_neg (by omega),if_pos (by first | trivial | omega)]
 have x1:W.heap[w.heap.size+1]?=some (.cells (rcs r) 24 (0,0)):=by rw [hW];simp only [heap_at,World.size_alloc];rw [if_pos (by first | trivial | omega)]
 have hWs:w.heap.size+2≤W.heap.size:=(Array.getElem?_eq_some_iff.1 x1).1;have hwk:=walk_any d bad id r W (h.turn T0) hc hth [w.heap.size+1] (by simp;omega) (stab_old T0 (fun b hb=>by simp at hb;omega) fun u hu=>h.keepD hu);have q0:=cell_of x0 (i:=0) (v:=.slice d.sA d.sn d.sc) rfl;have q1:=cell_of x0 (i:=1) (v:=d.root) rfl;have q2:=cell_of x0 (i:=2) (v:=d.next) rfl;have q3:=cell_of x0 (i:=3) (v:=.slice d.lA d.ln d.lc) rfl;generalize hcan:r.can=q at *;have HCN:=lh hcan;have HWK:=lh hwk;have HCA:=lh hCa;have HEM:=lh hEm;have HX1:=lh x1;have HT0:=lh T0;have HA:=lh h;have HC:=lh hc;have HTH:=lh hth;have HAL:=lh alloc_LY;clear hCa hEm hcan hwk x0 x1 T0 h hc hth;unfold DocM.row rcs at hW;unfold DocM.v Rc.v at *;go_enter func13,ntmps13;go_upto_region 1 with fail
 rw [←hW];clear hW;go_upto_region 2 with (first
  | (go_at_call 39;refine HWK.out.mono ?_;rintro e w1 ⟨⟨D,m,bb,rfl,hm1,hm2⟩,ht1⟩;have HM:=lh (And.intro hm1 hm2);have HT1:=lh ht1;clear hm1 hm2 ht1;unfold LayerM.v)
  | (refine wpList_yield (o:=⟨some 8,_,_,_,_,_⟩) rfl (exec_alloc (t:=89) rfl (HAL.out _)) ?_;try go_frame)
  | (refine wpList_store_run rfl 89 (.tmp 8) (.tmp 19) rfl rfl rfl (st8 w1 _ m _ (World.size_alloc _ _)) ?_;try go_frame))
 try simp only [World.size_alloc]
 obtain⟨V,hV⟩:∃V,V=(w1.alloc (.cells #[.slice D.sA D.sn D.sc,D.root,D.next,.slice D.lA D.ln D.lc] 107)).alloc (.cells ⟨m.row⟩ 89):=⟨_,rfl⟩;have TV1:Turn [] w1 V:=by rw [hV];exact ((tR w1).alloc _).alloc _
 have h7:V.heap[w1.heap.size]?=some (.cells ⟨D.row⟩ 107 (0,0)):=by rw [hV];simp only [heap_at,World.size_alloc];rw [if_neg (by omega),if_pos (by first | trivial | omega)];rfl
 have h8:V.heap[w1.heap.size+1]?=some (.cells ⟨m.row⟩ 89 (0,0)):=by rw [hV];simp only [heap_at,World.size_alloc];rw [if_pos (by first | trivial | omega)]
 have hx1:V.heap[w.heap.size+1]?=some (.cells (rcs r) 24 (0,0)):=((HT1.out.trans TV1).old _ (by omega) (by simp)).trans HX1.out;have r0:=cell_of hx1 (i:=0) (v:=r.x0) rfl;have r1:=cell_of hx1 (i:=1) (v:=r.y0) rfl;have r2:=cell_of hx1 (i:=2) (v:=r.x1) rfl;have r3:=cell_of hx1 (i:=3) (v:=r.y1) rfl;have hs1:=HT1.out.size;have HH7:=lh h7;have HH8:=lh h8;have HHX:=lh hx1;have HTV1:=lh TV1;rw [←hV];clear hV h7 h8 hx1 TV1 q0 q1 q2 q3 HAL;go_upto_region 3 with (go_at_call 40;refine (HCA.out _).mono ?_;rintro e w2 ⟨rfl,ht2⟩;have X1:=(ht2.old _ (Array.getElem?_eq_some_iff.1 HHX.out).1 (by simp)).trans HHX.out;have y0:=cell_of X1 (i:=0) (v:=r.x0) rfl;have y1:=cell_of X1 (i:=1) (v:=r.y0) rfl;have y2:=cell_of X1 (i:=2) (v:=r.x1) rfl;have y3:=cell_of X1 (i:=3) (v:=r.y1) rfl;have yf:=(fun i=>frozen_of X1 i);have HX2:=lh X1;have HT2:=lh ht2;clear ht2 X1)
 obtain⟨X,hX⟩:∃X,X=(((w2.setCell ⟨w.heap.size+1,0,none⟩ q.x0).setCell ⟨w.heap.size+1,1,none⟩ q.y0).setCell ⟨w.heap.size+1,2,none⟩ q.x1).setCell ⟨w.heap.size+1,3,none⟩ q.y1:=⟨_,rfl⟩;have hs2:=HTV1.out.size;have hs3:=HT2.out.size;have TX:Turn [] w X:=by rw [hX];exact (((((HT0.out.trans (HT1.out.trans (HTV1.out.trans HT2.out))).sc).sc).sc).sc)
 have x1:X.heap[w.heap.size+1]?=some (.cells (rcs q) 24 (0,0)):=by rw [hX];exact set4 (q:=r) HX2.out
 have x7:X.heap[w1.heap.size]?=some (.cells ⟨D.row⟩ 107 (0,0)):=by rw [hX];exact (set4_other _ _ _ _ _ _ _ (by omega)).trans ((HT2.out.old _ (Array.getElem?_eq_some_iff.1 HH7.out).1 (by simp)).trans HH7.out)
 have x8:X.heap[w1.heap.size+1]?=some (.cells ⟨m.row⟩ 89 (0,0)):=by rw [hX];exact (set4_other _ _ _ _ _ _ _ (by omega)).trans ((HT2.out.old _ (Array.getElem?_eq_some_iff.1 HH8.out).1 (by simp)).trans HH8.out)
 have hma:(Stab [w.heap.size+1] w1 fun u=>m.At u)→m.At X:=fun hst=>hst X (by rw [hX];simp only [World.size_setCell];omega) fun g hg hb=>by rw [hX];exact (set4_other _ _ _ _ _ _ _ (by simpa using hb)).trans ((HT2.out.old _ (by omega) (by simp)).trans (HTV1.out.old _ hg (by simp)))
 have z0:=cell_of x1 (i:=0) (v:=q.x0) rfl;have z1:=cell_of x1 (i:=1) (v:=q.y0) rfl;have z2:=cell_of x1 (i:=2) (v:=q.x1) rfl;have z3:=cell_of x1 (i:=3) (v:=q.y1) rfl;have HMA:=lh hma;have HX1b:=lh x1;have HX7:=lh x7;have HX8:=lh x8;have HTX:=lh TX;rw [←hX];clear hX x1 x7 x8 TX hma HX2 HT2 HHX HH7 HH8 HTV1 HX1 r0 r1 r2 r3 y0 y1 y2 y3 yf hs2 hs3 HCA;cases bb with
 | false=>
  have hres:=HM.out.2 rfl;have HR:=lh hres;clear hres;go_wp2_with fail
  go_ret;exact⟨⟨_,rfl,by rw [HR.out];exact own_none _ _ _⟩,HTX.out⟩
 | true=>
  obtain⟨hbad,hD,⟨l,hla,hlk⟩,hst⟩:=HM.out.1 rfl;subst hbad;subst hD;have hma:=HMA.out hst;have hds:depsRes D none id r=if q.empty=true then [] else depsM D.layers l id q:=by unfold depsRes depsOf;simp only;rw [hla,HCN.out]
  have HDS:=lh hds;have HLA:=lh hla;have HLK:=lh hlk.facts;have HMT:=lh hma;clear hds hla hlk hst hma HM HMA;cases he:q.empty with
  | true=>
   rw [he]at HEM;rw [he,if_pos rfl]at HDS;clear he;(go_wp2_with (go_at_call 18;refine (HEM.out _).mono ?_;rintro e w3 ⟨rfl,ht3⟩));go_ret;exact⟨⟨_,rfl,by rw [HDS.out];exact own_none _ _ _⟩,HTX.out.trans ht3⟩
  | false=>
   rw [he]at HEM;rw [he,if_neg (by simp)]at HDS;have hin:q.InC:=(by rw [←HCN.out];exact Rc.can_in (by rw [HCN.out];exact he));have HIN:=lh hin;clear he hin;have hmf:∀(fn:Fn) (first cap:Array Value) (w:World),(Instr.makeFunc fn first cap).run prog w=.ok (.func fn first cap) w:=fun _ _ _ _=>rfl;(go_upto_region 7 with (go_at_call 18;refine (HEM.out _).mono ?_;rintro e w3 ⟨rfl,ht3⟩));obtain⟨Y,hY⟩:∃Y,Y=w3.alloc (.cells #[.slice none 0 0] 35):=⟨_,rfl⟩;have TY:Turn [] X Y:=(by rw [hY];exact ht3.alloc _);have hsx:=HTX.out.size;have P:GdW w Y q w1.heap.size (w1.heap.size+1) w3.heap.size D m:=⟨HTX.out.trans TY,(TY.old _ (Array.getElem?_eq_some_iff.1 HX1b.out).1 (by simp)).trans HX1b.out,(TY.old _ (Array.getElem?_eq_some_iff.1 HX7.out).1 (by simp)).trans HX7.out,(TY.old _ (Array.getElem?_eq_some_iff.1 HX8.out).1 (by simp)).trans HX8.out,by rw [hY];exact heap_alloc_new _ _,HMT.out.turn TY,by have:=ht3.size;omega⟩;rw [←hY];clear hY TY ht3 z0 z1 z2 z3 HX1b HX7 HX8 HTX HMT HEM hsx hs1 hWs HT1 HT0;have HP:=lh P;clear P hmf;generalize w1.heap.size+1=c8 at *;generalize w1.heap.size=c7 at *;generalize w3.heap.size=p at *;obtain⟨kx,hkx,hkl,_⟩:=layerAt_some HLA.out;have hty:=(HC.out.lay kx l hkl (by simp)).1;have hgo:=(HC.out.lay kx l hkl (by simp)).2.1;have HTY:=lh hty;have HGO:=lh hgo;clear hkx hkl hty hgo;have y1:=cell_at (i:=1) HP.out.h8 rfl;rw [HLK.out.kind]at y1;obtain hk | hk | hk | hk | hk:l.kind=1∨l.kind=2∨l.kind=3∨l.kind=4∨l.kind=5:=by have:=HTY.out.kind;omega
   ·rw [hk]at y1;have hm:depsRes D none id r=[]:=(by rw [HDS.out];unfold depsM;rw [hk];rfl);have HM:=lh hm;have yp:=cell_of HP.out.hp (i:=0) (v:=.slice none 0 0) rfl;clear hm hk;(go_wp2_with fail);go_ret;exact⟨⟨_,rfl,by rw [HM.out];exact own_none _ _ _⟩,HP.out.t⟩
   ·rw [hk]at y1;have hkl:=kids_len HC.out.ok HLA.out;have hm:depsRes D none id r=outD (levs (l.kids.filterMap (layerAt D.layers)) q):=(by rw [HDS.out];unfold depsM;rw [if_neg (by omega),if_pos hk];rfl);have hlin:=levs_in (l.kids.filterMap (layerAt D.layers)) HIN.out;have hll:=levs_len (l.kids.filterMap (layerAt D.layers)) q;have hgd:∀(j:Nat) (x:LayerM),(l.kids.filterMap (layerAt D.layers))[j]?=some x→x.hidden=false→x.kind=3→fltB x.filt x.ks x.cs=true:=fun j x hx _ h3=>by obtain⟨kz,_,hz,_⟩:=layerAt_some (hkl.2 j x hx);have:=(HC.out.lay kz x hz (by simp)).2.1;unfold LayerM.good at this;rw [Bool.and_eq_true,h3]at this;simpa using this.2
    have hlv:=fun u (hu:GdW w u q c7 c8 p D m)=>graph_levels D l.kids _ hkl.1 hkl.2 m.kidA m.kidn m.kidc hu.ma.kidb q HIN.out u (HA.out.turn hu.t) HTH.out (HLK.out.kids ▸ hu.ma.kids) hgd;have hl50:l.kids.length≤50:=(by rw [←HLK.out.kids,←HP.out.ma.kids.1];exact HP.out.ma.kidb);have hb50:(levs (l.kids.filterMap (layerAt D.layers)) q).length≤50:=(by rw [hkl.1]at hll;omega);generalize levs (l.kids.filterMap (layerAt D.layers)) q=ll at *;unfold DocM.v Rc.v at hlv;have HLV:=lh hlv;have HM:=lh hm;have HLI:=lh hlin;clear hlv hm hlin hll hgd hl50 hkl hk;(go_upto_region 11 with fail);clear y1;have f0:=cell_at (i:=0) HP.out.h7 rfl;have f1:=cell_at (i:=1) HP.out.h7 rfl;have f2:=cell_at (i:=2) HP.out.h7 rfl;have f3:=cell_at (i:=3) HP.out.h7 rfl;have f15:=cell_at (i:=15) HP.out.h8 rfl;have e0:=cell_of HP.out.h1 (i:=0) (v:=q.x0) rfl;have e1:=cell_of HP.out.h1 (i:=1) (v:=q.y0) rfl;have e2:=cell_of HP.out.h1 (i:=2) (v:=q.x1) rfl;have e3:=cell_of HP.out.h1 (i:=3) (v:=q.y1) rfl;(go_upto_region 12 with (go_at_call 43;refine (HLV.out _ HP.out).mono ?_;rintro e w5 ⟨⟨v,lv,rfl,hv,hl⟩,ht5⟩;obtain⟨A,n,c,rfl⟩:=hv.slice;have HHV:=lh (And.intro hv (And.intro hl ht5));clear hv hl ht5));obtain⟨hv,hl,ht5⟩:=HHV.out;have hz:=(Array.getElem?_eq_some_iff.1 HP.out.hp).1;have hS:=HP.out.turn ht5;clear HHV ht5 f0 f1 f2 f3 f15 e0 e1 e2 e3;have hn:n=lv.length:=(by have:=hv.rowsAt.2;rw [List.length_map]at this;exact this);have hP:GpW w w5 p w5.heap.size A lv (outD (lv.take 0)):=.start hS.t hS.out (OwnV.rows hv hz) hS.lt;have hn50:n≤50:=(by rw [hn,←hl.len];exact hb50);have hine:∀(j:Nat) (x:LayerM×Rc),lv[j]?=some x→x.2.InC:=fun j x hx=>by obtain⟨l',h1,_⟩:=hl.get j x hx;exact HLI.out (l',x.2) (List.mem_of_getElem? h1)
    have hout:outD lv=outD ll:=hl.outD;have HP5:=lh hP;have HINE:=lh hine;have HOUT:=lh hout;have HN:=lh hn;have HALV:=lh alloc_LV;have hBB:w.heap.size≤w5.heap.size:=(by have:=hS.out.lt;have:=hS.lt;omega);have HBB:=lh hBB;clear hS hv hl hz hP hine hout hn hb50 hBB HP HLV HLI;generalize w5.heap.size=B at *;go_loopw [51] (fun s51 wr=>∃i:Nat,i≤n∧s51=i∧GpW w wr p B A lv (outD (lv.take i))) (fun s51 _=>n - (intOf s51).toNat);case atStart=>exact⟨0,by omega,rfl,HP5.out⟩
    obtain⟨i,hi,rfl,hP⟩:=hrel;by_cases hlt:i<n
    ·have hlt2:i<lv.length:=(by rw [←HN.out];exact hlt);have hx:lv[i]?=some lv[i]:=List.getElem?_eq_getElem hlt2;obtain⟨g,og,rfl,hgp,hgB,hr⟩:=hP.rows i _ hx;have hix:=HINE.out i _ hx;have hstep:=outD_step hx;generalize lv[i]=x at *;have hload:=run_loadAt_mid (P:=prog) wr g (og+i*35) 115 (lvRow x) _ hr underlying115 rfl infoLVs;have HLD:=lh hload;have HST:=lh (fun u=>store_LV u x);have HPP:=lh hP;have HSTEP:=lh hstep;have HIX:=lh hix;have c0:(0:Int)≤(i:Int):=(by omega);have c1:(i:Int)<(n:Int):=(by omega);clear hload hP hstep hix hr hx hlt2;go_upto_region 14 with (first
      | (refine wpList_yield (o:=⟨some 54,_,_,_,_,_⟩) rfl (exec_load (p:=.pointer (some ⟨g,og+i*35,none⟩)) (v:=.agg ⟨lvRow x⟩) rfl rfl HLD.out) ?_;try go_frame)
      | (refine wpList_yield (o:=⟨some 13,_,_,_,_,_⟩) rfl (exec_alloc (t:=115) rfl (HALV.out _)) ?_;try go_frame)
      | (refine wpList_store_run rfl 115 (.tmp 13) (.tmp 54) rfl rfl rfl (HST.out _) ?_;try go_frame))
     obtain⟨V,hV⟩:∃V,V=wr.alloc (.cells ⟨lvRow x⟩ 115):=⟨_,rfl⟩;have TV:Turn [] wr V:=(by rw [hV];exact (tR wr).alloc _);have h9:V.heap[wr.heap.size]?=some (.cells ⟨lvRow x⟩ 115 (0,0)):=(by rw [hV];exact heap_alloc_new _ _);have HPV:=lh (HPP.out.turn TV);rw [←hV];clear hV TV HPP HLD HST c0 c1;generalize wr.heap.size=b4 at *;obtain⟨mm,⟨q0,q1,q2,q3⟩⟩:=x;have x0:=cell_at (i:=0) h9 (v:=mm.id) rfl;have x1:=cell_at (i:=1) h9 (v:=mm.kind) rfl;have s0:=cell_at (i:=31) h9 (v:=q0) rfl;have s1:=cell_at (i:=32) h9 (v:=q1) rfl;have s2:=cell_at (i:=33) h9 (v:=q2) rfl;have s3:=cell_at (i:=34) h9 (v:=q3) rfl;clear h9;by_cases h3:mm.kind=3
     ·rw [if_neg (by simp [h3])]at HSTEP;rw [h3]at x1;(go_wp2_with fail);go_roundw;case rel=>exact⟨i+1,by omega,by go_num,by rw [HSTEP.out];exact HPV.out⟩
      simp [intOf];omega
     rw [if_pos (by simpa using h3)]at HSTEP;have k3:(mm.kind != 3)=true:=(by simpa using h3);have hlen:(outD (lv.take i)).length≤1000:=(by have h1:=outD_len (lv.take i);rw [List.length_take]at h1;omega);have hput:putD (outD (lv.take i)) ⟨mm.id,false,⟨q0,q1,q2,q3⟩⟩=outD (lv.take (i+1)):=(by rw [HSTEP.out];have hf:(⟨q0,q1,q2,q3⟩:Rc).empty=false:=HIX.out.full;show (if (⟨q0,q1,q2,q3⟩:Rc).empty=true then _ else _)=_;rw [hf];rfl);have hadd:=graph_add ⟨mm.id,false,⟨q0,q1,q2,q3⟩⟩ p B (outD (lv.take i)) hlen V HPV.out.ow;rw [hput]at hadd;have HADD:=lh hadd;clear hadd hput hlen h3;(go_wp2_with (go_at_call 41;refine HADD.out.mono ?_;rintro e w6 ⟨rfl,ho,hkp⟩;have HPN:=lh (HPV.out.past hkp ho);clear ho hkp));go_roundw;case rel=>exact⟨i+1,by omega,by go_num,HPN.out⟩
     simp [intOf];omega
    obtain rfl:i=n:=(by omega);have htk:lv.take i=lv:=List.take_of_length_le (by rw [←HN.out];exact Nat.le_refl _);rw [htk,HOUT.out]at hP;obtain⟨A',n',c',hp6,hO⟩:=hP.ow.ex;have yp:=cell_of hp6 (i:=0) (v:=.slice A' n' c') rfl;have HO:=lh (And.intro hO hP.t);clear hp6 hO hP;(go_wp2_with fail);go_ret;exact⟨⟨_,rfl,by rw [HM.out];exact OwnD_base HO.out.1 HBB.out⟩,HO.out.2⟩
   ·rw [hk]at y1;have hfl:fltB m.filt m.ks m.cs=true:=(by rw [HLK.out.good];have:=HGO.out;unfold LayerM.good at this;rw [Bool.and_eq_true,hk]at this;simpa using this.2);have hm:depsRes D none id r=putD [] ⟨id,true,(m.filt.area (fltB m.filt m.ks m.cs) q (-1)).can⟩:=(by rw [HDS.out];have e:=HLK.out.nd;have e2:(m.nd q)=l.nd q:=(by rw [e]);unfold depsM;rw [if_neg (by omega),if_neg (by omega),if_pos hk,←e2];rfl);have HM:=lh hm;have hnd:=fun u (hu:m.At u)=>prog_need m.filt m.ks m.cs hfl q HIN.out.bd u hu.ks hu.cs;have hca:=prog_can (m.filt.area (fltB m.filt m.ks m.cs) q (-1));clear hm hfl hk;generalize (m.filt.area (fltB m.filt m.ks m.cs) q (-1)).can=nn at *;generalize m.filt.area (fltB m.filt m.ks m.cs) q (-1)=aa at *;obtain⟨n0,n1,n2,n3⟩:=nn;obtain⟨a0,a1,a2,a3⟩:=aa;unfold Rc.v Fv.v at hnd;unfold Rc.v at hca;have HND:=lh hnd;have HCB:=lh hca;clear hnd hca;(go_upto_region 18 with fail);clear y1;have f17:=cell_at (i:=17) HP.out.h8 rfl;have f18:=cell_at (i:=18) HP.out.h8 rfl;have f19:=cell_at (i:=19) HP.out.h8 rfl;have f20:=cell_at (i:=20) HP.out.h8 rfl;have f21:=cell_at (i:=21) HP.out.h8 rfl;have f22:=cell_at (i:=22) HP.out.h8 rfl;have e0:=cell_of HP.out.h1 (i:=0) (v:=q.x0) rfl;have e1:=cell_of HP.out.h1 (i:=1) (v:=q.y0) rfl;have e2:=cell_of HP.out.h1 (i:=2) (v:=q.x1) rfl;have e3:=cell_of HP.out.h1 (i:=3) (v:=q.y1) rfl;go_upto_region 19 with (first
     | (go_at_call 44;refine (HND.out _ HP.out.ma).mono ?_;rintro e w4 ⟨rfl,ht4⟩;have HP4:=lh (HP.out.turn ht4);clear ht4)
     | (go_at_call 40;refine (HCB.out _).mono ?_;rintro e w5 ⟨rfl,ht5⟩;have HP5:=lh (HP4.out.turn ht5);clear ht5)
     | (go_at_call 41;refine (graph_add ⟨id,true,⟨n0,n1,n2,n3⟩⟩ p _ [] (by simp) _ HP5.out.out).mono ?_;rintro e w6 ⟨rfl,ho,hkp⟩;have HFN:=lh (HP5.out.fin HP5.out.out.lt hkp);have HOW:=lh ho;clear ho hkp))
    have hle:w.heap.size≤w5.heap.size:=(by have:=HP5.out.out.lt;have:=HP5.out.lt;omega);obtain⟨A,n,c,hp6,hO⟩:=HOW.out.ex;have yp:=cell_of hp6 (i:=0) (v:=.slice A n c) rfl;have HO:=lh hO;clear hp6 hO f17 f18 f19 f20 f21 f22 e0 e1 e2 e3;(go_wp2_with fail);go_ret;exact⟨⟨_,rfl,by rw [HM.out];exact OwnD_base HO.out hle⟩,HFN.out⟩
   ·rw [hk]at y1;have hm:depsRes D none id r=putD [] ⟨m.of,false,(m.place.need q).can⟩:=(by rw [HDS.out,HLK.out.of_,HLK.out.place];unfold depsM;rw [if_pos hk]);have HM:=lh hm;have hok:m.place.ok=true:=(by rw [HLK.out.place];exact HTY.out.place (.inr hk));have hnd:=graph_need m.place hok q HIN.out;clear hm hok hk;generalize (m.place.need q).can=nn at *;obtain⟨n0,n1,n2,n3⟩:=nn;unfold Rc.v Af.v at hnd;have HND:=lh hnd;clear hnd;(go_upto_region 9 with fail);clear y1;refine AnyTill.start (fun w'=>GdW w w' q c7 c8 p D m) 8 (by kernel_rfl) ?_;have hS:GdW w Y.drew q c7 c8 p D m:=HP.out.turn ((tR Y).drawn 1);generalize Y.drew=Z at *;refine tk 0 99 34 (.func (.func 41) #[] #[.pointer (some ⟨p,0,none⟩)]) hS ?_;(try go_frame);refine tk 1 99 35 (.pointer (some ⟨c8,16,none⟩)) hS ?_;(try go_frame);refine tk 2 99 36 m.of hS ?_ (hy:=fun w' hw=>by have f:=cell_at (i:=16) hw.h8 rfl;go_simp);(try go_frame);refine tk 3 99 37 (.pointer (some ⟨c8,7,none⟩)) hS ?_;(try go_frame);refine tk 4 99 38 (.agg #[m.place.a,m.place.b,m.place.c,m.place.d,m.place.e,m.place.f,m.place.den]) hS ?_ rfl (hy:=fun w' hw=>exec_load rfl rfl (run_loadAt_mid _ c8 7 80 [m.place.a,m.place.b,m.place.c,m.place.d,m.place.e,m.place.f,m.place.den] _ (part_range hw.h8 rfl) underlying80 rfl infoAFn));(try go_frame);refine tk 5 99 39 (.agg #[q.x0,q.y0,q.x1,q.y1]) hS ?_ (hy:=fun w' hw=>by have e0:=cell_of hw.h1 (i:=0) (v:=q.x0) rfl;have e1:=cell_of hw.h1 (i:=1) (v:=q.y0) rfl;have e2:=cell_of hw.h1 (i:=2) (v:=q.x1) rfl;have e3:=cell_of hw.h1 (i:=3) (v:=q.y1) rfl;go_simp);(try go_frame);refine tk1 6 fun K hK=>?_;go_simp;refine (HND.out _).mono ?_;rintro e w5 ⟨rfl,ht5⟩;have hS:=hS.turn ht5;refine hK _ _ (fun _=>hS) ?_;clear hK K ht5;(try go_frame);refine tk 7 99 41 (DepM.v ⟨m.of,false,⟨n0,n1,n2,n3⟩⟩) hS ?_ rfl (hy:=fun w' hw=>exec_build2 rfl rfl rfl (build_DP _ _ _ _ _ _));(try go_frame);refine tk1 8 fun K hK=>?_;go_simp;refine (graph_add ⟨m.of,false,⟨n0,n1,n2,n3⟩⟩ p _ [] (by simp) _ hS.out).mono ?_;rintro e w6 ⟨rfl,ho,hkp⟩;have hfin:=hS.fin hS.out.lt hkp;have hle:w.heap.size≤w5.heap.size:=(by have:=hS.out.lt;have:=hS.lt;omega);refine hK _ _ (fun h=>absurd rfl h) ?_;clear hK K;(try go_frame);refine tkd ?_;obtain⟨A,n,c,hp6,hO⟩:=ho.ex;have yp:=cell_of hp6 (i:=0) (v:=.slice A n c) rfl;have HO:=lh (And.intro hO hfin);clear hS ho hkp hfin hp6 hO;(go_wp2_with fail);go_ret;exact⟨⟨_,rfl,by rw [HM.out];exact OwnD_base HO.out.1 hle⟩,HO.out.2⟩
   rw [hk]at y1;have hm:depsRes D none id r=[]:=(by rw [HDS.out];unfold depsM;rw [hk];rfl);have HM:=lh hm;have yp:=cell_of HP.out.hp (i:=0) (v:=.slice none 0 0) rfl;clear hm hk;(go_wp2_with fail);go_ret;exact⟨⟨_,rfl,by rw [HM.out];exact own_none _ _ _⟩,HP.out.t⟩
def AvA(A:Option Addr)(c:Nat): Prop:=∀a,A=some a→a.block≠c
theorem AvA.of{A:Option Addr}{base c:Nat}(h:Fr A base)(hc:c<base): AvA A c:=fun a ha e=>by have:=h a ha;omega
theorem AvA.none(c:Nat): AvA none c:=fun a ha=>by cases ha
theorem IntsAt.avoid{w u:World}{A:Option Addr}{n:Nat}{xs:List Int}{c:Nat}(h:IntsAt w A n xs)(ha:AvA A c)(ho:∀q,q≠c→u.heap[q]?=w.heap[q]?): IntsAt u A n xs:=
 ⟨h.1,fun j hj=>by
  obtain⟨g,o,e,hc⟩:=h.2 j hj;refine⟨g,o,e,?_⟩;rw [←hc];exact cell_off ho (ha _ e) _⟩
theorem PtsAt.avoid{w u:World}{A:Option Addr}{n:Nat}{xs:List (Int×Int)}{c:Nat}(h:PtsAt w A n xs)(ha:AvA A c)(ho:∀q,q≠c→u.heap[q]?=w.heap[q]?): PtsAt u A n xs:=
 ⟨h.1,fun j hj=>by
  obtain⟨g,o,e,hc1,hc2⟩:=h.2 j hj;refine⟨g,o,e,?_,?_⟩
  ·rw [←hc1];exact cell_off ho (ha _ e) _
  rw [←hc2];exact cell_off ho (ha _ e) _⟩
structure LayerM.Av(l:LayerM)(c:Nat): Prop where
 ki:AvA l.kidA c
 fk:AvA l.filt.kA c
 fc:AvA l.filt.cA c
 fp:AvA l.pA c
theorem LayerM.New.av{l:LayerM}{w:World}{base c:Nat}(h:l.New w base)(hc:c<base): l.Av c:=⟨.of h.fi hc,.of h.fk hc,.of h.fc hc,.of h.fp hc⟩
theorem LayerM.At.avoid{l:LayerM}{w u:World}{c:Nat}(h:l.At w)(a:l.Av c)(hs:Slim w c)(ho:∀q,q≠c→u.heap[q]?=w.heap[q]?): l.At u:=
 ⟨h.kids.avoid a.ki ho,h.ks.avoid a.fk ho,h.cs.avoid a.fc ho,h.pts.avoid a.fp ho,h.tiles.off hs ho,h.mask.off hs ho,h.kidb⟩
structure SpaceM.Av(s:SpaceM)(c:Nat): Prop where
 p0:AvA s.a0 c
 p1:AvA s.a1 c
 p2:AvA s.a2 c
theorem SpaceM.Past.av{s:SpaceM}{b c:Nat}(h:s.Past b)(hc:c<b): s.Av c:=⟨fun a ha e=>by have:=h.p0 a ha;omega,fun a ha e=>by have:=h.p1 a ha;omega,fun a ha e=>by have:=h.p2 a ha;omega⟩
structure DocM.Av(d:DocM)(c:Nat): Prop where
 s:AvA d.sA c
 l:AvA d.lA c
 ss:∀x∈d.spaces,x.Av c
 ls:∀x∈d.layers,x.Av c
theorem DocM.At.avoid{d:DocM}{w u:World}{c:Nat}(h:d.At w)(a:d.Av c)(hs:Slim w c)(ho:∀q,q≠c→u.heap[q]?=w.heap[q]?): d.At u:=by
 refine⟨⟨h.spaces.1,fun j s hj=>?_⟩,⟨h.layers.1,fun j l hj=>?_⟩,h.small⟩
 ·obtain⟨h1,g,o,e,hr⟩:=h.spaces.2 j s hj;have hv:=a.ss s (List.mem_of_getElem? hj);refine⟨⟨h1.h1,h1.h2,h1.l0.avoid hv.p0 ho,h1.l1.avoid hv.p1 ho,h1.l2.avoid hv.p2 ho⟩,g,o,e,fun i v hi=>?_⟩;rw [←hr i v hi];exact cell_off ho (a.s _ e) _
 obtain⟨h1,g,o,e,hr⟩:=h.layers.2 j l hj;refine⟨h1.avoid (a.ls l (List.mem_of_getElem? hj)) hs ho,g,o,e,fun i v hi=>?_⟩;rw [←hr i v hi];exact cell_off ho (a.l _ e) _
def LayerM.withKids(l:LayerM)(A:Option Addr)(n c:Nat)(ks:List Int): LayerM:={ l with kidA:=A,kidn:=n,kidc:=c,kids:=ks }
def DocM.grow(d:DocM)(A:Option Addr)(c:Nat)(next:Int)(g:Nat)(kg:LayerM)(l:LayerM): DocM:={ d with next:=next,lA:=A,ln:=d.ln+1,lc:=c,layers:=d.layers.set g kg ++ [l] }
theorem ids_set{ls:List LayerM}{g:Nat}{x y:LayerM}(h:ls[g]?=some x)(e:y.id=x.id): (ls.set g y).map (·.id)=ls.map (·.id):=by
 rw [List.map_set];obtain⟨hl,rfl⟩:=List.getElem?_eq_some_iff.1 h;apply List.ext_getElem?;intro i;rw [List.getElem?_set];by_cases hi:g=i
 ·subst hi;simp [hl,e]
 simp [hi]
theorem grow_ids{d:DocM}{A:Option Addr}{c:Nat}{next:Int}{g:Nat}{kg l x:LayerM}(h:d.layers[g]?=some x)(e:kg.id=x.id): (d.grow A c next g kg l).ids=d.ids ++ [l.id]:=by unfold DocM.ids DocM.grow;simp only;rw [List.map_append,ids_set h e];rfl
theorem grow_root{ls:List LayerM}{g:Nat}{x kg l r:LayerM}{id:Int}(h:ls[g]?=some x)(e:kg.id=x.id)(ek:kg.kind=x.kind)(hr:layerAt ls id=some r): ∃r',layerAt (ls.set g kg ++ [l]) id=some r'∧r'.kind=r.kind:=by
 unfold layerAt at *;rw [List.map_append,ids_set h e];cases ha:atN (ls.map (·.id)) id with
 | none=>rw [ha]at hr;cases hr
 | some k=>
  rw [ha]at hr;have ha2:atN (ls.map (·.id) ++ [l].map (·.id)) id=some k:=by unfold atN at *;rw [List.findIdx?_append,ha];rfl
  rw [ha2];simp only at hr ⊢;have hk:=(List.getElem?_eq_some_iff.1 hr).1;rw [List.getElem?_append_left (by simpa using hk),List.getElem?_set];by_cases hg:g=k
  ·subst hg;rw [h]at hr;injection hr with hr;subst hr;exact⟨kg,by simp [hk],ek⟩
  exact⟨r,by simp [hg,hr],rfl⟩
theorem grow_tidy{d:DocM}(h:d.Tidy){A:Option Addr}{c:Nat}{next:Int}{g:Nat}{x:LayerM}{kA:Option Addr}{kn kc:Nat}{ks:List Int}{l:LayerM}(hg:d.layers[g]?=some x)(hk:x.kind=2)(hid:l.id=d.next)(hl:l.Tidy d.sn)(hn:d.next<next)(hn2:next≤1048576)(hln:d.ln+1≤40): (d.grow A c next g (x.withKids kA kn kc ks) l).Tidy:=by
 have hi:(d.grow A c next g (x.withKids kA kn kc ks) l).ids=d.ids ++ [l.id]:=grow_ids hg rfl;refine⟨h.spc,h.sn,hln,⟨by show 1≤next;have:=h.next.1;omega,hn2⟩,?_,?_,?_,?_⟩
 ·rw [hi,List.pairwise_append];refine⟨h.inc,List.pairwise_singleton _ _,fun a ha b hb=>?_⟩;rw [List.mem_singleton]at hb;subst hb;rw [hid];exact (h.pos a ha).2
 ·rw [hi];intro a ha;show 1≤a∧a<next
  rcases List.mem_append.1 ha with ha | ha
  ·have:=h.pos a ha;omega
  rw [List.mem_singleton]at ha;subst ha;have:=h.next.1;omega
 ·obtain⟨r,hr,hrk⟩:=h.root;obtain⟨r',h1,h2⟩:=grow_root (l:=l) (kg:=x.withKids kA kn kc ks) hg rfl rfl hr;exact⟨r',h1,h2.trans hrk⟩
 intro y hy;show y.Tidy d.sn;rcases List.mem_append.1 hy with hy | hy
 ·rcases List.mem_or_eq_of_mem_set hy with hy | rfl
  ·exact h.lay y hy
  have hx:=h.lay x (List.mem_of_getElem? hg);exact { hx with nokids:=fun hn=>absurd hk hn }
 rw [List.mem_singleton]at hy;subst hy;exact hl
theorem flt_thin{f:Fv}{ks cs:List Int}(h:fltB f ks cs=true)(hc:f.cn=cs.length): f.kn≤5000∧f.cn≤5000:=by
 unfold fltB at h;by_cases h1:f.kind=1
 ·rw [if_pos h1,Bool.and_eq_true,Bool.and_eq_true]at h;have hcn:=plain_c h.2;have hh:=h.1.1;unfold Fv.headB Fv.win at hh;simp only [Bool.and_eq_true,decide_eq_true_eq,beq_iff_eq]at hh;obtain⟨⟨⟨⟨r0,r1⟩,hk⟩,_⟩,_⟩:=hh;have:f.radius=0∨f.radius=1∨f.radius=2∨f.radius=3:=by omega
  rcases this with e | e | e | e <;> (rw [e]at hk;unfold sideM at hk;omega)
 rw [if_neg h1]at h;by_cases h2:f.kind=2∨f.kind=3∨f.kind=4
 ·rw [if_pos h2,Bool.and_eq_true]at h;have:=plain_k h.2;have:=plain_c h.2;omega
 rw [if_neg h2]at h;by_cases h5:f.kind=5
 ·rw [if_pos h5,Bool.and_eq_true]at h;have:=plain_k h.2;have hcv:=h.1;simp only [curveB,Bool.and_eq_true,decide_eq_true_eq]at hcv;omega
 rw [if_neg h5]at h;have hk:∃v c r,f.plain false v false r=true∧c=true:=by
  by_cases h6:f.kind=6
  ·rw [if_pos h6]at h;exact⟨_,true,_,h,rfl⟩
  rw [if_neg h6]at h;by_cases h7:f.kind=7
  ·rw [if_pos h7,Bool.and_eq_true]at h;exact⟨_,true,_,h.2,rfl⟩
  rw [if_neg h7]at h;by_cases h8:f.kind=8
  ·rw [if_pos h8,Bool.and_eq_true]at h;exact⟨_,true,_,h.2,rfl⟩
  rw [if_neg h8]at h;cases h
 obtain⟨v,_,r,hp,_⟩:=hk;have:=plain_k hp;have:=plain_c hp;omega
theorem thin_of{l:LayerM}{ns:Int}{w:World}(h:l.Tidy ns)(hg:l.good=true)(ha:l.At w): l.Thin:=by
 unfold LayerM.good at hg;rw [Bool.and_eq_true,Bool.and_eq_true]at hg;obtain⟨⟨hm,ht⟩,hf⟩:=hg;unfold rasterB at hm ht;rw [Bool.and_eq_true]at hm ht;have m1:=of_decide_eq_true hm.1;have t1:=of_decide_eq_true ht.1;have hmn:=ha.mask.1;have htn:=ha.tiles.1;refine⟨ha.kidb,?_,?_,?_,by omega,by omega⟩
 ·by_cases h5:l.kind=5
  ·obtain⟨⟨_,l1⟩,_⟩:=path_near (h.path h5);have:=ha.pts.1;omega
  have:=(h.nopath h5).1;omega
 ·by_cases h3:l.kind=3
  ·have hb:fltB l.filt l.ks l.cs=true:=(by rw [h3]at hf;simpa using hf);exact (flt_thin hb ha.cs.1).1
  rw [h.nofilt h3];decide
 by_cases h3:l.kind=3
 ·have hb:fltB l.filt l.ks l.cs=true:=by rw [h3]at hf;simpa using hf
  exact (flt_thin hb ha.cs.1).2
 rw [h.nofilt h3];decide
end Go.Proofs.YtbpklgllihhgpaaGreat
