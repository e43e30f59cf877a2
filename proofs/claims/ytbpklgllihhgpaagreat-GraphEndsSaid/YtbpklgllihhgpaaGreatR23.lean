import Derived.Great.BuildSlice
import Derived.Test.YtbpklgllihhgpaaGreatR21
import Derived.Test.YtbpklgllihhgpaaGreatR22
set_option maxRecDepth 100000
set_option maxHeartbeats 16000000
namespace Go.Proofs.YtbpklgllihhgpaaGreat
open Tryz Go.RowKit Go.Den
theorem flatten_at{s:Nat}: ∀{L:List (List Value)},(∀r∈L,r.length=s)→∀j i,i<s→L.flatten[j*s+i]?=(L[j]?).bind (·[i]?)
 | [],_,j,i,_=>by simp
 | r :: L,h,0,i,hi=>by have hr:=h r (by simp);rw [List.flatten_cons,Nat.zero_mul,Nat.zero_add,List.getElem?_append_left (by omega)];rfl
 | r :: L,h,j+1,i,hi=>by have hr:=h r (by simp);rw [List.flatten_cons,Nat.add_mul,Nat.one_mul,List.getElem?_append_right (by omega),hr,show j*s+s+i - s=j*s+i by omega,flatten_at (fun r hr=>h r (by simp [hr])) j i hi];rfl
theorem flatten_len{s:Nat}: ∀{L:List (List Value)},(∀r∈L,r.length=s)→L.flatten.length=L.length*s
 | [],_=>by simp
 | r :: L,h=>by have hr:=h r (by simp);rw [List.flatten_cons,List.length_append,flatten_len (fun r hr=>h r (by simp [hr])),List.length_cons,Nat.add_mul,hr];omega
structure Elem where
 e:TypeId
 size:Nat
 bytes:Nat
 Z:Value
 hi:(prog.info? e).map (fun i=>(i.zero,i.size,i.bytes))=some (some Z,size,bytes)
 hz:Z.cells.size=size
 hs:0<size
 hb:size≤1000
 hc:bytes≤4096
theorem Elem.info(k:Elem): ∃i,prog.info? k.e=some i∧i.zero=some k.Z∧i.size=k.size∧i.bytes=k.bytes:=by
 have h:=k.hi;cases hi:prog.info? k.e with
 | none=>rw [hi]at h;cases h
 | some i=>
  rw [hi]at h;simp only [Option.map_some,Option.some.injEq,Prod.mk.injEq]at h;exact⟨i,rfl,h.1,h.2.1,h.2.2⟩
structure Elem.Row(k:Elem)(r:List Value): Prop where
 len:r.length=k.size
 one:∀u∈r,u.oneCell'=true
def Own(k:Elem)(w:World)(base:Nat)(v:Value)(rows:List (List Value)): Prop:=(∀r∈rows,k.Row r)∧SRow w base k.e k.size v rows.length rows.flatten
theorem Own.turn{k:Elem}{w w':World}{base:Nat}{v:Value}{rows:List (List Value)}(h:Own k w base v rows)(T:Turn [] w w'): Own k w' base v rows:=
 ⟨h.1,h.2.keep fun g hg=>T.old g (h.2.lt g hg).2.1 (by simp)⟩
theorem Own.kept{k:Elem}{w w':World}{base:Nat}{v:Value}{rows:List (List Value)}{bs:List Nat}(h:Own k w base v rows)(T:Turn bs w w')(hd:∀g∈blks v,g∉bs): Own k w' base v rows:=
 ⟨h.1,h.2.keep fun g hg=>T.old g (h.2.lt g hg).2.1 (hd g hg)⟩
theorem own_none(k:Elem)(w:World)(base:Nat): Own k w base (.slice none 0 0) []:=⟨fun r h=>by simp at h,by simp,.inl ⟨rfl,rfl⟩⟩
theorem Own.form{k:Elem}{w:World}{base:Nat}{v:Value}{rows:List (List Value)}(h:Own k w base v rows): (v=.slice none 0 0∧rows=[])∨∃g o cap,v=.slice (some ⟨g,o,none⟩) rows.length cap∧base≤g∧g<w.heap.size∧rows.length≤cap∧∀j r,rows[j]?=some r→w.rangeAt g (o+j*k.size) r:=by
 rcases h.2.2 with ⟨rfl,h0⟩ | ⟨g,off,cap,arr,rfl,hb,hh,hn,hm,hs,hx⟩
 ·exact .inl ⟨rfl,List.eq_nil_of_length_eq_zero h0⟩
 refine .inr ⟨g,off,cap,rfl,hb,(Array.getElem?_eq_some_iff.1 hh).1,hn,fun j r hr i u hu=>?_⟩;have hi:i<k.size:=by rw [←(h.1 r (List.mem_of_getElem? hr)).len];exact (List.getElem?_eq_some_iff.1 hu).1
 rw [cell_of_row w g _ arr k.e (0,0) hh,Nat.add_assoc];refine hx _ u ?_;rw [flatten_at (fun r hr=>(h.1 r hr).len) j i hi,hr];exact hu
theorem app_own{k:Elem}{t:TypeId}(ht:prog.underlying t=some (.slice k.e)){w:World}{base:Nat}{v:Value}{rows news:List (List Value)}(h:Own k w base v rows)(g o cap m:Nat)(hm:m=news.length)(h1:∀r∈news,k.Row r)
  (hc:∀j r,news[j]?=some r→w.rangeAt g (o+j*k.size) r) (hb:base≤w.heap.size) (hn:rows.length+m≤100000) (ty:TypeId) :
  ∃v' w',(Builtin.append_ #[t,t] ty #[v,.slice (some ⟨g,o,none⟩) m cap]).run prog w=.ok v' w'∧Own k w' base v' (rows ++ news)∧Turn (blks v) w w'∧(∀g∈blks v',g∈blks v∨w.heap.size≤g):=by
 obtain⟨i,hI,iz,is,ib⟩:=k.info;have hl:news.flatten.length=m*k.size:=by rw [flatten_len fun r hr=>(h1 r hr).len,hm]
 obtain⟨v',w',e1,e2,e3,e4⟩:=srow_append (P:=prog) (ty:=ty) ht hI iz is ib k.hz k.hs h.2 ⟨g,o,none⟩ m cap news.flatten hl (fun j u hu=>by
  have hj:j<m*k.size:=by rw [←hl];exact (List.getElem?_eq_some_iff.1 hu).1
  have hq:j / k.size<news.length:=by rw [←hm];exact Nat.div_lt_of_lt_mul (by rw [Nat.mul_comm];exact hj)
  have hr:=Nat.mod_lt j k.hs;have he:j / k.size*k.size+j % k.size=j:=by rw [Nat.mul_comm];exact Nat.div_add_mod j k.size
  rw [←he,flatten_at (fun r hr=>(h1 r hr).len) _ _ hr]at hu;have hn:news[j / k.size]?=some news[j / k.size]:=List.getElem?_eq_getElem hq;rw [hn]at hu;rw [Addr.add_lit];have:=hc _ _ hn _ u hu;rw [show o+j=o+j / k.size*k.size+j % k.size by omega];exact this) (fun u hu=>by
  obtain⟨r,hr,hu⟩:=List.mem_flatten.1 hu;exact (h1 r hr).one u hu) (Nat.le_trans hn (by decide)) (by
  have:=k.hc;have:(rows.length+m)*k.bytes≤100000*4096:=Nat.mul_le_mul hn this;omega) hb
 refine⟨v',w',e1,⟨fun r hr=>?_,?_⟩,e3,e4⟩
 ·rcases List.mem_append.1 hr with hr | hr
  ·exact h.1 r hr
  exact h1 r hr
 rw [List.length_append,List.flatten_append,←hm];exact e2
theorem fill_row1(n:Nat)(Z:Array Value)(T:List Value)(hZ:Z.size=n)(hT:T.length=n): Instr.fill (fun i=>some (i*n,n)) Z [(0,.agg ⟨T⟩)]=some ⟨T⟩:=by
 have e0:(Value.agg ⟨T⟩).cells=⟨T⟩:=rfl;simp only [Instr.fill,e0,Nat.zero_mul];rw [if_neg (by simp [hT,hZ])];congr 1;refine Array.ext_getElem? fun i=>?_;rw [←Array.foldl_toList,Array.toList_zipIdx,Go.Den.foldl_set,hT,hZ];by_cases h:i<n
 ·rw [if_pos (by omega)];simp
 rw [if_neg (by omega),Array.getElem?_eq_none (by omega)];simp;omega
theorem slice_one{k:Elem}{t:TypeId}(ht:prog.underlying t=some (.slice k.e)){r:List Value}(hr:k.Row r)(w:World): (Instr.buildSlice t 1 #[(0,.agg ⟨r⟩)]).run prog w=.ok (.slice (some ⟨w,0,none⟩) 1 1) (w.alloc (.cells ⟨r⟩ k.e)):=by obtain⟨i,hI,iz,is,ib⟩:=k.info;have h1:=k.hs;have h2:=k.hb;refine run_buildSlice w t k.e 1 _ ⟨r⟩ i _ ht hI iz (by rw [is];omega) (by rw [is];omega) ?_;rw [is];exact fill_row1 k.size _ r (by simp) hr.len
theorem range_alloc(w:World)(r:List Value)(e:TypeId): (w.alloc (.cells ⟨r⟩ e)).rangeAt w.heap.size 0 r:=by intro j u hu;rw [Nat.zero_add,cell_of_row _ _ _ ⟨r⟩ e (0,0) (heap_alloc_new w _)];simpa using hu
theorem app_new{k:Elem}{t:TypeId}(ht:prog.underlying t=some (.slice k.e)){w:World}{base:Nat}{v:Value}{rows:List (List Value)}(h:Own k w base v rows){r:List Value}(hr:k.Row r)(hb:base≤w.heap.size)(hn:rows.length+1≤100000)(ty:TypeId):
  ∃v' w',(Builtin.append_ #[t,t] ty #[v,.slice (some ⟨w,0,none⟩) 1 1]).run prog (w.alloc (.cells ⟨r⟩ k.e))=.ok v' w'∧Own k w' base v' (rows ++ [r])∧Turn (blks v) w w'∧(∀g∈blks v',g∈blks v∨w.heap.size≤g):=by
 have T:=(tR w).alloc (.cells ⟨r⟩ k.e);obtain⟨v',w',e1,e2,e3,e4⟩:=app_own (news:=[r]) ht (h.turn T) w.heap.size 0 1 1 rfl (fun r' h'=>by
  rw [List.mem_singleton]at h';subst h';exact hr) (fun j r' h'=>by
  cases j with
  | succ j=>simp at h'
  | zero=>
   have h':r=r':=(by simpa using h');subst h';rw [Nat.zero_mul];exact range_alloc w r k.e) (by simp;omega) hn ty
 refine⟨v',w',e1,e2,?_,fun g hg=>(e4 g hg).imp id fun h=>?_⟩
 ·exact ((Turn.refl (blks v) w).alloc _).trans e3
 simp at h;omega
theorem wpList_yield{P:Program}{ops:Array Oper}{rest:List Oper}{o:Oper}{a:Act}{w w':World}{Q:Exit→Act→World→Prop}{v:Value}(hg:o.guard=none)(hr:(execOp a.eval o).run P w=.ok (.value v) w')(h:wpList P ops Q rest (a.put o.dst v) w'): wpList P ops Q (o :: rest) a w:=
 wpList_plain hg fun K hK=>by unfold Oper.wp;rw [hr];exact hK _ _ h
theorem wp_yieldR{P:Program}{o:Oper}{a:Act}{w u:World}{K:Act→World→Prop}{Q:Exit→Act→World→Prop}{d:Option Tmp}(hd:o.dst=d){v:Value}(hr:(execOp a.eval o).run P w=.ok (.value v) u)(h:K (a.put d v) u): o.wp P a w K Q:=by subst hd;unfold Oper.wp;rw [hr];exact h
theorem exec_build{P:Program}{o:Oper}{a:Act}{w w':World}{t:TypeId}{ps:Array (Nat×Operand)}{vs:Array (Nat×Value)}{v:Value}(ho:o.op=.build t ps)(hp:(ps.map fun (i,x)=>(i,a.eval x))=vs)(hr:(Instr.build t vs).run P w=.ok v w'): (execOp a.eval o).run P w=.ok (.value v) w':=by obtain⟨d,op,ty,pos,af,g⟩:=o;simp only at ho;subst ho;show (Sem.bind (Instr.build t (ps.map fun (i,x)=>(i,a.eval x))) _).run P w=_;rw [hp,Sem.run_bind',hr];rfl
theorem exec_slice{P:Program}{o:Oper}{a:Act}{w w':World}{t:TypeId}{n:Nat}{ps:Array (Nat×Operand)}{vs:Array (Nat×Value)}{v:Value}(ho:o.op=.buildSlice t n ps)(hp:(ps.map fun (i,x)=>(i,a.eval x))=vs)(hr:(Instr.buildSlice t n vs).run P w=.ok v w'): (execOp a.eval o).run P w=.ok (.value v) w':=by obtain⟨d,op,ty,pos,af,g⟩:=o;simp only at ho;subst ho;show (Sem.bind (Instr.buildSlice t n (ps.map fun (i,x)=>(i,a.eval x))) _).run P w=_;rw [hp,Sem.run_bind',hr];rfl
theorem exec_slice1{P:Program}{o:Oper}{a:Act}{w w':World}{t:TypeId}{x:Operand}{y v:Value}(ho:o.op=.buildSlice t 1 #[(0,x)])(hx:a.eval x=y)(hr:(Instr.buildSlice t 1 #[(0,y)]).run P w=.ok v w'): (execOp a.eval o).run P w=.ok (.value v) w':=
 exec_slice ho (by simp [hx]) hr
theorem exec_build2{P:Program}{o:Oper}{a:Act}{w w':World}{t:TypeId}{i j:Nat}{x y:Operand}{p q v:Value}(ho:o.op=.build t #[(i,x),(j,y)])(hx:a.eval x=p)(hy:a.eval y=q)(hr:(Instr.build t #[(i,p),(j,q)]).run P w=.ok v w'): (execOp a.eval o).run P w=.ok (.value v) w':=
 exec_build ho (by simp [hx,hy]) hr
theorem exec_app{P:Program}{o:Oper}{a:Act}{w w':World}(s x:Operand)(t:TypeId){v y v':Value}(hop:o.op=Op.call { callee:=Callee.builtin Builtin.append,args:=#[s,x],argTypes:=#[t,t] })(hs:a.eval s=v)(hx:a.eval x=y)
  (hrun:(Builtin.append_ #[t,t] o.type #[v,y]).run P w=.ok v' w'):(execOp a.eval o).run P w=.ok (.value v') w':=by
 simp [execOp,hop,resolve,invoke,builtin,hs,hx,hrun,Result.andThen]
theorem fill_two(n m:Nat)(Z:Array Value)(A B:List Value)(hZ:Z.size=n+m)(hA:A.length=n)(hB:B.length=m): Instr.fill (#[(0,n),(n,m)][·]?) Z [(0,.agg ⟨A⟩),(1,.agg ⟨B⟩)]=some ⟨A ++ B⟩:=by
 have e0:(Value.agg ⟨A⟩).cells=⟨A⟩:=rfl;have e1:(Value.agg ⟨B⟩).cells=⟨B⟩:=rfl;simp only [Instr.fill,e0,e1];have s1:(#[(0,n),(n,m)]:Array (Nat×Nat))[0]?=some (0,n):=rfl;have s2:(#[(0,n),(n,m)]:Array (Nat×Nat))[1]?=some (n,m):=rfl;rw [s1,s2];simp only;obtain⟨C,hC⟩:∃C:Array Value,C=(⟨A⟩:Array Value).zipIdx.foldl (fun (cs:Array Value) (x:Value×Nat)=>cs.setIfInBounds (0+x.2) x.1) Z:=⟨_,rfl⟩;have hCi:∀i:Nat,C[i]?=if i<n then A[i]? else Z[i]?:=by
  intro i;rw [hC,←Array.foldl_toList,Array.toList_zipIdx,Go.Den.foldl_set,hA,hZ];by_cases h:i<n
  ·rw [if_pos (by omega),if_pos h];simp
  rw [if_neg (by omega),if_neg h]
 have hCs:C.size=n+m:=by
  have hf:∀(l:List (Value×Nat)) (a:Array Value),(l.foldl (fun (cs:Array Value) (x:Value×Nat)=>cs.setIfInBounds (0+x.2) x.1) a).size=a.size:=by
   intro l;induction l with
   | nil=>intro a;rfl
   | cons x l ih=>intro a;rw [List.foldl_cons,ih];simp
  rw [hC,←Array.foldl_toList,hf,hZ]
 rw [if_neg (by simp [hA,hZ]),←hC,if_neg (by simp [hB,hCs])];congr 1;refine Array.ext_getElem? fun i=>?_;rw [←Array.foldl_toList,Array.toList_zipIdx,Go.Den.foldl_set,hCs,hCi];rw [show (⟨A ++ B⟩:Array Value)[i]?=(A ++ B)[i]? by simp];show (if n+0≤i∧i<n+0+B.length∧i<n+m then B[i - (n+0)]? else _)=_;rw [hB,Nat.add_zero];by_cases h1:i<n
 ·rw [if_neg (by omega),if_pos h1,List.getElem?_append_left (by omega)]
 by_cases h2:i<n+m
 ·rw [if_pos (by omega),List.getElem?_append_right (by omega),hA]
 rw [if_neg (by omega),if_neg h1,Array.getElem?_eq_none (by omega),List.getElem?_eq_none (by simp;omega)]
theorem infoTAb:(prog.info? 171).map (fun i=>(i.zero,i.size,i.bytes))=some (some (.agg zeroCells171),258,272):=by kernel_rfl
noncomputable def elemT:Elem:=⟨171,258,272,.agg zeroCells171,infoTAb,by kernel_rfl,by decide,by decide,by decide⟩
theorem tile_row{t:TileM}(h:okPx t.px): elemT.Row t.row:=by
 refine⟨by show t.row.length=258;simp [TileM.row,h.1],fun v hv=>?_⟩;rcases List.mem_cons.1 hv with rfl | hv
 ·rfl
 rcases List.mem_cons.1 hv with rfl | hv
 ·rfl
 obtain⟨x,_,rfl⟩:=List.mem_map.1 hv;rfl
theorem placesTA(w:World): ∃fs,prog.underlying 171=some (.struct fs)∧(fs.mapM fun f=>do pure (f.offset,←sizeOf f.type):Sem (Array (Nat×Nat))).run prog w=.ok #[(0,2),(2,256)] w:=⟨_,underlying171,by kernel_rfl⟩
theorem build_tileAt(x y:Int)(px:List Int)(hl:px.length=256)(w:World): (Instr.build 171 #[(0,.agg #[x,y]),(1,.agg ⟨px.map (Value.int .u8)⟩)]).run prog w=.ok (.agg ⟨(TileM.mk x y px).row⟩) w:=by obtain⟨fs,hu,hp⟩:=placesTA w;unfold Instr.build;rw [Sem.run_bind,(zero_of_info infoTA).1];simp only [Result.andThen,Sem.run_bind,run_underlying hu];rw [hp];have hf:=fill_two 2 256 zeroCells171 [x,y] (px.map (Value.int .u8)) (by kernel_rfl) rfl (by rw [List.length_map,hl]);simp only [Value.cells]at hf ⊢;rw [hf];rfl
def OwnT(w:World)(base:Nat)(v:Value)(ts:List TileM): Prop:=(∀t∈ts,okPx t.px)∧Own elemT w base v (ts.map TileM.row)
theorem OwnT.at{w:World}{base:Nat}{v:Value}{ts:List TileM}(h:OwnT w base v ts): ∃A n cap,v=.slice A n cap∧TilesAt w A n ts:=by
 rcases h.2.form with ⟨rfl,h0⟩ | ⟨g,o,cap,rfl,_,_,_,hr⟩
 ·have:ts=[]:=by simpa using h0
  subst this;exact⟨none,0,0,rfl,tiles_none w⟩
 refine⟨_,_,_,rfl,by simp,fun j t ht=>⟨h.1 t (List.mem_of_getElem? ht),g,o,rfl,?_⟩⟩;exact hr j t.row (by rw [List.getElem?_map,ht];rfl)
structure PutW(w wr:World)(A:Option Addr)(n cap:Nat)(x y:Int)(px:List Int)(v:Value)(ts:List TileM): Prop where
 t:Turn [] w wr
 h0:wr.heap[w.heap.size]?=some (.cells #[.slice A n cap] 87 (0,0))
 h1:wr.heap[w.heap.size+1]?=some (.cells #[x,y] 133 (0,0))
 h2:wr.heap[w.heap.size+2]?=some (.cells ⟨px.map (Value.int .u8)⟩ 66 (0,0))
 h3:wr.heap[w.heap.size+3]?=some (.cells #[.slice none 0 0] 87 (0,0))
 h4:wr.heap[w.heap.size+4]?=some (.cells #[v] 87 (0,0))
 own:OwnT wr (w.heap.size+5) v ts
theorem PutW.lt{w wr:World}{A:Option Addr}{n cap:Nat}{x y:Int}{px:List Int}{v:Value}{ts:List TileM}(h:PutW w wr A n cap x y px v ts): w.heap.size+5≤wr.heap.size:=(Array.getElem?_eq_some_iff.1 h.h4).1
theorem PutW.keep{w wr w':World}{A:Option Addr}{n cap:Nat}{x y:Int}{px:List Int}{v v':Value}{ts ts':List TileM}{bs:List Nat}(h:PutW w wr A n cap x y px v ts)(T:Turn bs wr w')(hb:∀g∈bs,w.heap.size+5≤g)(ho:OwnT w' (w.heap.size+5) v' ts'):
  PutW w (w'.setCell ⟨w.heap.size+4,0,none⟩ v') A n cap x y px v' ts':=by
 have hl:=h.lt;have old:∀i,i<5→w'.heap[w.heap.size+i]?=wr.heap[w.heap.size+i]?:=fun i hi=>T.old _ (by omega) fun hm=>by have:=hb _ hm;omega
 have os:∀i,i<4→(w'.setCell ⟨w.heap.size+4,0,none⟩ v').heap[w.heap.size+i]?=w'.heap[w.heap.size+i]?:=fun i hi=>by simp only [World.setCell,Array.getElem?_modify];rw [if_neg (by omega)]
 refine⟨?_,?_,?_,?_,?_,?_,?_⟩
 ·exact (turn_new h.t T (fun g hg=>by have:=hb g hg;omega)).sc
 ·exact (os 0 (by omega)).trans ((old 0 (by omega)).trans h.h0)
 ·exact (os 1 (by omega)).trans ((old 1 (by omega)).trans h.h1)
 ·exact (os 2 (by omega)).trans ((old 2 (by omega)).trans h.h2)
 ·exact (os 3 (by omega)).trans ((old 3 (by omega)).trans h.h3)
 ·simp only [World.setCell,Array.getElem?_modify,if_true,(old 4 (by omega)).trans h.h4];rfl
 refine⟨ho.1,ho.2.1,ho.2.2.keep fun g hg=>?_⟩;have:=(ho.2.2.lt g hg).1;simp only [World.setCell,Array.getElem?_modify];rw [if_neg (by omega)]
theorem PutW.drawn{w wr w':World}{A:Option Addr}{n cap:Nat}{x y:Int}{px:List Int}{v:Value}{ts:List TileM}(h:PutW w wr A n cap x y px v ts)(T:Turn [] wr w'): PutW w w' A n cap x y px v ts:=by have hl:=h.lt;have old:∀i,i<5→w'.heap[w.heap.size+i]?=wr.heap[w.heap.size+i]?:=fun i hi=>T.old _ (by omega) (by simp);exact⟨h.t.trans T,(old 0 (by omega)).trans h.h0,(old 1 (by omega)).trans h.h1,(old 2 (by omega)).trans h.h2,(old 3 (by omega)).trans h.h3,(old 4 (by omega)).trans h.h4,h.own.1,h.own.2.turn T⟩
theorem PutW.cells{w wr:World}{A:Option Addr}{n cap:Nat}{x y:Int}{px:List Int}{v:Value}{ts:List TileM}(h:PutW w wr A n cap x y px v ts):
  wr.cell? ⟨w,0,none⟩=some (.slice A n cap)∧wr.cell? ⟨w.heap.size+1,0,none⟩=some (.int .i64 x)∧wr.cell? ⟨w.heap.size+1,1,none⟩=some (.int .i64 y)∧wr.cell? ⟨w.heap.size+3,0,none⟩=some (.slice none 0 0)∧wr.cell? ⟨w.heap.size+4,0,none⟩=some v∧
   wr.frozen? ⟨w.heap.size+3,0,none⟩=false∧wr.frozen? ⟨w.heap.size+4,0,none⟩=false:=by
 refine⟨?_,?_,?_,?_,?_,?_,?_⟩
 ·rw [cell_of_row _ _ _ _ _ _ h.h0];rfl
 ·rw [cell_of_row _ _ _ _ _ _ h.h1];rfl
 ·rw [cell_of_row _ _ _ _ _ _ h.h1];rfl
 ·rw [cell_of_row _ _ _ _ _ _ h.h3];rfl
 ·rw [cell_of_row _ _ _ _ _ _ h.h4];rfl
 ·simp [World.frozen?,h.h3]
 simp [World.frozen?,h.h4]
theorem slice_oneT{r:List Value}(hr:elemT.Row r)(w:World): (Instr.buildSlice 85 1 #[(0,.agg ⟨r⟩)]).run prog w=.ok (.slice (some ⟨w,0,none⟩) 1 1) (w.alloc (.cells ⟨r⟩ 171)):=slice_one (k:=elemT) underlying85 hr w
theorem PutW.app{w u:World}{A:Option Addr}{n cap:Nat}{x y:Int}{px:List Int}{v:Value}{ts:List TileM}(h:PutW w u A n cap x y px v ts)(t:TileM)(ht:okPx t.px)(hn:ts.length≤5000):
  ∃v' u',(Builtin.append_ #[85,85] 85 #[v,.slice (some ⟨u,0,none⟩) 1 1]).run prog (u.alloc (.cells ⟨t.row⟩ 171))=.ok v' u'∧PutW w (u'.setCell ⟨w.heap.size+4,0,none⟩ v') A n cap x y px v' (ts ++ [t])∧Turn (blks v) u u'∧
   u'.cell? ⟨w.heap.size+4,0,none⟩=some v∧u'.frozen? ⟨w.heap.size+4,0,none⟩=false:=by
 have hl:=h.lt;obtain⟨v',u',e1,e2,e3,e4⟩:=app_new (k:=elemT) (t:=85) underlying85 h.own.2 (tile_row ht) (by omega) (by simp;omega) 85;have hb:∀g∈blks v,w.heap.size+5≤g:=fun g hg=>(h.own.2.2.lt g hg).1;have h4:u'.heap[w.heap.size+4]?=some (.cells #[v] 87 (0,0)):=(e3.old _ (by omega) (fun hm=>by have:=hb _ hm;omega)).trans h.h4;refine⟨v',u',e1,h.keep e3 hb ⟨fun t' ht'=>?_,?_⟩,e3,?_,?_⟩
 ·rcases List.mem_append.1 ht' with q | q
  ·exact h.own.1 t' q
  rw [List.mem_singleton]at q;subst q;exact ht
 ·rw [List.map_append];exact e2
 ·rw [cell_of_row _ _ _ _ _ _ h4];rfl
 simp [World.frozen?,h4]
theorem OwnT.setCell{w:World}{base:Nat}{v:Value}{ts:List TileM}(h:OwnT w base v ts)(c i:Nat)(hc:c<base)(x:Value): OwnT (w.setCell ⟨c,i,none⟩ x) base v ts:=
 ⟨h.1,h.2.1,h.2.2.keep fun g hg=>by
  have:=(h.2.2.lt g hg).1;simp only [World.setCell,Array.getElem?_modify];rw [if_neg (by omega)]⟩
theorem heap_at(u:World)(b:Obj)(i:Nat): (u.alloc b).heap[i]?=if i=u.heap.size then some b else u.heap[i]?:=by
 by_cases h:i=u.heap.size
 ·rw [if_pos h,h];exact heap_alloc_new u b
 rw [if_neg h];show (u.heap.push b)[i]?=_;rw [Array.getElem?_push,if_neg h]
theorem ref_put(ts0:List TileM)(A:Option Addr)(n cap:Nat)(hn:n≤1024)(x y:Int)(px0:List Int)(hpx:okPx px0)(w:World)(h:TilesAt w A n ts0):
  Calls prog 103 #[.agg #[.slice A n cap],.agg #[x,y],tv px0] w fun e w'=>(∃A' n' cap' ts',e=.returned (.agg #[.slice A' n' cap'])∧TilesAt w' A' n' ts')∧Turn [] w w':=by
 have hCl:=ref_clean px0 hpx.1;have hZe:=ref_zero (tclean px0) (tclean_ok hpx).1;have hok:=tclean_ok hpx;have hA:1≤n→∃g o,A=some ⟨g,o,none⟩∧∀w',Turn [] w w'→∀j t,ts0[j]?=some t→okPx t.px∧w'.rangeAt g (o+j*258) t.row:=fun h1=>h.get h1;have hl:=h.1;have hlen0:(px0.map (Value.int .u8)).length=256:=by rw [List.length_map,hpx.1]
 obtain⟨W,hW⟩:∃W,W=((((w.alloc (.cells #[.slice A n cap] 87)).alloc (.cells #[x,y] 133)).alloc (.cells ⟨px0.map (Value.int .u8)⟩ 66)).alloc (.cells #[.slice none 0 0] 87)).alloc (.cells #[.slice none 0 0] 87):=⟨_,rfl⟩;have T0:Turn [] w W:=hW ▸ ((((((tR w).alloc _).alloc _).alloc _).alloc _).alloc _);have hWs:W.heap.size=w.heap.size+5:=by rw [hW];simp
 have hW0:W.heap[w.heap.size]?=some (.cells #[.slice A n cap] 87 (0,0)):=by rw [hW];simp only [heap_at,World.size_alloc];rw [if_neg (by omega),if_neg (by omega),if_neg (by omega),if_neg (by omega),if_pos (by first | trivial | omega)]
 have hW1:W.heap[w.heap.size+1]?=some (.cells #[x,y] 133 (0,0)):=by rw [hW];simp only [heap_at,World.size_alloc];rw [if_neg (by omega),if_neg (by omega),if_neg (by omega),if_pos (by first | trivial | omega)]
 have hW2:W.heap[w.heap.size+2]?=some (.cells ⟨px0.map (Value.int .u8)⟩ 66 (0,0)):=by rw [hW];simp only [heap_at,World.size_alloc];rw [if_neg (by omega),if_neg (by omega),if_pos (by first | trivial | omega)]
 have hW3:W.heap[w.heap.size+3]?=some (.cells #[.slice none 0 0] 87 (0,0)):=by rw [hW];simp only [heap_at,World.size_alloc];rw [if_neg (by omega),if_pos (by first | trivial | omega)]
 have hW4:W.heap[w.heap.size+4]?=some (.cells #[.slice none 0 0] 87 (0,0)):=by rw [hW];simp only [heap_at,World.size_alloc];rw [if_pos (by first | trivial | omega)]
 have hl2:=run_loadVar_row (P:=prog) W (w.heap.size+2) 66 66 ⟨px0.map (Value.int .u8)⟩ (0,0) _ hW2 underlying66 rfl (by rw [info66];show some 256=some (px0.map (Value.int .u8)).length;rw [hlen0]);have hstore:∀u,Turn [] W u→(Instr.storeAt 66 (.pointer (some ⟨w.heap.size+2,0,none⟩)) (.agg ⟨(tclean px0).map (Value.int .u8)⟩)).run prog u=.ok () (u.setRow (w.heap.size+2) ⟨(tclean px0).map (Value.int .u8)⟩):=fun u T=>
  store_row (ty:=66) ((T.old _ (by omega) (by simp)).trans hW2) (by rw [info66];show some 256=some ((tclean px0).map (Value.int .u8)).length;rw [List.length_map,hok.1]) (by show (px0.map (Value.int .u8)).length=((tclean px0).map (Value.int .u8)).length;rw [hlen0,List.length_map,hok.1]) (by simp [Value.oneCell'])
 have hP0:∀u,Turn [] W u→PutW w (u.setRow (w.heap.size+2) ⟨(tclean px0).map (Value.int .u8)⟩) A n cap x y (tclean px0) (.slice none 0 0) []:=fun u T=>by
  have old:∀i,i<5→u.heap[w.heap.size+i]?=W.heap[w.heap.size+i]?:=fun i hi=>T.old _ (by omega) (by simp);have oth:∀g,g≠w.heap.size+2→(u.setRow (w.heap.size+2) ⟨(tclean px0).map (Value.int .u8)⟩).heap[g]?=u.heap[g]?:=fun g hg=>by simp only [World.setRow,Array.getElem?_modify,Ne.symm hg,if_false]
  refine⟨(T0.trans T).setRow _ (.inr (by omega)),?_,?_,?_,?_,?_,by simp,own_none _ _ _⟩
  ·exact (oth _ (by omega)).trans ((old 0 (by omega)).trans hW0)
  ·exact (oth _ (by omega)).trans ((old 1 (by omega)).trans hW1)
  ·simp only [World.setRow,Array.getElem?_modify,if_true,(old 2 (by omega)).trans hW2];rfl
  ·exact (oth _ (by omega)).trans ((old 3 (by omega)).trans hW3)
  exact (oth _ (by omega)).trans ((old 4 (by omega)).trans hW4)
 have hload:∀u v ts,PutW w u A n cap x y (tclean px0) v ts→(loadVar 66 ⟨w.heap.size+2,0,none⟩).run prog u=.ok (.agg ⟨(tclean px0).map (Value.int .u8)⟩) u:=fun u v ts h=>
  run_loadVar_row (P:=prog) u (w.heap.size+2) 66 66 ⟨(tclean px0).map (Value.int .u8)⟩ (0,0) _ h.h2 underlying66 rfl (by rw [info66];show some 256=some ((tclean px0).map (Value.int .u8)).length;rw [List.length_map,hok.1])
 have hbuild:=fun u=>build_tileAt x y (tclean px0) hok.1 u;have HA:=lh hA;have HN:=lh hl;have HCL:=lh hCl;have HZE:=lh hZe;have HOK:=lh hok;have HST:=lh hstore;have HP0:=lh hP0;have HLO:=lh hload;have HBD:=lh hbuild;unfold tv at HCL HZE;unfold tv;clear hA hl h hCl hZe hok hstore hP0 hload hbuild hW0 hW1 hW2 hW3 hW4 hlen0 hpx;generalize (⟨px0.map (Value.int .u8)⟩:Array Value)=c0 at *;generalize hPX:tclean px0=PX at *;clear hPX;generalize hc1:(⟨PX.map (Value.int .u8)⟩:Array Value)=c1 at *;have HC1:=lh hc1;clear hc1;go_enter func103,ntmps103;go_upto_region 2 with (fail)
 rw [show w.heap.size+1+1=w.heap.size+2 from rfl,show w.heap.size+2+1=w.heap.size+3 from rfl,show w.heap.size+3+1=w.heap.size+4 from rfl,←hW];clear hW;go_upto_region 3 with (first
  | (refine wpList_load_var rfl 66 (.tmp 5) rfl rfl hl2 ?_)
  | (go_at_call 154;refine (HCL.out _).mono ?_;rintro e w1 ⟨rfl,ht1⟩)
  | (refine wpList_store_run rfl 66 (.tmp 5) (.tmp 13) rfl rfl rfl (HST.out _ ht1) ?_))
 have P1:=HP0.out _ ht1;clear hl2;generalize w1.setRow (w.heap.size+2) c1=V at *;have hl3:=HLO.out _ _ _ P1;go_upto_region 5 with (first
  | (refine wpList_load_var rfl 66 (.tmp 5) rfl rfl hl3 ?_)
  | (go_at_call 152;refine (HZE.out _).mono ?_;rintro e w2 ⟨rfl,ht2⟩))
 have P2:=P1.drawn ht2;clear P1 hl3 ht2;generalize tzero PX=bz at *;go_wp2_with fail
 go_loopw [9,10] (fun s9 s10 wr=>∃(b:Bool) (k:Nat) (v:Value) (xs:List TileM),k≤n∧s9=.bool b∧s10=k∧xs.length≤2*k∧PutW w wr A n cap x y PX v xs) (fun _ s10 _=>n - (intOf s10).toNat);case atStart=>exact⟨bz,0,_,[],by omega,rfl,rfl,by simp,P2⟩
 clear P2;obtain⟨b,k,v,xs,hk,rfl,rfl,hxs,P⟩:=hrel;obtain⟨c0',c1x,c1y,c3,c4,f3,f4⟩:=P.cells;by_cases hlt:k<n
 ·obtain⟨g,o,rfl,hR⟩:=HA.out (by omega);have hls:k<ts0.length:=by have:=HN.out;omega
  obtain⟨t,ht⟩:∃t,ts0[k]?=some t:=⟨ts0[k],by simp [hls]⟩;have hRk:=fun w' T=>hR w' T k t ht;obtain⟨ok,hrow⟩:=hRk wr P.t;have d0:wr.cell? ⟨g,o+k*258,none⟩=some (.int .i64 t.x):=by simpa using hrow 0 _ rfl
  have d1:wr.cell? ⟨g,o+k*258+1,none⟩=some (.int .i64 t.y):=hrow 1 _ rfl;have HR:=lh hRk;have HT:=lh ok;have b0:(0:Int)≤(k:Int):=by omega
  have b1:(k:Int)<(n:Int):=by omega
  clear hR hRk hrow ht hls ok;have HP:=lh P;clear P;generalize hxe:t.x=tx at *;generalize hye:t.y=ty at *;have HX:=lh hxe;have HY:=lh hye;clear hxe hye;cases b with
  | true=>
   (go_upto_region 8 with (fail));go_quiet (fail)
   have TV:=(tR wr).drawn nq;have P:=HP.out.drawn TV;have TV:Turn [] wr (wr.drewN nq):=TV;have P:PutW w (wr.drewN nq) (some ⟨g,o,none⟩) n cap x y PX v xs:=P;generalize wr.drewN nq=V at *;clear HP TV c0' c1x c1y c3 c4 f3 f4 d0 d1;obtain⟨c0',c1x,c1y,c3,c4,f3,f4⟩:=P.cells;have hrow:=(HR.out V P.t).2;have d0:V.cell? ⟨g,o+k*258,none⟩=some (.int .i64 tx):=(by rw [←HX.out];simpa using hrow 0 _ rfl);have d1:V.cell? ⟨g,o+k*258+1,none⟩=some (.int .i64 ty):=(by rw [←HY.out];exact hrow 1 _ rfl);clear hrow;have HP:=lh P;clear P;(go_upto_region 11 with (fail));by_cases he:tx=x∧ty=y
   ·obtain⟨rfl,rfl⟩:=he;go_quiet (fail)
    have P:PutW w (V.drewN nq) (some ⟨g,o,none⟩) n cap tx ty PX v (xs):=HP.out.drawn ((tR V).drawn nq);(go_wp2_with fail);go_roundw;case rel=>exact⟨true,k+1,_,_,by omega,rfl,by go_num,by (try simp only [List.length_append,List.length_singleton]);omega,P⟩
    simp [intOf];omega
   have he':tx=x→¬ty=y:=fun a b=>he ⟨a,b⟩;clear he;by_cases h1:tx=x;have h2:=he' h1;all_goals
    go_quiet (fail)
    have P:PutW w (V.drewN nq) (some ⟨g,o,none⟩) n cap x y PX v (xs):=HP.out.drawn ((tR V).drawn nq);generalize V.drewN nq=U at *;clear c0' c1x c1y c3 c4 f3 f4 d0 d1;(go_upto_region 12 with (fail));have hbl:∀q∈blks v,w.heap.size+5≤q:=fun q hq=>(P.own.2.2.lt q hq).1;have HB:=lh hbl;have hUl:=P.lt;obtain⟨c0',c1x,c1y,c3,c4,f3,f4⟩:=P.cells;have D0:Hid (∀u,Turn (blks v) U u→u.cell? ⟨w,0,none⟩=some (.slice (some ⟨g,o,none⟩) n cap)):=lh fun u T=>by rw [cell_of_row _ _ _ _ _ _ ((T.old _ (by omega) (fun hm=>by have:=HB.out _ hm;omega)).trans P.h0)];rfl
    have D1:Hid (∀u,Turn (blks v) U u→u.cell? ⟨w.heap.size+4,0,none⟩=some v):=lh fun u T=>by rw [cell_of_row _ _ _ _ _ _ ((T.old _ (by omega) (fun hm=>by have:=HB.out _ hm;omega)).trans P.h4)];rfl
    have HLD:Hid (∀u,Turn (blks v) U u→(Instr.loadAt 171 (.pointer (some ⟨g,o+k*258,none⟩))).run prog u=.ok (.agg ⟨t.row⟩) u):=lh fun u T=>run_loadAt_mid u _ _ 171 _ _ (HR.out _ (turn_new P.t T (fun q hq=>by have:=HB.out q hq;omega))).2 underlying171 rfl (by rw [(tile_row HT.out).len];exact (zero_of_info infoTA).2);have HP:=lh P;have HRW:=lh (tile_row HT.out);clear P c0' c1x c1y c3 c4 f3 f4 hbl;refine AnyTill.start (fun u=>Turn (blks v) U u) 10 (by kernel_rfl) ?_;have hS:=(Turn.refl (blks v) U).drawn 1;have P:PutW w U.drew (some ⟨g,o,none⟩) n cap x y PX v (xs):=HP.out.drawn ((tR U).drawn 1);change Turn (blks v) U U.drew at hS;generalize U.drew=Y at *;have HP:=lh P;clear P;refine tk 0 11 52 (.pointer (some ⟨w.heap.size+4,0,none⟩)) hS ?_;(try go_frame);refine tk 1 11 53 v hS ?_ (hy:=fun w' hw=>by have e1:=D1.out _ hw;go_simp);(try go_frame);refine tk 2 11 54 (.pointer (some ⟨w,0,none⟩)) hS ?_;(try go_frame);refine tk 3 11 55 (.slice (some ⟨g,o,none⟩) n cap) hS ?_ (hy:=fun w' hw=>by have e0:=D0.out _ hw;go_simp);(try go_frame);refine tk 4 11 56 k hS ?_;(try go_frame);refine tk 5 11 57 (.pointer (some ⟨g,o+k*258,none⟩)) hS ?_;(try go_frame);refine tk 6 11 58 (.agg ⟨t.row⟩) hS ?_ rfl (hy:=fun w' hw=>exec_load rfl rfl (HLD.out w' hw));(try go_frame);obtain⟨v2,u2,hap,P2,T2,c42,f42⟩:=HP.out.app t HT.out (by (try simp only [List.length_append,List.length_singleton]);omega);obtain⟨A3,n3,cp3,rfl,_⟩:=P2.own.at;refine tk1 7 fun K hK=>?_;refine wp_yieldR (d:=some 59) rfl (exec_slice1 (y:=.agg ⟨t.row⟩) rfl rfl (slice_oneT HRW.out Y)) ?_;refine hK _ _ (fun _=>hS.alloc _) ?_;clear hK K;(try go_frame);refine tk1 8 fun K hK=>?_;refine wp_yieldR (d:=some 60) rfl (exec_app (v:=v) (y:=.slice (some ⟨Y,0,none⟩) 1 1) _ _ 85 rfl rfl rfl hap) ?_;refine hK _ _ (fun _=>hS.trans T2) ?_;clear hK K;(try go_frame);refine tk1 9 fun K hK=>?_;refine wp_yieldR (d:=some 61) rfl (v:=.pointer (some ⟨w.heap.size+4,0,none⟩)) (u:=u2) (by go_simp) ?_;refine hK _ _ (fun _=>hS.trans T2) ?_;clear hK K;(try go_frame);refine tk1 10 fun K hK=>?_;go_simp;refine hK _ _ (fun h=>absurd rfl h) ?_;clear hK K;(try go_frame);refine tkd ?_;(go_wp2_with fail);go_roundw;case rel=>exact⟨true,k+1,_,_,by omega,rfl,by go_num,by (try simp only [List.length_append,List.length_singleton]);omega,P2⟩
    case measure=>simp [intOf];omega
  | false=>
   have HLE:=lh (ref_less x y tx ty);have TR:=(tR wr).drawn 1;have HS:Hid (∀w',Turn [] wr w'→(w'.cell? ⟨w.heap.size+1,0,none⟩=some (.int .i64 x)∧w'.cell? ⟨w.heap.size+1,1,none⟩=some (.int .i64 y)∧w'.cell? ⟨w,0,none⟩=some (.slice (some ⟨g,o,none⟩) n cap)∧w'.cell? ⟨g,o+k*258,none⟩=some (.int .i64 tx)∧w'.cell? ⟨g,o+k*258+1,none⟩=some (.int .i64 ty))):=lh fun w' T=>by
    have mvr:∀{b i:Nat} {v:Value},wr.cell? ⟨b,i,none⟩=some v→w'.cell? ⟨b,i,none⟩=some v:=fun h=>by rw [(tcell T).1 _ _ (block_lt_of_cell h)];exact h
    exact⟨mvr c1x,mvr c1y,mvr c0',mvr d0,mvr d1⟩
   (go_upto_region 8 with (fail));clear c0' c1x c1y c3 c4 f3 f4 d0 d1;generalize (decide (y<ty) || decide (y=ty) && decide (x<tx))=q at *;go_region_held3 (fun w'=>w'.cell? ⟨w.heap.size+1,0,none⟩=some (.int .i64 x)∧w'.cell? ⟨w.heap.size+1,1,none⟩=some (.int .i64 y)∧w'.cell? ⟨w,0,none⟩=some (.slice (some ⟨g,o,none⟩) n cap)∧w'.cell? ⟨g,o+k*258,none⟩=some (.int .i64 tx)∧w'.cell? ⟨g,o+k*258+1,none⟩=some (.int .i64 ty)) (first | exact HS.out _ TR | exact HS.out _ (TR.trans ht5)) (first
    | (go_at_call 155;refine (HLE.out _).mono ?_;rintro e w5 ⟨rfl,ht5⟩))
   have P:=HP.out.drawn (TR.trans ht5);clear HP HS ht5 TR;generalize w5=V at *;cases q with
   | false=>
    obtain⟨c0',c1x,c1y,c3,c4,f3,f4⟩:=P.cells;have hrow:=(HR.out V P.t).2;have d0:V.cell? ⟨g,o+k*258,none⟩=some (.int .i64 tx):=(by rw [←HX.out];simpa using hrow 0 _ rfl);have d1:V.cell? ⟨g,o+k*258+1,none⟩=some (.int .i64 ty):=(by rw [←HY.out];exact hrow 1 _ rfl);clear hrow;have HP:=lh P;clear P;(go_upto_region 11 with (fail));by_cases he:tx=x∧ty=y
    ·obtain⟨rfl,rfl⟩:=he;go_quiet (fail)
     have P:PutW w (V.drewN nq) (some ⟨g,o,none⟩) n cap tx ty PX v (xs):=HP.out.drawn ((tR V).drawn nq);(go_wp2_with fail);go_roundw;case rel=>exact⟨false,k+1,_,_,by omega,rfl,by go_num,by (try simp only [List.length_append,List.length_singleton]);omega,P⟩
     simp [intOf];omega
    have he':tx=x→¬ty=y:=fun a b=>he ⟨a,b⟩;clear he;by_cases h1:tx=x;have h2:=he' h1;all_goals
     go_quiet (fail)
     have P:PutW w (V.drewN nq) (some ⟨g,o,none⟩) n cap x y PX v (xs):=HP.out.drawn ((tR V).drawn nq);generalize V.drewN nq=U at *;clear c0' c1x c1y c3 c4 f3 f4 d0 d1;(go_upto_region 12 with (fail));have hbl:∀q∈blks v,w.heap.size+5≤q:=fun q hq=>(P.own.2.2.lt q hq).1;have HB:=lh hbl;have hUl:=P.lt;obtain⟨c0',c1x,c1y,c3,c4,f3,f4⟩:=P.cells;have D0:Hid (∀u,Turn (blks v) U u→u.cell? ⟨w,0,none⟩=some (.slice (some ⟨g,o,none⟩) n cap)):=lh fun u T=>by rw [cell_of_row _ _ _ _ _ _ ((T.old _ (by omega) (fun hm=>by have:=HB.out _ hm;omega)).trans P.h0)];rfl
     have D1:Hid (∀u,Turn (blks v) U u→u.cell? ⟨w.heap.size+4,0,none⟩=some v):=lh fun u T=>by rw [cell_of_row _ _ _ _ _ _ ((T.old _ (by omega) (fun hm=>by have:=HB.out _ hm;omega)).trans P.h4)];rfl
     have HLD:Hid (∀u,Turn (blks v) U u→(Instr.loadAt 171 (.pointer (some ⟨g,o+k*258,none⟩))).run prog u=.ok (.agg ⟨t.row⟩) u):=lh fun u T=>run_loadAt_mid u _ _ 171 _ _ (HR.out _ (turn_new P.t T (fun q hq=>by have:=HB.out q hq;omega))).2 underlying171 rfl (by rw [(tile_row HT.out).len];exact (zero_of_info infoTA).2);have HP:=lh P;have HRW:=lh (tile_row HT.out);clear P c0' c1x c1y c3 c4 f3 f4 hbl;refine AnyTill.start (fun u=>Turn (blks v) U u) 10 (by kernel_rfl) ?_;have hS:=(Turn.refl (blks v) U).drawn 1;have P:PutW w U.drew (some ⟨g,o,none⟩) n cap x y PX v (xs):=HP.out.drawn ((tR U).drawn 1);change Turn (blks v) U U.drew at hS;generalize U.drew=Y at *;have HP:=lh P;clear P;refine tk 0 11 52 (.pointer (some ⟨w.heap.size+4,0,none⟩)) hS ?_;(try go_frame);refine tk 1 11 53 v hS ?_ (hy:=fun w' hw=>by have e1:=D1.out _ hw;go_simp);(try go_frame);refine tk 2 11 54 (.pointer (some ⟨w,0,none⟩)) hS ?_;(try go_frame);refine tk 3 11 55 (.slice (some ⟨g,o,none⟩) n cap) hS ?_ (hy:=fun w' hw=>by have e0:=D0.out _ hw;go_simp);(try go_frame);refine tk 4 11 56 k hS ?_;(try go_frame);refine tk 5 11 57 (.pointer (some ⟨g,o+k*258,none⟩)) hS ?_;(try go_frame);refine tk 6 11 58 (.agg ⟨t.row⟩) hS ?_ rfl (hy:=fun w' hw=>exec_load rfl rfl (HLD.out w' hw));(try go_frame);obtain⟨v2,u2,hap,P2,T2,c42,f42⟩:=HP.out.app t HT.out (by (try simp only [List.length_append,List.length_singleton]);omega);obtain⟨A3,n3,cp3,rfl,_⟩:=P2.own.at;refine tk1 7 fun K hK=>?_;refine wp_yieldR (d:=some 59) rfl (exec_slice1 (y:=.agg ⟨t.row⟩) rfl rfl (slice_oneT HRW.out Y)) ?_;refine hK _ _ (fun _=>hS.alloc _) ?_;clear hK K;(try go_frame);refine tk1 8 fun K hK=>?_;refine wp_yieldR (d:=some 60) rfl (exec_app (v:=v) (y:=.slice (some ⟨Y,0,none⟩) 1 1) _ _ 85 rfl rfl rfl hap) ?_;refine hK _ _ (fun _=>hS.trans T2) ?_;clear hK K;(try go_frame);refine tk1 9 fun K hK=>?_;refine wp_yieldR (d:=some 61) rfl (v:=.pointer (some ⟨w.heap.size+4,0,none⟩)) (u:=u2) (by go_simp) ?_;refine hK _ _ (fun _=>hS.trans T2) ?_;clear hK K;(try go_frame);refine tk1 10 fun K hK=>?_;go_simp;refine hK _ _ (fun h=>absurd rfl h) ?_;clear hK K;(try go_frame);refine tkd ?_;(go_wp2_with fail);go_roundw;case rel=>exact⟨false,k+1,_,_,by omega,rfl,by go_num,by (try simp only [List.length_append,List.length_singleton]);omega,P2⟩
     case measure=>simp [intOf];omega
   | true=>
    obtain⟨c0',c1x,c1y,c3,c4,f3,f4⟩:=P.cells;have hlv:=HLO.out _ _ _ P;have hbd:=HBD.out V;have HRX:=lh (tile_row (t:=⟨x,y,PX⟩) HOK.out);obtain⟨v2,u2,hap,P2,T2,c42,f42⟩:=P.app ⟨x,y,PX⟩ HOK.out (by omega);obtain⟨A2,n2,cp2,rfl,_⟩:=P2.own.at;have hsl:=slice_oneT HRX.out V;have HP2:=lh P2;clear P P2 T2;go_upto_region 10 with (first
     | (refine wpList_load_var rfl 66 (.tmp 5) rfl rfl hlv ?_;try go_frame)
     | (refine wpList_yield rfl (exec_build2 (p:=.agg #[x,y]) (q:=.agg c1) rfl rfl rfl hbd) ?_;try go_frame)
     | (refine wpList_yield rfl (exec_slice1 (y:=.agg ⟨TileM.row ⟨x,y,PX⟩⟩) rfl rfl hsl) ?_;try go_frame)
     | (refine wpList_yield rfl (exec_app (v:=v) (y:=.slice (some ⟨V,0,none⟩) 1 1) _ _ 85 rfl rfl rfl hap) ?_;try go_frame))
    have P:PutW w (u2.setCell ⟨w.heap.size+4,0,none⟩ (.slice A2 n2 cp2)) (some ⟨g,o,none⟩) n cap x y PX (.slice A2 n2 cp2) (xs ++ [⟨x,y,PX⟩]):=HP2.out;clear c42 f42 c0' c1x c1y c3 c4 f3 f4 hlv hbd hsl hap HP2 HRX;generalize u2.setCell ⟨w.heap.size+4,0,none⟩ (.slice A2 n2 cp2)=V2 at *;obtain⟨c0',c1x,c1y,c3,c4,f3,f4⟩:=P.cells;have hrow:=(HR.out V2 P.t).2;have d0:V2.cell? ⟨g,o+k*258,none⟩=some (.int .i64 tx):=(by rw [←HX.out];simpa using hrow 0 _ rfl);have d1:V2.cell? ⟨g,o+k*258+1,none⟩=some (.int .i64 ty):=(by rw [←HY.out];exact hrow 1 _ rfl);clear hrow;have HP:=lh P;clear P;(go_upto_region 11 with (fail));by_cases he:tx=x∧ty=y
    ·obtain⟨rfl,rfl⟩:=he;go_quiet (fail)
     have P:PutW w (V2.drewN nq) (some ⟨g,o,none⟩) n cap tx ty PX (.slice A2 n2 cp2) (xs ++ [⟨tx,ty,PX⟩]):=HP.out.drawn ((tR V2).drawn nq);(go_wp2_with fail);go_roundw;case rel=>exact⟨true,k+1,_,_,by omega,rfl,by go_num,by (try simp only [List.length_append,List.length_singleton]);omega,P⟩
     simp [intOf];omega
    have he':tx=x→¬ty=y:=fun a b=>he ⟨a,b⟩;clear he;by_cases h1:tx=x;have h2:=he' h1;all_goals
     go_quiet (fail)
     have P:PutW w (V2.drewN nq) (some ⟨g,o,none⟩) n cap x y PX (.slice A2 n2 cp2) (xs ++ [⟨x,y,PX⟩]):=HP.out.drawn ((tR V2).drawn nq);generalize V2.drewN nq=U at *;clear c0' c1x c1y c3 c4 f3 f4 d0 d1;(go_upto_region 12 with (fail));have hbl:∀q∈blks (.slice A2 n2 cp2),w.heap.size+5≤q:=fun q hq=>(P.own.2.2.lt q hq).1;have HB:=lh hbl;have hUl:=P.lt;obtain⟨c0',c1x,c1y,c3,c4,f3,f4⟩:=P.cells;have D0:Hid (∀u,Turn (blks (.slice A2 n2 cp2)) U u→u.cell? ⟨w,0,none⟩=some (.slice (some ⟨g,o,none⟩) n cap)):=lh fun u T=>by rw [cell_of_row _ _ _ _ _ _ ((T.old _ (by omega) (fun hm=>by have:=HB.out _ hm;omega)).trans P.h0)];rfl
     have D1:Hid (∀u,Turn (blks (.slice A2 n2 cp2)) U u→u.cell? ⟨w.heap.size+4,0,none⟩=some (.slice A2 n2 cp2)):=lh fun u T=>by rw [cell_of_row _ _ _ _ _ _ ((T.old _ (by omega) (fun hm=>by have:=HB.out _ hm;omega)).trans P.h4)];rfl
     have HLD:Hid (∀u,Turn (blks (.slice A2 n2 cp2)) U u→(Instr.loadAt 171 (.pointer (some ⟨g,o+k*258,none⟩))).run prog u=.ok (.agg ⟨t.row⟩) u):=lh fun u T=>run_loadAt_mid u _ _ 171 _ _ (HR.out _ (turn_new P.t T (fun q hq=>by have:=HB.out q hq;omega))).2 underlying171 rfl (by rw [(tile_row HT.out).len];exact (zero_of_info infoTA).2);have HP:=lh P;have HRW:=lh (tile_row HT.out);clear P c0' c1x c1y c3 c4 f3 f4 hbl;refine AnyTill.start (fun u=>Turn (blks (.slice A2 n2 cp2)) U u) 10 (by kernel_rfl) ?_;have hS:=(Turn.refl (blks (.slice A2 n2 cp2)) U).drawn 1;have P:PutW w U.drew (some ⟨g,o,none⟩) n cap x y PX (.slice A2 n2 cp2) (xs ++ [⟨x,y,PX⟩]):=HP.out.drawn ((tR U).drawn 1);change Turn (blks (.slice A2 n2 cp2)) U U.drew at hS;generalize U.drew=Y at *;have HP:=lh P;clear P;refine tk 0 11 52 (.pointer (some ⟨w.heap.size+4,0,none⟩)) hS ?_;(try go_frame);refine tk 1 11 53 ((.slice A2 n2 cp2)) hS ?_ (hy:=fun w' hw=>by have e1:=D1.out _ hw;go_simp);(try go_frame);refine tk 2 11 54 (.pointer (some ⟨w,0,none⟩)) hS ?_;(try go_frame);refine tk 3 11 55 (.slice (some ⟨g,o,none⟩) n cap) hS ?_ (hy:=fun w' hw=>by have e0:=D0.out _ hw;go_simp);(try go_frame);refine tk 4 11 56 k hS ?_;(try go_frame);refine tk 5 11 57 (.pointer (some ⟨g,o+k*258,none⟩)) hS ?_;(try go_frame);refine tk 6 11 58 (.agg ⟨t.row⟩) hS ?_ rfl (hy:=fun w' hw=>exec_load rfl rfl (HLD.out w' hw));(try go_frame);obtain⟨v2,u2,hap,P2,T2,c42,f42⟩:=HP.out.app t HT.out (by (try simp only [List.length_append,List.length_singleton]);omega);obtain⟨A3,n3,cp3,rfl,_⟩:=P2.own.at;refine tk1 7 fun K hK=>?_;refine wp_yieldR (d:=some 59) rfl (exec_slice1 (y:=.agg ⟨t.row⟩) rfl rfl (slice_oneT HRW.out Y)) ?_;refine hK _ _ (fun _=>hS.alloc _) ?_;clear hK K;(try go_frame);refine tk1 8 fun K hK=>?_;refine wp_yieldR (d:=some 60) rfl (exec_app (v:=(.slice A2 n2 cp2)) (y:=.slice (some ⟨Y,0,none⟩) 1 1) _ _ 85 rfl rfl rfl hap) ?_;refine hK _ _ (fun _=>hS.trans T2) ?_;clear hK K;(try go_frame);refine tk1 9 fun K hK=>?_;refine wp_yieldR (d:=some 61) rfl (v:=.pointer (some ⟨w.heap.size+4,0,none⟩)) (u:=u2) (by go_simp) ?_;refine hK _ _ (fun _=>hS.trans T2) ?_;clear hK K;(try go_frame);refine tk1 10 fun K hK=>?_;go_simp;refine hK _ _ (fun h=>absurd rfl h) ?_;clear hK K;(try go_frame);refine tkd ?_;(go_wp2_with fail);go_roundw;case rel=>exact⟨true,k+1,_,_,by omega,rfl,by go_num,by (try simp only [List.length_append,List.length_singleton]);omega,P2⟩
     case measure=>simp [intOf];omega
 obtain rfl:n=k:=by omega
 cases b with
 | true=>
  obtain⟨A9,n9,cp9,rfl,_⟩:=P.own.at;have HP:=lh P;clear P;go_wp2_with fail
  have P:=HP.out;have hT:=(P.own.setCell (w.heap.size+3) 0 (by omega) (.slice A9 n9 cp9)).at;obtain⟨A8,n8,cp8,h8,hT⟩:=hT;injection h8 with e1 e2 e3;subst e1;subst e2;subst e3;have hTT:=P.t.setCell (a:=⟨w.heap.size+3,0,none⟩) (.slice A9 n9 cp9) (.inr (by dsimp only;omega));exact bodyPost_ret (v:=.agg #[.slice A9 n9 cp9]) (by simp [results,results103,go_sem,c3]) rfl ⟨⟨_,_,_,_,rfl,hT⟩,hTT⟩
 | false=>
  have hlv:=HLO.out _ _ _ P;have hbd:=HBD.out wr;have HRX:=lh (tile_row (t:=⟨x,y,PX⟩) HOK.out);obtain⟨v2,u2,hap,P2,T2,c42,f42⟩:=P.app ⟨x,y,PX⟩ HOK.out (by omega);obtain⟨A9,n9,cp9,rfl,_⟩:=P2.own.at;have hsl:=slice_oneT HRX.out wr;have HP2:=lh P2;clear P P2 T2;go_upto_region 15 with (first
   | (refine wpList_load_var rfl 66 (.tmp 5) rfl rfl hlv ?_;try go_frame)
   | (refine wpList_yield rfl (exec_build2 (p:=.agg #[x,y]) (q:=.agg c1) rfl rfl rfl hbd) ?_;try go_frame)
   | (refine wpList_yield rfl (exec_slice1 (y:=.agg ⟨TileM.row ⟨x,y,PX⟩⟩) rfl rfl hsl) ?_;try go_frame)
   | (refine wpList_yield rfl (exec_app (v:=v) (y:=.slice (some ⟨wr,0,none⟩) 1 1) _ _ 85 rfl rfl rfl hap) ?_;try go_frame))
  have P:PutW w (u2.setCell ⟨w.heap.size+4,0,none⟩ (.slice A9 n9 cp9)) A n cap x y PX (.slice A9 n9 cp9) (xs ++ [⟨x,y,PX⟩]):=HP2.out;clear c42 f42 c0' c1x c1y c3 c4 f3 f4 hlv hbd hsl hap HP2 HRX;generalize u2.setCell ⟨w.heap.size+4,0,none⟩ (.slice A9 n9 cp9)=V2 at *;obtain⟨c0',c1x,c1y,c3,c4,f3,f4⟩:=P.cells;have HP:=lh P;clear P;go_wp2_with fail
  have P:=HP.out;have hT:=(P.own.setCell (w.heap.size+3) 0 (by omega) (.slice A9 n9 cp9)).at;obtain⟨A8,n8,cp8,h8,hT⟩:=hT;injection h8 with e1 e2 e3;subst e1;subst e2;subst e3;have hTT:=P.t.setCell (a:=⟨w.heap.size+3,0,none⟩) (.slice A9 n9 cp9) (.inr (by dsimp only;omega));exact bodyPost_ret (v:=.agg #[.slice A9 n9 cp9]) (by simp [results,results103,go_sem,c3]) rfl ⟨⟨_,_,_,_,rfl,hT⟩,hTT⟩
section
section
variable {P:Program} {ops:Array Oper} {Q:Exit→Act→World→Prop} {md:Region.Mode} {S:World→Prop} {z:Nat}
theorem AnyTill.two{i j:Nat}{oi oj:Oper}{n:Nat}{done:Array Bool}{a:Act}{w:World}(hi:ops[i]?=some oi)(hj:ops[j]?=some oj)(hr:(Region.ready md ops done == [i,j])=true)(gi:Region.wanted oi (yielded ops a.tmps)=true)(gj:Region.wanted oj (yielded ops a.tmps)=true)
  (h1:∀K:Act→World→Prop,(∀a' w',(i≠z→S w')→AnyTill P md ops Q S z n (done.setIfInBounds i true) a' w'→K a' w')→Oper.wp P oi a w K Q)
  (h2:∀K:Act→World→Prop,(∀a' w',(j≠z→S w')→AnyTill P md ops Q S z n (done.setIfInBounds j true) a' w'→K a' w')→Oper.wp P oj a w K Q):AnyTill P md ops Q S z (n+1) done a w:=by
 have hr':Region.ready md ops done=[i,j]:=by simpa using hr
 refine⟨fun h0=>(by rw [hr']at h0;cases h0),fun q hq=>?_⟩;rw [hr',List.mem_cons,List.mem_singleton]at hq;rcases hq with rfl | rfl
 ·refine wpOp_step hi fun K hK=>?_;rw [if_pos gi];exact h1 K fun a' w' hS hA=>hK a' w' ⟨hS,hA⟩
 refine wpOp_step hj fun K hK=>?_;rw [if_pos gj];exact h2 K fun a' w' hS hA=>hK a' w' ⟨hS,hA⟩
end
theorem exec_alloc{P:Program}{o:Oper}{a:Act}{w w':World}{t:TypeId}{v:Value}(ho:o.op=.alloc t)(hr:(Instr.alloc t true (.tuple #[])).run P w=.ok v w'): (execOp a.eval o).run P w=.ok (.value v) w':=by simp only [execOp,ho,Sem.run_bind,hr,Result.andThen];rfl
theorem wp_storeR{P:Program}{o:Oper}{a:Act}{w w':World}{K:Act→World→Prop}{Q:Exit→Act→World→Prop}{d:Option Tmp}(hd:o.dst=d)(t:TypeId)(x y:Operand)(ho:o.op=.store t x y){p v:Value}(hx:a.eval x=p)(hy:a.eval y=v)(hr:(Instr.storeAt t p v).run P w=.ok () w')(h:K (a.put d undef) w'): o.wp P a w K Q:=by subst hd;unfold Oper.wp;simp only [execOp,ho,hx,hy,Sem.run_bind,hr,Result.andThen];exact h
end
end Go.Proofs.YtbpklgllihhgpaaGreat
