import Derived.WalkLawsBesides
import Derived.Test.YtbpklgllihhgpaaGreatA11
import Derived.Test.YtbpklgllihhgpaaGreatA12
import Derived.Test.YtbpklgllihhgpaaGreatA13
set_option maxRecDepth 100000
set_option maxHeartbeats 16000000
namespace Go.Proofs.YtbpklgllihhgpaaGreat
section
open Go.Den
theorem wZ:xY Tryz.prog:=NZ 273 (by kernel_rfl) (by kernel_rfl) (by kernel_rfl) (Checked.mixed Tryz.checked)
theorem nV:BR Tryz.prog X0:=by
 intro f g hx self hs;unfold X0 at hx;cases h1:Nat.beq f 76 with
 | true=>
  rw [h1,cond_true]at hx;cases hx;rw [Nat.eq_of_beq_eq_true h1];exact CU hs
 | false=>
  rw [h1,cond_false]at hx;cases h2:Nat.beq f 26 with
  | true=>
   rw [h2,cond_true]at hx;cases hx;rw [Nat.eq_of_beq_eq_true h2];exact KP hs
  | false=>rw [h2]at hx;cases hx
theorem xe:∀{x y:List Value},xO x y=true→x=y
 | [],[],_=>rfl
 | [],_ :: _,h=>by cases h
 | _ :: _,[],h=>by cases h
 | a :: x,b :: y,h=>by unfold xO at h;rw [Bool.and_eq_true]at h;rw [vH h.1,xe h.2]
theorem wR{r:Option (Value×dJ)}(h:tV r=true): ∃m,r=some (.bool true,m):=by
 unfold tV at h;split at h
 ·exact⟨_,rfl⟩
 cases h
theorem FV{r:Option (Value×dJ)}(h:EF r=true): ∃m,r=some (.agg ⟨DX⟩,m):=by
 unfold EF at h;split at h
 ·rw [xe h];exact⟨_,rfl⟩
 cases h
theorem Nw{self:jX}(hs:nM Tryz.prog self): DU Tryz.prog 204 (Jv self):=by
 intro args m v m1 h α w args' hr ha;unfold Jv at h;split at h;case h_2=>cases h
 rename_i cs;cases hb:xO cs DX with
 | false=>
  rw [hb,cond_false]at h;exact wP wZ hs _ m v m1 h α w args' hr ha
 | true=>
  rw [hb,cond_true]at h;cases h;have hcs:=xe hb;subst hcs;obtain⟨m2,he⟩:=FV Oy;exact Sj wZ nV (by kernel_rfl) (by kernel_rfl) he hr ha
theorem VL:BR Tryz.prog X1:=by
 intro f g hx self hs;unfold X1 at hx;cases h1:Nat.beq f 76 with
 | true=>
  rw [h1,cond_true]at hx;cases hx;rw [Nat.eq_of_beq_eq_true h1];exact CU hs
 | false=>
  rw [h1,cond_false]at hx;cases h2:Nat.beq f 26 with
  | true=>
   rw [h2,cond_true]at hx;cases hx;rw [Nat.eq_of_beq_eq_true h2];exact KP hs
  | false=>
   rw [h2,cond_false]at hx;cases h3:Nat.beq f 204 with
   | true=>
    rw [h3,cond_true]at hx;cases hx;rw [Nat.eq_of_beq_eq_true h3];exact Nw hs
   | false=>rw [h3]at hx;cases hx
theorem JS(w:World): Calls Tryz.prog 8 #[] w fun e w'=>e=.returned (.bool true)∧mQ w w':=by obtain⟨m,he⟩:=wR Jp;have h0:lL Tryz.prog (fun _=>none) ⟨.e,0⟩ w:=⟨(fun _ _ h=>by cases h),(fun _ _ _ h=>by cases h),(fun _ _ _ _ _ _ h=>by cases h),fun _ _=>rfl⟩;refine (jq wZ VL 60 8 #[] ⟨.e,0⟩ _ m he (fun _=>none) w #[] h0 ⟨rfl,fun i h1 _=>absurd h1 (Nat.not_lt_zero i)⟩).mono ?_;rintro e w' ⟨β,v',rfl,hv,hst⟩;have:=VR.eq rfl hv;subst this;refine⟨rfl,hst.size,fun cb hcb=>hst.frame cb hcb ?_,hst.os,hst.tape,hst.output⟩;rintro⟨b,o,L,h1,_⟩;cases h1
end
section
open Go.RowKit Go.Den
theorem mQ.trans{a b c:World}(h:mQ a b)(k:mQ b c): mQ a c:=
 ⟨Nat.le_trans h.size k.size,fun cb hc=>(k.old cb (Nat.lt_of_lt_of_le hc h.size)).trans (h.old cb hc),k.os.trans h.os,k.tape.trans h.tape,k.output.trans h.output⟩
theorem mQ.drew{a b:World}(h:mQ a b): mQ a b.drew:=⟨h.size,h.old,h.os,h.tape,h.output⟩
noncomputable def V9:Array Value:=match (Tryz.prog.info? 66).map (fun i=>i.zero)with | some (some (Value.agg cs))=>cs | _=>#[]
theorem SB:(Tryz.prog.info? 66).map (fun i=>(i.zero,i.size))=some (some (.agg V9),256):=by kernel_rfl
theorem vX:V9.size=256:=by kernel_rfl
theorem SX(w:World): (Instr.build 66 #[]).run Tryz.prog w=.ok (.agg V9) w:=by kernel_rfl
theorem ww(w:World): (Instr.alloc 66 true (.tuple #[])).run Tryz.prog w=.ok (.pointer (some ⟨w.heap.size,0,none⟩)) (w.alloc (.cells V9 66)):=by unfold Instr.alloc;rw [Sem.run_bind,(zero_of_info SB).1];rfl
end
section
open Go.RowKit Go.Den
open Go.ChangeMaps (setBlock)
structure bH(bs:List Nat)(w w':World): Prop where
 size:w.heap.size≤w'.heap.size
 old:∀j,j<w.heap.size→j∉bs→w'.heap[j]?=w.heap[j]?
 os:w'.os=w.os
 tape:w'.tape=w.tape
 output:w'.output=w.output
namespace bH
variable {bs:List Nat} {w u v:World}
theorem refl(bs:List Nat)(w:World): bH bs w w:=⟨Nat.le_refl _,fun _ _ _=>rfl,rfl,rfl,rfl⟩
theorem trans(h:bH bs w u)(k:bH bs u v): bH bs w v:=
 ⟨Nat.le_trans h.size k.size,fun j hj hn=>(k.old j (Nat.lt_of_lt_of_le hj h.size) hn).trans (h.old j hj hn),k.os.trans h.os,k.tape.trans h.tape,k.output.trans h.output⟩
theorem ext(h:bH bs w u)(k:mQ u v): bH bs w v:=h.trans ⟨k.size,fun j hj _=>k.old j hj,k.os,k.tape,k.output⟩
theorem mono{cs:List Nat}(h:bH bs w u)(hs:∀b∈bs,b∈cs): bH cs w u:=⟨h.size,fun j hj hn=>h.old j hj fun hb=>hn (hs j hb),h.os,h.tape,h.output⟩
theorem alloc(h:bH bs w u)(o:Obj): bH bs w (u.alloc o):=h.ext ((mQ.refl u).alloc o)
theorem drawn(h:bH bs w u)(n:Nat): bH bs w (u.drewN n):=⟨h.size,h.old,h.os,h.tape,h.output⟩
theorem setCell(h:bH bs w u){a:Addr}(x:Value)(ha:a.block∈bs∨w.heap.size≤a.block): bH bs w (u.setCell a x):=by refine⟨by simpa [World.setCell]using h.size,fun j hj hn=>?_,h.os,h.tape,h.output⟩;rw [Go.Den.heap_setCell _ _ _ _ (by rintro rfl;rcases ha with ha | ha;exact hn ha;omega)];exact h.old j hj hn
theorem setRow(h:bH bs w u){g:Nat}(cs:Array Value)(hg:g∈bs∨w.heap.size≤g): bH bs w (u.setRow g cs):=by
 refine⟨by simpa [World.setRow]using h.size,fun j hj hn=>?_,h.os,h.tape,h.output⟩;have hjg:g≠j:=by rintro rfl;rcases hg with hg | hg;exact hn hg;omega
 simp only [World.setRow,Array.getElem?_modify,hjg,if_false];exact h.old j hj hn
theorem setBlock(h:bH bs w u){g:Nat}(o:Obj)(hg:g∈bs∨w.heap.size≤g): bH bs w (Go.ChangeMaps.setBlock u g o):=by
 refine⟨by simpa [Go.ChangeMaps.setBlock]using h.size,fun j hj hn=>?_,h.os,h.tape,h.output⟩;have hjg:g≠j:=by rintro rfl;rcases hg with hg | hg;exact hn hg;omega
 simp only [Go.ChangeMaps.setBlock,Array.getElem?_setIfInBounds,hjg,if_false];exact h.old j hj hn
end bH
theorem jV{t ty:TypeId}{g:Nat}{old cells:Array Value}{w:World}(hg:w.heap[g]?=some (.cells old t (0,0)))(hi:(Tryz.prog.info? ty).map (·.size)=some cells.size)(ho:old.size=cells.size)(h1:cells.all (·.oneCell')=true):
  (Instr.storeAt ty (.pointer (some ⟨g,0,none⟩)) (.agg cells)).run Tryz.prog w=.ok () (w.setRow g cells):=by
 simp only [Instr.storeAt,Instr.sureAddr,Sem.run_bind,Sem.run_pure,Result.andThen];exact run_storeVar_row w g t ty old cells hg hi ho h1
theorem QQ:V9=Tryz.zeroCells66:=by kernel_rfl
end
end Go.Proofs.YtbpklgllihhgpaaGreat
namespace Go.Proofs.YtbpklgllihhgpaaGreat
open Tryz Go.RowKit Go.Den
section
section
variable {ops:Array Oper} {rest:List Oper} {o:Oper} {a:Act} {w:World} {Q:Exit→Act→World→Prop}
theorem KZ(p q:Int)(ty:TypeId)(w:World): (Builtin.max_ #[3,3] ty #[.int .i64 p,.int .i64 q]).run Tryz.prog w=.ok (.int .i64 (max p q)) w:=by
 by_cases h:p<q
 ·have e:max p q=q:=by omega
  rw [e];go_simp
 have e:max p q=p:=by omega
 rw [e];go_simp
theorem LJ(p q:Int)(ty:TypeId)(w:World): (Builtin.min_ #[3,3] ty #[.int .i64 p,.int .i64 q]).run Tryz.prog w=.ok (.int .i64 (min p q)) w:=by
 by_cases h:q<p
 ·have e:min p q=q:=by omega
  rw [e];go_simp
 have e:min p q=p:=by omega
 rw [e];go_simp
theorem iV(hg:o.guard=none)(s x:Operand)(hop:o.op=Op.call { callee:=Callee.builtin Builtin.max,args:=#[s,x],argTypes:=#[3,3] }){p q:Int}(hs:a.eval s=.int .i64 p)(hx:a.eval x=.int .i64 q)
  (h:wpList Tryz.prog ops Q rest (a.put o.dst (.int .i64 (max p q))) w):wpList Tryz.prog ops Q (o :: rest) a w:=by
 refine wpList_plain hg fun K hK=>?_;unfold Oper.wp;have e:=KZ p q o.type w;simp [execOp,hop,resolve,invoke,builtin,hs,hx,e,Result.andThen];exact hK _ _ h
theorem iG(hg:o.guard=none)(s x:Operand)(hop:o.op=Op.call { callee:=Callee.builtin Builtin.min,args:=#[s,x],argTypes:=#[3,3] }){p q:Int}(hs:a.eval s=.int .i64 p)(hx:a.eval x=.int .i64 q)
  (h:wpList Tryz.prog ops Q rest (a.put o.dst (.int .i64 (min p q))) w):wpList Tryz.prog ops Q (o :: rest) a w:=by
 refine wpList_plain hg fun K hK=>?_;unfold Oper.wp;have e:=LJ p q o.type w;simp [execOp,hop,resolve,invoke,builtin,hs,hx,e,Result.andThen];exact hK _ _ h
end
structure Rc where
 x0:Int
 y0:Int
 x1:Int
 y1:Int
def Rc.v(r:Rc): Value:=.agg #[.int .i64 r.x0,.int .i64 r.y0,.int .i64 r.x1,.int .i64 r.y1]
def Rc.empty(r:Rc): Bool:=decide (r.x1≤r.x0) || decide (r.y1≤r.y0)
def Rc.zero:Rc:=⟨0,0,0,0⟩
def Rc.norm(r:Rc): Rc:=if r.empty then Rc.zero else r
def Rc.meet(a b:Rc): Rc:=(Rc.mk (max a.x0 b.x0) (max a.y0 b.y0) (min a.x1 b.x1) (min a.y1 b.y1)).norm
def Rc.join(a b:Rc): Rc:=if a.empty then b.norm else if b.empty then a else ⟨min a.x0 b.x0,min a.y0 b.y0,max a.x1 b.x1,max a.y1 b.y1⟩
theorem bY{W w1:World}(ht:bH [] W w1): (∀b o,b<W.heap.size→w1.cell? ⟨b,o,none⟩=W.cell? ⟨b,o,none⟩)∧(∀b o,b<W.heap.size→w1.frozen? ⟨b,o,none⟩=W.frozen? ⟨b,o,none⟩):=by refine⟨fun b o h=>?_,fun b o h=>?_⟩ <;> simp only [World.cell?,World.frozen?,ht.old b h (by simp)]
theorem lh{p:Prop}(h:p): RowKit.Hid p:=h
theorem NC(w:World)(o:Obj)(b:Nat): (w.alloc o).heap[b]?=if b=w.heap.size then some o else w.heap[b]?:=by
 by_cases h:b=w.heap.size
 ·rw [if_pos h,h];exact heap_alloc_new _ _
 rw [if_neg h];show (w.heap.push o)[b]?=_;rw [Array.getElem?_push,if_neg h]
theorem bN{w:World}{a:Obj}{n:Nat}(h:n=w.heap.size:=by simp): (w.alloc a).heap[n]?=some a:=by rw [NC,if_pos h]
theorem bO{w:World}{a x:Obj}{n:Nat}(h:w.heap[n]?=some x): (w.alloc a).heap[n]?=some x:=by rw [NC,if_neg (fun e=>absurd (Array.getElem?_eq_some_iff.1 h).1 (by omega)),h]
theorem bH.ox{w u:World}{i:Nat}{o:Obj}(t:bH [] w u)(h:w.heap[i]?=some o): u.heap[i]?=some o:=(t.old _ (Array.getElem?_eq_some_iff.1 h).1 (by simp)).trans h
theorem ae:type_of% @Array.getElem?_eq_some_iff:=@Array.getElem?_eq_some_iff
theorem ag:type_of% @bodyPost_ret:=@bodyPost_ret
theorem ah:type_of% @List.getElem?_eq_some_iff:=@List.getElem?_eq_some_iff
theorem ai:type_of% @block_lt_of_cell:=@block_lt_of_cell
theorem aj:type_of% @Nat.lt_of_lt_of_le:=@Nat.lt_of_lt_of_le
theorem ak:type_of% @decide_eq_false:=@decide_eq_false
theorem au:type_of% @Array.getElem?_modify:=@Array.getElem?_modify
theorem az:type_of% @Bool.and_eq_true:=@Bool.and_eq_true
theorem aA:type_of% @cell_of_row:=@cell_of_row
theorem aB:type_of% @List.getElem?_eq_getElem:=@List.getElem?_eq_getElem
theorem aC:type_of% @decide_eq_true:=@decide_eq_true
theorem aF:type_of% @if_neg:=@if_neg
theorem aG:type_of% @if_pos:=@if_pos
theorem aH:type_of% @List.mem_of_getElem?:=@List.mem_of_getElem?
theorem aI:type_of% @World.size_alloc:=@World.size_alloc
theorem aJ:type_of% @List.length_map:=@List.length_map
theorem aK:type_of% @Nat.le_trans:=@Nat.le_trans
theorem aN:type_of% @List.mem_singleton:=@List.mem_singleton
theorem aO:type_of% @List.length_append:=@List.length_append
theorem aP:type_of% @List.getElem?_map:=@List.getElem?_map
theorem aQ:type_of% @Nat.le_refl:=@Nat.le_refl
theorem aS:type_of% @List.mem_cons:=@List.mem_cons
theorem aT:type_of% @List.take_succ_eq_append_getElem:=@List.take_succ_eq_append_getElem
theorem aU:type_of% @Nat.not_lt_zero:=@Nat.not_lt_zero
theorem aV:type_of% @List.mem_append:=@List.mem_append
theorem aW:type_of% @List.not_mem_nil:=@List.not_mem_nil
theorem aX:type_of% @List.mem_range:=@List.mem_range
theorem aY:type_of% @List.take_of_length_le:=@List.take_of_length_le
theorem aZ:type_of% @List.all_eq_true:=@List.all_eq_true
theorem bg:type_of% @And.intro:=@And.intro
theorem bi:type_of% @List.findIdx?_eq_some_iff_getElem:=@List.findIdx?_eq_some_iff_getElem
theorem bn:type_of% @List.getElem?_eq_none_iff:=@List.getElem?_eq_none_iff
theorem bu:type_of% @List.mem_iff_getElem?:=@List.mem_iff_getElem?
theorem bC:type_of% @List.getElem?_eq_none:=@List.getElem?_eq_none
theorem bD:type_of% @List.getElem?_append_left:=@List.getElem?_append_left
theorem bG:type_of% @List.getElem?_append_right:=@List.getElem?_append_right
theorem _root_.Go.RowKit.Hid.o{p:Prop}(h:Go.RowKit.Hid p): p:=h.out
theorem tR(w:World): bH [] w w:=bH.refl [] w
theorem bH.here{bs:List Nat}{w u:World}(_:bH bs w u): bH [] u u:=bH.refl [] u
theorem bH.sc{bs:List Nat}{w u:World}{a:Addr}{v:Value}(h:bH bs w u)(hb:w.heap.size≤a.block:=by dsimp only;omega): bH bs w (u.setCell a v):=h.setCell v (.inr hb)
theorem bH.call{P:Program}{f:FuncId}{args:Array Value}{w W:World}{v:Ending}{Q:Ending→World→Prop}(T:bH [] W w)(h:Calls P f args w fun e w'=>e=v∧bH [] w w')(k:∀w',bH [] W w'→(∀b o,b<W.heap.size→w'.cell? ⟨b,o,none⟩=W.cell? ⟨b,o,none⟩)→(∀b o,b<W.heap.size→w'.frozen? ⟨b,o,none⟩=W.frozen? ⟨b,o,none⟩)→Q v w'): Calls P f args w Q:=
 h.mono fun e w' hh=>by obtain⟨rfl,ht⟩:=hh;obtain⟨hc,hf⟩:=bY (T.trans ht);exact k w' (T.trans ht) hc hf
theorem tq{W u:World}{b o:Nat}{v:Value}(hc:∀b o,b<W.heap.size→u.cell? ⟨b,o,none⟩=W.cell? ⟨b,o,none⟩)(q:W.cell? ⟨b,o,none⟩=some v): u.cell? ⟨b,o,none⟩=some v:=(hc b o (block_lt_of_cell q)).trans q
theorem tc{W u:World}{b o:Nat}{v:Value}(h:bH [] W u)(q:W.cell? ⟨b,o,none⟩=some v): u.cell? ⟨b,o,none⟩=some v:=tq (bY h).1 q
theorem kU{w:World}{g:Nat}(i:Nat){L:Array Value}{t:TypeId}{z:Nat×Nat}{v:Value}(h:w.heap[g]?=some (.cells L t z))(hv:L[i]?=some v): w.cell? ⟨g,i,none⟩=some v:=by rw [cell_of_row _ _ _ _ _ _ h];exact hv
theorem Rf{w W:World}{A:Array Value}{s:TypeId}(h:W=w.alloc (.cells A s)): W.heap[w.heap.size]?=some (.cells A s (0,0)):=by subst h;exact heap_alloc_new _ _
theorem JK{w W:World}{A0 A1:Array Value}{s0 s1:TypeId}(h:W=(w.alloc (.cells A0 s0)).alloc (.cells A1 s1)): W.heap[w.heap.size]?=some (.cells A0 s0 (0,0))∧W.heap[w.heap.size+1]?=some (.cells A1 s1 (0,0)):=by
 subst h;simp only [NC,World.size_alloc];refine⟨?_,?_⟩
 ·rw [if_neg (by omega),if_pos (by first | trivial | omega)]
 rw [if_pos (by first | trivial | omega)]
theorem DD{w W:World}{A0 A1 A2:Array Value}{s0 s1 s2:TypeId}(h:W=((w.alloc (.cells A0 s0)).alloc (.cells A1 s1)).alloc (.cells A2 s2)): W.heap[w.heap.size]?=some (.cells A0 s0 (0,0))∧W.heap[w.heap.size+1]?=some (.cells A1 s1 (0,0))∧W.heap[w.heap.size+2]?=some (.cells A2 s2 (0,0)):=by
 subst h;simp only [NC,World.size_alloc];refine⟨?_,?_,?_⟩
 ·rw [if_neg (by omega),if_neg (by omega),if_pos (by first | trivial | omega)]
 ·rw [if_neg (by omega),if_pos (by first | trivial | omega)]
 rw [if_pos (by first | trivial | omega)]
theorem Xb{w W:World}{A0 A1 A2 A3:Array Value}{s0 s1 s2 s3:TypeId}(h:W=(((w.alloc (.cells A0 s0)).alloc (.cells A1 s1)).alloc (.cells A2 s2)).alloc (.cells A3 s3)): W.heap[w.heap.size]?=some (.cells A0 s0 (0,0))∧W.heap[w.heap.size+1]?=some (.cells A1 s1 (0,0))∧W.heap[w.heap.size+2]?=some (.cells A2 s2 (0,0))∧W.heap[w.heap.size+3]?=some (.cells A3 s3 (0,0)):=by
 subst h;simp only [NC,World.size_alloc];refine⟨?_,?_,?_,?_⟩
 ·rw [if_neg (by omega),if_neg (by omega),if_neg (by omega),if_pos (by first | trivial | omega)]
 ·rw [if_neg (by omega),if_neg (by omega),if_pos (by first | trivial | omega)]
 ·rw [if_neg (by omega),if_pos (by first | trivial | omega)]
 rw [if_pos (by first | trivial | omega)]
theorem Xe{w W:World}{A0 A1 A2 A3 A4:Array Value}{s0 s1 s2 s3 s4:TypeId}(h:W=((((w.alloc (.cells A0 s0)).alloc (.cells A1 s1)).alloc (.cells A2 s2)).alloc (.cells A3 s3)).alloc (.cells A4 s4)): W.heap[w.heap.size]?=some (.cells A0 s0 (0,0))∧W.heap[w.heap.size+1]?=some (.cells A1 s1 (0,0))∧W.heap[w.heap.size+2]?=some (.cells A2 s2 (0,0))∧W.heap[w.heap.size+3]?=some (.cells A3 s3 (0,0))∧W.heap[w.heap.size+4]?=some (.cells A4 s4 (0,0)):=by
 subst h;simp only [NC,World.size_alloc];refine⟨?_,?_,?_,?_,?_⟩
 ·rw [if_neg (by omega),if_neg (by omega),if_neg (by omega),if_neg (by omega),if_pos (by first | trivial | omega)]
 ·rw [if_neg (by omega),if_neg (by omega),if_neg (by omega),if_pos (by first | trivial | omega)]
 ·rw [if_neg (by omega),if_neg (by omega),if_pos (by first | trivial | omega)]
 ·rw [if_neg (by omega),if_pos (by first | trivial | omega)]
 rw [if_pos (by first | trivial | omega)]
theorem WE{w:World}{g:Nat}{a0 a1:Value}{t:TypeId}{z:Nat×Nat}(h:w.heap[g]?=some (.cells #[a0,a1] t z)): w.cell? ⟨g,0,none⟩=some a0∧w.cell? ⟨g,1,none⟩=some a1:=⟨kU 0 h rfl,kU 1 h rfl⟩
theorem WP{w:World}{g:Nat}{a0 a1 a2:Value}{t:TypeId}{z:Nat×Nat}(h:w.heap[g]?=some (.cells #[a0,a1,a2] t z)): w.cell? ⟨g,0,none⟩=some a0∧w.cell? ⟨g,1,none⟩=some a1∧w.cell? ⟨g,2,none⟩=some a2:=⟨kU 0 h rfl,kU 1 h rfl,kU 2 h rfl⟩
theorem GX{w:World}{g:Nat}{a0 a1 a2 a3:Value}{t:TypeId}{z:Nat×Nat}(h:w.heap[g]?=some (.cells #[a0,a1,a2,a3] t z)): w.cell? ⟨g,0,none⟩=some a0∧w.cell? ⟨g,1,none⟩=some a1∧w.cell? ⟨g,2,none⟩=some a2∧w.cell? ⟨g,3,none⟩=some a3:=⟨kU 0 h rfl,kU 1 h rfl,kU 2 h rfl,kU 3 h rfl⟩
theorem WT{w:World}{g:Nat}{a0 a1 a2 a3 a4:Value}{t:TypeId}{z:Nat×Nat}(h:w.heap[g]?=some (.cells #[a0,a1,a2,a3,a4] t z)): w.cell? ⟨g,0,none⟩=some a0∧w.cell? ⟨g,1,none⟩=some a1∧w.cell? ⟨g,2,none⟩=some a2∧w.cell? ⟨g,3,none⟩=some a3∧w.cell? ⟨g,4,none⟩=some a4:=⟨kU 0 h rfl,kU 1 h rfl,kU 2 h rfl,kU 3 h rfl,kU 4 h rfl⟩
theorem WY{w:World}{g:Nat}{a0 a1 a2 a3 a4 a5:Value}{t:TypeId}{z:Nat×Nat}(h:w.heap[g]?=some (.cells #[a0,a1,a2,a3,a4,a5] t z)): w.cell? ⟨g,0,none⟩=some a0∧w.cell? ⟨g,1,none⟩=some a1∧w.cell? ⟨g,2,none⟩=some a2∧w.cell? ⟨g,3,none⟩=some a3∧w.cell? ⟨g,4,none⟩=some a4∧w.cell? ⟨g,5,none⟩=some a5:=⟨kU 0 h rfl,kU 1 h rfl,kU 2 h rfl,kU 3 h rfl,kU 4 h rfl,kU 5 h rfl⟩
theorem Qh{w:World}{g:Nat}{a0 a1 a2 a3 a4 a5 a6:Value}{t:TypeId}{z:Nat×Nat}(h:w.heap[g]?=some (.cells #[a0,a1,a2,a3,a4,a5,a6] t z)): w.cell? ⟨g,0,none⟩=some a0∧w.cell? ⟨g,1,none⟩=some a1∧w.cell? ⟨g,2,none⟩=some a2∧w.cell? ⟨g,3,none⟩=some a3∧w.cell? ⟨g,4,none⟩=some a4∧w.cell? ⟨g,5,none⟩=some a5∧w.cell? ⟨g,6,none⟩=some a6:=⟨kU 0 h rfl,kU 1 h rfl,kU 2 h rfl,kU 3 h rfl,kU 4 h rfl,kU 5 h rfl,kU 6 h rfl⟩
theorem Xc{w:World}{g:Nat}{a0 a1 a2 a3 a4 a5 a6 a7:Value}{t:TypeId}{z:Nat×Nat}(h:w.heap[g]?=some (.cells #[a0,a1,a2,a3,a4,a5,a6,a7] t z)): w.cell? ⟨g,0,none⟩=some a0∧w.cell? ⟨g,1,none⟩=some a1∧w.cell? ⟨g,2,none⟩=some a2∧w.cell? ⟨g,3,none⟩=some a3∧w.cell? ⟨g,4,none⟩=some a4∧w.cell? ⟨g,5,none⟩=some a5∧w.cell? ⟨g,6,none⟩=some a6∧w.cell? ⟨g,7,none⟩=some a7:=⟨kU 0 h rfl,kU 1 h rfl,kU 2 h rfl,kU 3 h rfl,kU 4 h rfl,kU 5 h rfl,kU 6 h rfl,kU 7 h rfl⟩
theorem Xd{w:World}{g:Nat}{a0 a1 a2 a3 a4 a5 a6 a7 a8:Value}{t:TypeId}{z:Nat×Nat}(h:w.heap[g]?=some (.cells #[a0,a1,a2,a3,a4,a5,a6,a7,a8] t z)): w.cell? ⟨g,0,none⟩=some a0∧w.cell? ⟨g,1,none⟩=some a1∧w.cell? ⟨g,2,none⟩=some a2∧w.cell? ⟨g,3,none⟩=some a3∧w.cell? ⟨g,4,none⟩=some a4∧w.cell? ⟨g,5,none⟩=some a5∧w.cell? ⟨g,6,none⟩=some a6∧w.cell? ⟨g,7,none⟩=some a7∧w.cell? ⟨g,8,none⟩=some a8:=⟨kU 0 h rfl,kU 1 h rfl,kU 2 h rfl,kU 3 h rfl,kU 4 h rfl,kU 5 h rfl,kU 6 h rfl,kU 7 h rfl,kU 8 h rfl⟩
theorem WW{w:World}{g:Nat}{a0 a1 a2 a3 a4 a5 a6 a7 a8 a9:Value}{t:TypeId}{z:Nat×Nat}(h:w.heap[g]?=some (.cells #[a0,a1,a2,a3,a4,a5,a6,a7,a8,a9] t z)): w.cell? ⟨g,0,none⟩=some a0∧w.cell? ⟨g,1,none⟩=some a1∧w.cell? ⟨g,2,none⟩=some a2∧w.cell? ⟨g,3,none⟩=some a3∧w.cell? ⟨g,4,none⟩=some a4∧w.cell? ⟨g,5,none⟩=some a5∧w.cell? ⟨g,6,none⟩=some a6∧w.cell? ⟨g,7,none⟩=some a7∧w.cell? ⟨g,8,none⟩=some a8∧w.cell? ⟨g,9,none⟩=some a9:=⟨kU 0 h rfl,kU 1 h rfl,kU 2 h rfl,kU 3 h rfl,kU 4 h rfl,kU 5 h rfl,kU 6 h rfl,kU 7 h rfl,kU 8 h rfl,kU 9 h rfl⟩
instance:Coe Int Value:=⟨fun x=>.int .i64 x⟩
instance:Coe Nat Value:=⟨fun x=>.int .i64 (x:Int)⟩
instance:Coe World Nat:=⟨fun w=>w.heap.size⟩
theorem iF(r:Rc)(w:World): Calls prog 18 #[r.v] w fun e w'=>e=.returned (.bool r.empty)∧bH [] w w':=by
 obtain⟨x0,y0,x1,y1⟩:=r;unfold Rc.v Rc.empty;by_cases h1:x1≤x0
 ·go_enter func18,ntmps18;go_wp2_with fail
  go_ret;exact⟨by simp [h1],(bH.refl _ _).alloc _⟩
 go_enter func18,ntmps18;go_wp2_with fail
 go_ret;exact⟨by simp;omega,(bH.refl _ _).alloc _⟩
theorem tY(r:Rc)(w:World): Calls prog 119 #[r.v] w fun e w'=>e=.returned r.norm.v∧bH [] w w':=by
 cases hb:r.empty with
 | true=>
  have he:=iF r;rw [hb]at he;obtain⟨x0,y0,x1,y1⟩:=r;unfold Rc.norm;rw [hb,if_pos rfl];simp only [Rc.v,Rc.zero]at *;have HE:=lh he;clear he hb;have T0:bH [] _ _:=((tR w).alloc (.cells #[x0,y0,x1,y1] 24)).alloc (.cells #[(0:Int),(0:Int),(0:Int),(0:Int)] 24);have TT:=T0.here;go_enter func119,ntmps119;go_wp2_with (go_at_call 18;refine TT.call (HE.out _) ?_;intro w1 TT hc hf)
  have TT:=T0.trans TT;refine bodyPost_ret (v:=.agg #[(0:Int),(0:Int),(0:Int),(0:Int)]) (by simp [results,results119,go_sem,hc]) rfl ⟨rfl,((((TT.sc).sc).sc).sc)⟩
 | false=>
  have he:=iF r;rw [hb]at he;obtain⟨x0,y0,x1,y1⟩:=r;unfold Rc.norm;rw [hb,if_neg (by simp)];simp only [Rc.v]at *;have HE:=lh he;clear he hb;have T0:bH [] _ _:=((tR w).alloc (.cells #[x0,y0,x1,y1] 24)).alloc (.cells #[(0:Int),(0:Int),(0:Int),(0:Int)] 24);have TT:=T0.here;go_enter func119,ntmps119;go_wp2_with (go_at_call 18;refine TT.call (HE.out _) ?_;intro w1 TT hc hf)
  have TT:=T0.trans TT;refine bodyPost_ret (v:=.agg #[x0,y0,x1,y1]) (by simp [results,results119,go_sem,hc]) rfl ⟨rfl,((((TT.sc).sc).sc).sc)⟩
theorem xJ(a b:Rc)(w:World): Calls prog 78 #[a.v,b.v] w fun e w'=>e=.returned (a.meet b).v∧bH [] w w':=by
 have hn:=tY (Rc.mk (max a.x0 b.x0) (max a.y0 b.y0) (min a.x1 b.x1) (min a.y1 b.y1));have hm:(Rc.mk (max a.x0 b.x0) (max a.y0 b.y0) (min a.x1 b.x1) (min a.y1 b.y1)).norm=a.meet b:=rfl;rw [hm]at hn;clear hm;obtain⟨ax0,ay0,ax1,ay1⟩:=a;obtain⟨bx0,by0,bx1,by1⟩:=b;generalize (Rc.mk ax0 ay0 ax1 ay1).meet ⟨bx0,by0,bx1,by1⟩=m at *;obtain⟨m0,m1,m2,m3⟩:=m;simp only [Rc.v]at *;have HN:=lh hn;clear hn;have T0:bH [] _ _:=(((tR w).alloc (.cells #[ax0,ay0,ax1,ay1] 24)).alloc (.cells #[bx0,by0,bx1,by1] 24)).alloc (.cells #[(0:Int),(0:Int),(0:Int),(0:Int)] 24);have TT:=T0.here;go_enter func78,ntmps78;go_wp2_with (first
  | (refine iV rfl _ _ rfl rfl rfl ?_)
  | (refine iG rfl _ _ rfl rfl rfl ?_)
  | (go_at_call 119;refine TT.call (HN.out _) ?_;intro w1 TT hc hf))
 have TT:=T0.trans TT;refine bodyPost_ret (v:=.agg #[m0,m1,m2,m3]) (by simp [results,results78,go_sem,hc]) rfl ⟨rfl,((((TT.sc).sc).sc).sc)⟩
theorem xG(a b:Rc)(w:World): Calls prog 125 #[a.v,b.v] w fun e w'=>e=.returned (a.join b).v∧bH [] w w':=by
 have hEa:=iF a;have hEb:=iF b;have hn:=tY b;cases ha:a.empty with
 | true=>
  have hj:a.join b=b.norm:=by simp [Rc.join,ha]
  rw [hj];rw [ha]at hEa;generalize b.norm=m at *;generalize b.empty=eb at *;clear hj ha;obtain⟨ax0,ay0,ax1,ay1⟩:=a;obtain⟨bx0,by0,bx1,by1⟩:=b;obtain⟨m0,m1,m2,m3⟩:=m;simp only [Rc.v]at *;have HN:=lh hn;have HA:=lh hEa;have HB:=lh hEb;clear hn hEa hEb;have T0:bH [] _ _:=(((tR w).alloc (.cells #[ax0,ay0,ax1,ay1] 24)).alloc (.cells #[bx0,by0,bx1,by1] 24)).alloc (.cells #[(0:Int),(0:Int),(0:Int),(0:Int)] 24);have TT:=T0.here;go_enter func125,ntmps125;go_wp2_with (first
   | (go_at_call 18;with_reducible refine TT.call (HA.out _) ?_;intro w1 TT hc hf)
   | (go_at_call 18;with_reducible refine TT.call (HB.out _) ?_;intro w2 TT hc hf)
   | (go_at_call 119;refine TT.call (HN.out _) ?_;intro w3 TT hc hf))
  have TT:=T0.trans TT;refine bodyPost_ret (v:=.agg #[m0,m1,m2,m3]) (by simp [results,results125,go_sem,hc]) rfl ⟨rfl,((((TT.sc).sc).sc).sc)⟩
 | false=>
  cases hb:b.empty with
  | true=>
   have hj:a.join b=a:=(by simp [Rc.join,ha,hb]);rw [hj];rw [ha]at hEa;rw [hb]at hEb;clear hj ha hb hn;obtain⟨ax0,ay0,ax1,ay1⟩:=a;obtain⟨bx0,by0,bx1,by1⟩:=b;simp only [Rc.v]at *;have HA:=lh hEa;have HB:=lh hEb;clear hEa hEb;have T0:bH [] _ _:=(((tR w).alloc (.cells #[ax0,ay0,ax1,ay1] 24)).alloc (.cells #[bx0,by0,bx1,by1] 24)).alloc (.cells #[(0:Int),(0:Int),(0:Int),(0:Int)] 24);have TT:=T0.here;go_enter func125,ntmps125;go_wp2_with (first
    | (go_at_call 18;with_reducible refine TT.call (HA.out _) ?_;intro w1 TT hc hf)
    | (go_at_call 18;with_reducible refine TT.call (HB.out _) ?_;intro w2 TT hc hf))
   have TT:=T0.trans TT;refine bodyPost_ret (v:=.agg #[ax0,ay0,ax1,ay1]) (by simp [results,results125,go_sem,hc]) rfl ⟨rfl,((((TT.sc).sc).sc).sc)⟩
  | false=>
   have hj:a.join b=⟨min a.x0 b.x0,min a.y0 b.y0,max a.x1 b.x1,max a.y1 b.y1⟩:=(by simp [Rc.join,ha,hb]);rw [hj];rw [ha]at hEa;rw [hb]at hEb;clear hj ha hb hn;obtain⟨ax0,ay0,ax1,ay1⟩:=a;obtain⟨bx0,by0,bx1,by1⟩:=b;simp only [Rc.v]at *;have HA:=lh hEa;have HB:=lh hEb;clear hEa hEb;have T0:bH [] _ _:=(((tR w).alloc (.cells #[ax0,ay0,ax1,ay1] 24)).alloc (.cells #[bx0,by0,bx1,by1] 24)).alloc (.cells #[(0:Int),(0:Int),(0:Int),(0:Int)] 24);have TT:=T0.here;go_enter func125,ntmps125;go_wp2_with (first
    | (refine iV rfl _ _ rfl rfl rfl ?_)
    | (refine iG rfl _ _ rfl rfl rfl ?_)
    | (go_at_call 18;with_reducible refine TT.call (HA.out _) ?_;intro w1 TT hc hf)
    | (go_at_call 18;with_reducible refine TT.call (HB.out _) ?_;intro w2 TT hc hf))
   have TT:=T0.trans TT;refine bodyPost_ret (v:=.agg #[.int .i64 (min ax0 bx0),.int .i64 (min ay0 by0),.int .i64 (max ax1 bx1),.int .i64 (max ay1 by1)]) (by simp [results,results125,go_sem,hc]) rfl ⟨rfl,((((TT.sc).sc).sc).sc)⟩
theorem iM(r:Rc)(w:World): Calls prog 46 #[r.v] w fun e w'=>e=.returned (.bool r.empty)∧bH [] w w':=by
 obtain⟨x0,y0,x1,y1⟩:=r;unfold Rc.v Rc.empty;by_cases h1:x1≤x0
 ·go_enter func46,ntmps46;go_wp2_with fail
  go_ret;exact⟨by simp [h1],(bH.refl _ _).alloc _⟩
 go_enter func46,ntmps46;go_wp2_with fail
 go_ret;exact⟨by simp;omega,(bH.refl _ _).alloc _⟩
theorem vK(r:Rc)(w:World): Calls prog 98 #[r.v] w fun e w'=>e=.returned r.norm.v∧bH [] w w':=by
 cases hb:r.empty with
 | true=>
  have he:=iM r;rw [hb]at he;obtain⟨x0,y0,x1,y1⟩:=r;unfold Rc.norm;rw [hb,if_pos rfl];simp only [Rc.v,Rc.zero]at *;have HE:=lh he;clear he hb;have T0:bH [] _ _:=((tR w).alloc (.cells #[x0,y0,x1,y1] 24)).alloc (.cells #[(0:Int),(0:Int),(0:Int),(0:Int)] 24);have TT:=T0.here;go_enter func98,ntmps98;go_wp2_with (go_at_call 46;refine TT.call (HE.out _) ?_;intro w1 TT hc hf)
  have TT:=T0.trans TT;refine bodyPost_ret (v:=.agg #[(0:Int),(0:Int),(0:Int),(0:Int)]) (by simp [results,results98,go_sem,hc]) rfl ⟨rfl,((((TT.sc).sc).sc).sc)⟩
 | false=>
  have he:=iM r;rw [hb]at he;obtain⟨x0,y0,x1,y1⟩:=r;unfold Rc.norm;rw [hb,if_neg (by simp)];simp only [Rc.v]at *;have HE:=lh he;clear he hb;have T0:bH [] _ _:=((tR w).alloc (.cells #[x0,y0,x1,y1] 24)).alloc (.cells #[(0:Int),(0:Int),(0:Int),(0:Int)] 24);have TT:=T0.here;go_enter func98,ntmps98;go_wp2_with (go_at_call 46;refine TT.call (HE.out _) ?_;intro w1 TT hc hf)
  have TT:=T0.trans TT;refine bodyPost_ret (v:=.agg #[x0,y0,x1,y1]) (by simp [results,results98,go_sem,hc]) rfl ⟨rfl,((((TT.sc).sc).sc).sc)⟩
theorem Gl(a b:Rc)(w:World): Calls prog 54 #[a.v,b.v] w fun e w'=>e=.returned (a.meet b).v∧bH [] w w':=by
 have hn:=vK (Rc.mk (max a.x0 b.x0) (max a.y0 b.y0) (min a.x1 b.x1) (min a.y1 b.y1));have hm:(Rc.mk (max a.x0 b.x0) (max a.y0 b.y0) (min a.x1 b.x1) (min a.y1 b.y1)).norm=a.meet b:=rfl;rw [hm]at hn;clear hm;obtain⟨ax0,ay0,ax1,ay1⟩:=a;obtain⟨bx0,by0,bx1,by1⟩:=b;generalize (Rc.mk ax0 ay0 ax1 ay1).meet ⟨bx0,by0,bx1,by1⟩=m at *;obtain⟨m0,m1,m2,m3⟩:=m;simp only [Rc.v]at *;have HN:=lh hn;clear hn;have T0:bH [] _ _:=(((tR w).alloc (.cells #[ax0,ay0,ax1,ay1] 24)).alloc (.cells #[bx0,by0,bx1,by1] 24)).alloc (.cells #[(0:Int),(0:Int),(0:Int),(0:Int)] 24);have TT:=T0.here;go_enter func54,ntmps54;go_wp2_with (first
  | (refine iV rfl _ _ rfl rfl rfl ?_)
  | (refine iG rfl _ _ rfl rfl rfl ?_)
  | (go_at_call 98;refine TT.call (HN.out _) ?_;intro w1 TT hc hf))
 have TT:=T0.trans TT;refine bodyPost_ret (v:=.agg #[m0,m1,m2,m3]) (by simp [results,results54,go_sem,hc]) rfl ⟨rfl,((((TT.sc).sc).sc).sc)⟩
theorem BX(a b:Rc)(w:World): Calls prog 132 #[a.v,b.v] w fun e w'=>e=.returned (a.join b).v∧bH [] w w':=by
 have hEa:=iM a;have hEb:=iM b;have hn:=vK b;cases ha:a.empty with
 | true=>
  have hj:a.join b=b.norm:=by simp [Rc.join,ha]
  rw [hj];rw [ha]at hEa;generalize b.norm=m at *;generalize b.empty=eb at *;clear hj ha;obtain⟨ax0,ay0,ax1,ay1⟩:=a;obtain⟨bx0,by0,bx1,by1⟩:=b;obtain⟨m0,m1,m2,m3⟩:=m;simp only [Rc.v]at *;have HN:=lh hn;have HA:=lh hEa;have HB:=lh hEb;clear hn hEa hEb;have T0:bH [] _ _:=(((tR w).alloc (.cells #[ax0,ay0,ax1,ay1] 24)).alloc (.cells #[bx0,by0,bx1,by1] 24)).alloc (.cells #[(0:Int),(0:Int),(0:Int),(0:Int)] 24);have TT:=T0.here;go_enter func132,ntmps132;go_wp2_with (first
   | (go_at_call 46;with_reducible refine TT.call (HA.out _) ?_;intro w1 TT hc hf)
   | (go_at_call 46;with_reducible refine TT.call (HB.out _) ?_;intro w2 TT hc hf)
   | (go_at_call 98;refine TT.call (HN.out _) ?_;intro w3 TT hc hf))
  have TT:=T0.trans TT;refine bodyPost_ret (v:=.agg #[m0,m1,m2,m3]) (by simp [results,results132,go_sem,hc]) rfl ⟨rfl,((((TT.sc).sc).sc).sc)⟩
 | false=>
  cases hb:b.empty with
  | true=>
   have hj:a.join b=a:=(by simp [Rc.join,ha,hb]);rw [hj];rw [ha]at hEa;rw [hb]at hEb;clear hj ha hb hn;obtain⟨ax0,ay0,ax1,ay1⟩:=a;obtain⟨bx0,by0,bx1,by1⟩:=b;simp only [Rc.v]at *;have HA:=lh hEa;have HB:=lh hEb;clear hEa hEb;have T0:bH [] _ _:=(((tR w).alloc (.cells #[ax0,ay0,ax1,ay1] 24)).alloc (.cells #[bx0,by0,bx1,by1] 24)).alloc (.cells #[(0:Int),(0:Int),(0:Int),(0:Int)] 24);have TT:=T0.here;go_enter func132,ntmps132;go_wp2_with (first
    | (go_at_call 46;with_reducible refine TT.call (HA.out _) ?_;intro w1 TT hc hf)
    | (go_at_call 46;with_reducible refine TT.call (HB.out _) ?_;intro w2 TT hc hf))
   have TT:=T0.trans TT;refine bodyPost_ret (v:=.agg #[ax0,ay0,ax1,ay1]) (by simp [results,results132,go_sem,hc]) rfl ⟨rfl,((((TT.sc).sc).sc).sc)⟩
  | false=>
   have hj:a.join b=⟨min a.x0 b.x0,min a.y0 b.y0,max a.x1 b.x1,max a.y1 b.y1⟩:=(by simp [Rc.join,ha,hb]);rw [hj];rw [ha]at hEa;rw [hb]at hEb;clear hj ha hb hn;obtain⟨ax0,ay0,ax1,ay1⟩:=a;obtain⟨bx0,by0,bx1,by1⟩:=b;simp only [Rc.v]at *;have HA:=lh hEa;have HB:=lh hEb;clear hEa hEb;have T0:bH [] _ _:=(((tR w).alloc (.cells #[ax0,ay0,ax1,ay1] 24)).alloc (.cells #[bx0,by0,bx1,by1] 24)).alloc (.cells #[(0:Int),(0:Int),(0:Int),(0:Int)] 24);have TT:=T0.here;go_enter func132,ntmps132;go_wp2_with (first
    | (refine iV rfl _ _ rfl rfl rfl ?_)
    | (refine iG rfl _ _ rfl rfl rfl ?_)
    | (go_at_call 46;with_reducible refine TT.call (HA.out _) ?_;intro w1 TT hc hf)
    | (go_at_call 46;with_reducible refine TT.call (HB.out _) ?_;intro w2 TT hc hf))
   have TT:=T0.trans TT;refine bodyPost_ret (v:=.agg #[.int .i64 (min ax0 bx0),.int .i64 (min ay0 by0),.int .i64 (max ax1 bx1),.int .i64 (max ay1 by1)]) (by simp [results,results132,go_sem,hc]) rfl ⟨rfl,((((TT.sc).sc).sc).sc)⟩
end
def Rc.bd(r:Rc): Prop:=(-1099511627776≤r.x0∧r.x0≤1099511627776)∧(-1099511627776≤r.y0∧r.y0≤1099511627776)∧(-1099511627776≤r.x1∧r.x1≤1099511627776)∧(-1099511627776≤r.y1∧r.y1≤1099511627776)
def Rc.grow(r:Rc)(n:Int): Rc:=if r.empty then Rc.zero else (Rc.mk (r.x0 - n) (r.y0 - n) (r.x1+n) (r.y1+n)).norm
def Rc.move(r:Rc)(x y:Int): Rc:=if r.empty then Rc.zero else (Rc.mk (r.x0+x) (r.y0+y) (r.x1+x) (r.y1+y)).norm
def iq(a b:Int): Int:=if b == 0 then 0 else if (a.tmod b != 0) && (decide (a<0) != decide (b<0)) then a.tdiv b - 1 else a.tdiv b
def qG(a b:Int): Int:=if b == 0 then 0 else if (a.tmod b != 0) && (decide (a<0) == decide (b<0)) then a.tdiv b+1 else a.tdiv b
theorem vN(a b M:Int)(h0:-M≤a)(h1:a≤M): -M≤a.tdiv b∧a.tdiv b≤M:=by
 have h:(a.tdiv b).natAbs≤a.natAbs:=by rw [Int.natAbs_tdiv];exact Nat.div_le_self _ _
 omega
theorem N7(r:Rc)(n:Int)(hr:r.bd)(h0:-1099511627776≤n)(h1:n≤1099511627776)(w:World): Calls prog 128 #[r.v,n] w fun e w'=>e=.returned (r.grow n).v∧bH [] w w':=by
 obtain⟨x0,y0,x1,y1⟩:=r;obtain⟨⟨b0,b1⟩,⟨b2,b3⟩,⟨b4,b5⟩,b6,b7⟩:=hr;simp only at b0 b1 b2 b3 b4 b5 b6 b7;have he:=iF ⟨x0,y0,x1,y1⟩;have hn:=tY ⟨x0 - n,y0 - n,x1+n,y1+n⟩;cases hb:(Rc.mk x0 y0 x1 y1).empty with
 | true=>
  rw [hb]at he;unfold Rc.grow;rw [hb,aG rfl];simp only [Rc.v,Rc.zero]at *;have HE:=lh he;clear he hn hb;have T0:bH [] _ _:=((tR w).alloc (.cells #[x0,y0,x1,y1] 24)).alloc (.cells #[(0:Int),(0:Int),(0:Int),(0:Int)] 24);have TT:=T0.here;go_enter func128,ntmps128;go_wp2_with (go_at_call 18;refine TT.call (HE.o _) ?_;intro w1 TT hc hf)
  have TT:=T0.trans TT;refine ag (v:=.agg #[(0:Int),(0:Int),(0:Int),(0:Int)]) (by simp [results,results128,go_sem,hc]) rfl ⟨rfl,((((TT.sc).sc).sc).sc)⟩
 | false=>
  rw [hb]at he;unfold Rc.grow;rw [hb,aF (by simp)];simp only at hn ⊢;generalize (Rc.mk (x0 - n) (y0 - n) (x1+n) (y1+n)).norm=m at *;obtain⟨m0,m1,m2,m3⟩:=m;simp only [Rc.v]at *;have HE:=lh he;have HN:=lh hn;clear he hn hb;have T0:bH [] _ _:=((tR w).alloc (.cells #[x0,y0,x1,y1] 24)).alloc (.cells #[(0:Int),(0:Int),(0:Int),(0:Int)] 24);have TT:=T0.here;go_enter func128,ntmps128;go_wp2_with (first
   | (go_at_call 18;refine TT.call (HE.o _) ?_;intro w1 TT hc hf)
   | (go_at_call 119;refine TT.call (HN.o _) ?_;intro w2 TT hc hf))
  have TT:=T0.trans TT;refine ag (v:=.agg #[m0,m1,m2,m3]) (by simp [results,results128,go_sem,hc]) rfl ⟨rfl,((((TT.sc).sc).sc).sc)⟩
theorem NF(r:Rc)(x y:Int)(hr:r.bd)(h0:-1099511627776≤x)(h1:x≤1099511627776)(h2:-1099511627776≤y)(h3:y≤1099511627776)(w:World): Calls prog 129 #[r.v,x,y] w fun e w'=>e=.returned (r.move x y).v∧bH [] w w':=by
 obtain⟨x0,y0,x1,y1⟩:=r;obtain⟨⟨b0,b1⟩,⟨b2,b3⟩,⟨b4,b5⟩,b6,b7⟩:=hr;simp only at b0 b1 b2 b3 b4 b5 b6 b7;have he:=iF ⟨x0,y0,x1,y1⟩;have hn:=tY ⟨x0+x,y0+y,x1+x,y1+y⟩;cases hb:(Rc.mk x0 y0 x1 y1).empty with
 | true=>
  rw [hb]at he;unfold Rc.move;rw [hb,aG rfl];simp only [Rc.v,Rc.zero]at *;have HE:=lh he;clear he hn hb;have T0:bH [] _ _:=((tR w).alloc (.cells #[x0,y0,x1,y1] 24)).alloc (.cells #[(0:Int),(0:Int),(0:Int),(0:Int)] 24);have TT:=T0.here;go_enter func129,ntmps129;go_wp2_with (go_at_call 18;refine TT.call (HE.o _) ?_;intro w1 TT hc hf)
  have TT:=T0.trans TT;refine ag (v:=.agg #[(0:Int),(0:Int),(0:Int),(0:Int)]) (by simp [results,results129,go_sem,hc]) rfl ⟨rfl,((((TT.sc).sc).sc).sc)⟩
 | false=>
  rw [hb]at he;unfold Rc.move;rw [hb,aF (by simp)];simp only at hn ⊢;generalize (Rc.mk (x0+x) (y0+y) (x1+x) (y1+y)).norm=m at *;obtain⟨m0,m1,m2,m3⟩:=m;simp only [Rc.v]at *;have HE:=lh he;have HN:=lh hn;clear he hn hb;have T0:bH [] _ _:=((tR w).alloc (.cells #[x0,y0,x1,y1] 24)).alloc (.cells #[(0:Int),(0:Int),(0:Int),(0:Int)] 24);have TT:=T0.here;go_enter func129,ntmps129;go_wp2_with (first
   | (go_at_call 18;refine TT.call (HE.o _) ?_;intro w1 TT hc hf)
   | (go_at_call 119;refine TT.call (HN.o _) ?_;intro w2 TT hc hf))
  have TT:=T0.trans TT;refine ag (v:=.agg #[m0,m1,m2,m3]) (by simp [results,results129,go_sem,hc]) rfl ⟨rfl,((((TT.sc).sc).sc).sc)⟩
theorem J3(a b:Int)(h0:-4611686018427387904≤a)(h1:a≤4611686018427387904)(w:World): Calls prog 139 #[a,b] w fun e w'=>e=.returned (.int .i64 (iq a b))∧w=w':=by
 obtain⟨d0,d1⟩:=vN a b 4611686018427387904 h0 h1;unfold iq;by_cases hb:b=0
 ·subst hb;go_enter func139,ntmps139;go_wp2_with fail
  go_ret;exact⟨rfl,rfl⟩
 have hbb:(b == 0)=false:=by simpa using hb
 rw [hbb];cases hm:(a.tmod b != 0) <;> cases ha:decide (a<0) <;> cases hc:decide (b<0);all_goals
  go_enter func139,ntmps139;go_wp2_with fail
  go_ret;exact⟨by simp,rfl⟩
theorem LW(a b:Int)(h0:-4611686018427387904≤a)(h1:a≤4611686018427387904)(w:World): Calls prog 137 #[a,b] w fun e w'=>e=.returned (.int .i64 (qG a b))∧w=w':=by
 obtain⟨d0,d1⟩:=vN a b 4611686018427387904 h0 h1;unfold qG;by_cases hb:b=0
 ·subst hb;go_enter func137,ntmps137;go_wp2_with fail
  go_ret;exact⟨rfl,rfl⟩
 have hbb:(b == 0)=false:=by simpa using hb
 rw [hbb];cases hm:(a.tmod b != 0) <;> cases ha:decide (a<0) <;> cases hc:decide (b<0);all_goals
  go_enter func137,ntmps137;go_wp2_with fail
  go_ret;exact⟨by simp,rfl⟩
theorem PY(r:Rc)(n:Int)(hr:r.bd)(h0:-1099511627776≤n)(h1:n≤1099511627776)(w:World): Calls prog 183 #[r.v,n] w fun e w'=>e=.returned (r.grow n).v∧bH [] w w':=by
 obtain⟨x0,y0,x1,y1⟩:=r;obtain⟨⟨b0,b1⟩,⟨b2,b3⟩,⟨b4,b5⟩,b6,b7⟩:=hr;simp only at b0 b1 b2 b3 b4 b5 b6 b7;have he:=iM ⟨x0,y0,x1,y1⟩;have hn:=vK ⟨x0 - n,y0 - n,x1+n,y1+n⟩;cases hb:(Rc.mk x0 y0 x1 y1).empty with
 | true=>
  rw [hb]at he;unfold Rc.grow;rw [hb,aG rfl];simp only [Rc.v,Rc.zero]at *;have HE:=lh he;clear he hn hb;have T0:bH [] _ _:=((tR w).alloc (.cells #[x0,y0,x1,y1] 24)).alloc (.cells #[(0:Int),(0:Int),(0:Int),(0:Int)] 24);have TT:=T0.here;go_enter func183,ntmps183;go_wp2_with (go_at_call 46;refine TT.call (HE.o _) ?_;intro w1 TT hc hf)
  have TT:=T0.trans TT;refine ag (v:=.agg #[(0:Int),(0:Int),(0:Int),(0:Int)]) (by simp [results,results183,go_sem,hc]) rfl ⟨rfl,((((TT.sc).sc).sc).sc)⟩
 | false=>
  rw [hb]at he;unfold Rc.grow;rw [hb,aF (by simp)];simp only at hn ⊢;generalize (Rc.mk (x0 - n) (y0 - n) (x1+n) (y1+n)).norm=m at *;obtain⟨m0,m1,m2,m3⟩:=m;simp only [Rc.v]at *;have HE:=lh he;have HN:=lh hn;clear he hn hb;have T0:bH [] _ _:=((tR w).alloc (.cells #[x0,y0,x1,y1] 24)).alloc (.cells #[(0:Int),(0:Int),(0:Int),(0:Int)] 24);have TT:=T0.here;go_enter func183,ntmps183;go_wp2_with (first
   | (go_at_call 46;refine TT.call (HE.o _) ?_;intro w1 TT hc hf)
   | (go_at_call 98;refine TT.call (HN.o _) ?_;intro w2 TT hc hf))
  have TT:=T0.trans TT;refine ag (v:=.agg #[m0,m1,m2,m3]) (by simp [results,results183,go_sem,hc]) rfl ⟨rfl,((((TT.sc).sc).sc).sc)⟩
theorem PO(r:Rc)(x y:Int)(hr:r.bd)(h0:-1099511627776≤x)(h1:x≤1099511627776)(h2:-1099511627776≤y)(h3:y≤1099511627776)(w:World): Calls prog 184 #[r.v,x,y] w fun e w'=>e=.returned (r.move x y).v∧bH [] w w':=by
 obtain⟨x0,y0,x1,y1⟩:=r;obtain⟨⟨b0,b1⟩,⟨b2,b3⟩,⟨b4,b5⟩,b6,b7⟩:=hr;simp only at b0 b1 b2 b3 b4 b5 b6 b7;have he:=iM ⟨x0,y0,x1,y1⟩;have hn:=vK ⟨x0+x,y0+y,x1+x,y1+y⟩;cases hb:(Rc.mk x0 y0 x1 y1).empty with
 | true=>
  rw [hb]at he;unfold Rc.move;rw [hb,aG rfl];simp only [Rc.v,Rc.zero]at *;have HE:=lh he;clear he hn hb;have T0:bH [] _ _:=((tR w).alloc (.cells #[x0,y0,x1,y1] 24)).alloc (.cells #[(0:Int),(0:Int),(0:Int),(0:Int)] 24);have TT:=T0.here;go_enter func184,ntmps184;go_wp2_with (go_at_call 46;refine TT.call (HE.o _) ?_;intro w1 TT hc hf)
  have TT:=T0.trans TT;refine ag (v:=.agg #[(0:Int),(0:Int),(0:Int),(0:Int)]) (by simp [results,results184,go_sem,hc]) rfl ⟨rfl,((((TT.sc).sc).sc).sc)⟩
 | false=>
  rw [hb]at he;unfold Rc.move;rw [hb,aF (by simp)];simp only at hn ⊢;generalize (Rc.mk (x0+x) (y0+y) (x1+x) (y1+y)).norm=m at *;obtain⟨m0,m1,m2,m3⟩:=m;simp only [Rc.v]at *;have HE:=lh he;have HN:=lh hn;clear he hn hb;have T0:bH [] _ _:=((tR w).alloc (.cells #[x0,y0,x1,y1] 24)).alloc (.cells #[(0:Int),(0:Int),(0:Int),(0:Int)] 24);have TT:=T0.here;go_enter func184,ntmps184;go_wp2_with (first
   | (go_at_call 46;refine TT.call (HE.o _) ?_;intro w1 TT hc hf)
   | (go_at_call 98;refine TT.call (HN.o _) ?_;intro w2 TT hc hf))
  have TT:=T0.trans TT;refine ag (v:=.agg #[m0,m1,m2,m3]) (by simp [results,results184,go_sem,hc]) rfl ⟨rfl,((((TT.sc).sc).sc).sc)⟩
theorem wY(a b:Int)(h0:-4611686018427387904≤a)(h1:a≤4611686018427387904)(w:World): Calls prog 99 #[a,b] w fun e w'=>e=.returned (.int .i64 (iq a b))∧w=w':=by
 obtain⟨d0,d1⟩:=vN a b 4611686018427387904 h0 h1;unfold iq;by_cases hb:b=0
 ·subst hb;go_enter func99,ntmps99;go_wp2_with fail
  go_ret;exact⟨rfl,rfl⟩
 have hbb:(b == 0)=false:=by simpa using hb
 rw [hbb];cases hm:(a.tmod b != 0) <;> cases ha:decide (a<0) <;> cases hc:decide (b<0);all_goals
  go_enter func99,ntmps99;go_wp2_with fail
  go_ret;exact⟨by simp,rfl⟩
theorem Gi(a b:Int)(h0:-4611686018427387904≤a)(h1:a≤4611686018427387904)(w:World): Calls prog 149 #[a,b] w fun e w'=>e=.returned (.int .i64 (qG a b))∧w=w':=by
 obtain⟨d0,d1⟩:=vN a b 4611686018427387904 h0 h1;unfold qG;by_cases hb:b=0
 ·subst hb;go_enter func149,ntmps149;go_wp2_with fail
  go_ret;exact⟨rfl,rfl⟩
 have hbb:(b == 0)=false:=by simpa using hb
 rw [hbb];cases hm:(a.tmod b != 0) <;> cases ha:decide (a<0) <;> cases hc:decide (b<0);all_goals
  go_enter func149,ntmps149;go_wp2_with fail
  go_ret;exact⟨by simp,rfl⟩
section
open Go.ChangeMaps (setBlock)
end
end Go.Proofs.YtbpklgllihhgpaaGreat
