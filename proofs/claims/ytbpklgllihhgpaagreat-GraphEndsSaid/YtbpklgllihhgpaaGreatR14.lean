import Derived.WalkLawsBesides
import Derived.ArgAppend
import Derived.Test.YtbpklgllihhgpaaGreatR11
import Derived.Test.YtbpklgllihhgpaaGreatR12
import Derived.Test.YtbpklgllihhgpaaGreatR13
set_option maxRecDepth 100000
set_option maxHeartbeats 16000000
namespace Go.Proofs.YtbpklgllihhgpaaGreat
section
open Go.Den
theorem progOK:ProgOK Tryz.prog:=progOK_of 273 (by kernel_rfl) (by kernel_rfl) (by kernel_rfl) (Checked.mixed Tryz.checked)
theorem extOK0:ExtOK Tryz.prog X0:=by
 intro f g hx self hs;unfold X0 at hx;cases h1:Nat.beq f 76 with
 | true=>
  rw [h1,cond_true]at hx;cases hx;rw [Nat.eq_of_beq_eq_true h1];exact check_ext hs
 | false=>
  rw [h1,cond_false]at hx;cases h2:Nat.beq f 26 with
  | true=>
   rw [h2,cond_true]at hx;cases hx;rw [Nat.eq_of_beq_eq_true h2];exact put_ext hs
  | false=>rw [h2]at hx;cases hx
theorem sameVs_eq:∀{x y:List Value},sameVs x y=true→x=y
 | [],[],_=>rfl
 | [],_ :: _,h=>by cases h
 | _ :: _,[],h=>by cases h
 | a :: x,b :: y,h=>by unfold sameVs at h;rw [Bool.and_eq_true]at h;rw [sameV_eq h.1,sameVs_eq h.2]
theorem ranTrue_spec{r:Option (Value×Mem)}(h:ranTrue r=true): ∃m,r=some (.bool true,m):=by
 unfold ranTrue at h;split at h
 ·exact⟨_,rfl⟩
 cases h
theorem ranTile_spec{r:Option (Value×Mem)}(h:ranTile r=true): ∃m,r=some (.agg ⟨tileL⟩,m):=by
 unfold ranTile at h;split at h
 ·rw [sameVs_eq h];exact⟨_,rfl⟩
 cases h
theorem clean_ext{self:Self}(hs:SelfOK Tryz.prog self): OneOK Tryz.prog 204 (xClean self):=by
 intro args m v m1 h α w args' hr ha;unfold xClean at h;split at h;case h_2=>cases h
 rename_i cs;cases hb:sameVs cs tileL with
 | false=>
  rw [hb,cond_false]at h;exact evBody_sound progOK hs _ m v m1 h α w args' hr ha
 | true=>
  rw [hb,cond_true]at h;cases h;have hcs:=sameVs_eq hb;subst hcs;obtain⟨m2,he⟩:=ranTile_spec clean_run;exact memo_ok progOK extOK0 (by kernel_rfl) (by kernel_rfl) he hr ha
theorem extOK1:ExtOK Tryz.prog X1:=by
 intro f g hx self hs;unfold X1 at hx;cases h1:Nat.beq f 76 with
 | true=>
  rw [h1,cond_true]at hx;cases hx;rw [Nat.eq_of_beq_eq_true h1];exact check_ext hs
 | false=>
  rw [h1,cond_false]at hx;cases h2:Nat.beq f 26 with
  | true=>
   rw [h2,cond_true]at hx;cases hx;rw [Nat.eq_of_beq_eq_true h2];exact put_ext hs
  | false=>
   rw [h2,cond_false]at hx;cases h3:Nat.beq f 204 with
   | true=>
    rw [h3,cond_true]at hx;cases hx;rw [Nat.eq_of_beq_eq_true h3];exact clean_ext hs
   | false=>rw [h3]at hx;cases hx
theorem sanity_any(w:World): Calls Tryz.prog 8 #[] w fun e w'=>e=.returned (.bool true)∧Ext0 w w':=by obtain⟨m,he⟩:=ranTrue_spec sanity_run;have h0:Rel Tryz.prog (fun _=>none) ⟨.e,0⟩ w:=⟨(fun _ _ h=>by cases h),(fun _ _ _ h=>by cases h),(fun _ _ _ _ _ _ h=>by cases h),fun _ _=>rfl⟩;refine (evCall_sound progOK extOK1 60 8 #[] ⟨.e,0⟩ _ m he (fun _=>none) w #[] h0 ⟨rfl,fun i h1 _=>absurd h1 (Nat.not_lt_zero i)⟩).mono ?_;rintro e w' ⟨β,v',rfl,hv,hst⟩;have:=VR.eq rfl hv;subst this;refine⟨rfl,hst.size,fun cb hcb=>hst.frame cb hcb ?_,hst.os,hst.tape,hst.output⟩;rintro⟨b,o,L,h1,_⟩;cases h1
end
section
open Go.RowKit Go.Den
theorem Ext0.trans{a b c:World}(h:Ext0 a b)(k:Ext0 b c): Ext0 a c:=
 ⟨Nat.le_trans h.size k.size,fun cb hc=>(k.old cb (Nat.lt_of_lt_of_le hc h.size)).trans (h.old cb hc),k.os.trans h.os,k.tape.trans h.tape,k.output.trans h.output⟩
theorem Ext0.drew{a b:World}(h:Ext0 a b): Ext0 a b.drew:=⟨h.size,h.old,h.os,h.tape,h.output⟩
noncomputable def Z66:Array Value:=match (Tryz.prog.info? 66).map (fun i=>i.zero)with | some (some (Value.agg cs))=>cs | _=>#[]
theorem info66z:(Tryz.prog.info? 66).map (fun i=>(i.zero,i.size))=some (some (.agg Z66),256):=by kernel_rfl
theorem sizeZ66:Z66.size=256:=by kernel_rfl
theorem build66(w:World): (Instr.build 66 #[]).run Tryz.prog w=.ok (.agg Z66) w:=by kernel_rfl
theorem alloc66(w:World): (Instr.alloc 66 true (.tuple #[])).run Tryz.prog w=.ok (.pointer (some ⟨w.heap.size,0,none⟩)) (w.alloc (.cells Z66 66)):=by unfold Instr.alloc;rw [Sem.run_bind,(zero_of_info info66z).1];rfl
end
section
open Go.RowKit Go.Den
open Go.ChangeMaps (setBlock)
structure Turn(bs:List Nat)(w w':World): Prop where
 size:w.heap.size≤w'.heap.size
 old:∀j,j<w.heap.size→j∉bs→w'.heap[j]?=w.heap[j]?
 os:w'.os=w.os
 tape:w'.tape=w.tape
 output:w'.output=w.output
namespace Turn
variable {bs:List Nat} {w u v:World}
theorem refl(bs:List Nat)(w:World): Turn bs w w:=⟨Nat.le_refl _,fun _ _ _=>rfl,rfl,rfl,rfl⟩
theorem trans(h:Turn bs w u)(k:Turn bs u v): Turn bs w v:=
 ⟨Nat.le_trans h.size k.size,fun j hj hn=>(k.old j (Nat.lt_of_lt_of_le hj h.size) hn).trans (h.old j hj hn),k.os.trans h.os,k.tape.trans h.tape,k.output.trans h.output⟩
theorem ext(h:Turn bs w u)(k:Ext0 u v): Turn bs w v:=h.trans ⟨k.size,fun j hj _=>k.old j hj,k.os,k.tape,k.output⟩
theorem mono{cs:List Nat}(h:Turn bs w u)(hs:∀b∈bs,b∈cs): Turn cs w u:=⟨h.size,fun j hj hn=>h.old j hj fun hb=>hn (hs j hb),h.os,h.tape,h.output⟩
theorem alloc(h:Turn bs w u)(o:Obj): Turn bs w (u.alloc o):=h.ext ((Ext0.refl u).alloc o)
theorem drawn(h:Turn bs w u)(n:Nat): Turn bs w (u.drewN n):=⟨h.size,h.old,h.os,h.tape,h.output⟩
theorem setCell(h:Turn bs w u){a:Addr}(x:Value)(ha:a.block∈bs∨w.heap.size≤a.block): Turn bs w (u.setCell a x):=by refine⟨by simpa [World.setCell]using h.size,fun j hj hn=>?_,h.os,h.tape,h.output⟩;rw [Go.Den.heap_setCell _ _ _ _ (by rintro rfl;rcases ha with ha | ha;exact hn ha;omega)];exact h.old j hj hn
theorem setRow(h:Turn bs w u){g:Nat}(cs:Array Value)(hg:g∈bs∨w.heap.size≤g): Turn bs w (u.setRow g cs):=by
 refine⟨by simpa [World.setRow]using h.size,fun j hj hn=>?_,h.os,h.tape,h.output⟩;have hjg:g≠j:=by rintro rfl;rcases hg with hg | hg;exact hn hg;omega
 simp only [World.setRow,Array.getElem?_modify,hjg,if_false];exact h.old j hj hn
theorem setBlock(h:Turn bs w u){g:Nat}(o:Obj)(hg:g∈bs∨w.heap.size≤g): Turn bs w (Go.ChangeMaps.setBlock u g o):=by
 refine⟨by simpa [Go.ChangeMaps.setBlock]using h.size,fun j hj hn=>?_,h.os,h.tape,h.output⟩;have hjg:g≠j:=by rintro rfl;rcases hg with hg | hg;exact hn hg;omega
 simp only [Go.ChangeMaps.setBlock,Array.getElem?_setIfInBounds,hjg,if_false];exact h.old j hj hn
end Turn
theorem store_row{t ty:TypeId}{g:Nat}{old cells:Array Value}{w:World}(hg:w.heap[g]?=some (.cells old t (0,0)))(hi:(Tryz.prog.info? ty).map (·.size)=some cells.size)(ho:old.size=cells.size)(h1:cells.all (·.oneCell')=true):
  (Instr.storeAt ty (.pointer (some ⟨g,0,none⟩)) (.agg cells)).run Tryz.prog w=.ok () (w.setRow g cells):=by
 simp only [Instr.storeAt,Instr.sureAddr,Sem.run_bind,Sem.run_pure,Result.andThen];exact run_storeVar_row w g t ty old cells hg hi ho h1
theorem z66:Z66=Tryz.zeroCells66:=by kernel_rfl
end
end Go.Proofs.YtbpklgllihhgpaaGreat
namespace Go.Proofs.YtbpklgllihhgpaaGreat
open Tryz Go.RowKit Go.Den
section
section
variable {ops:Array Oper} {rest:List Oper} {o:Oper} {a:Act} {w:World} {Q:Exit→Act→World→Prop}
theorem run_max(p q:Int)(ty:TypeId)(w:World): (Builtin.max_ #[3,3] ty #[.int .i64 p,.int .i64 q]).run Tryz.prog w=.ok (.int .i64 (max p q)) w:=by
 by_cases h:p<q
 ·have e:max p q=q:=by omega
  rw [e];go_simp
 have e:max p q=p:=by omega
 rw [e];go_simp
theorem run_min(p q:Int)(ty:TypeId)(w:World): (Builtin.min_ #[3,3] ty #[.int .i64 p,.int .i64 q]).run Tryz.prog w=.ok (.int .i64 (min p q)) w:=by
 by_cases h:q<p
 ·have e:min p q=q:=by omega
  rw [e];go_simp
 have e:min p q=p:=by omega
 rw [e];go_simp
theorem wpList_max(hg:o.guard=none)(s x:Operand)(hop:o.op=Op.call { callee:=Callee.builtin Builtin.max,args:=#[s,x],argTypes:=#[3,3] }){p q:Int}(hs:a.eval s=.int .i64 p)(hx:a.eval x=.int .i64 q)
  (h:wpList Tryz.prog ops Q rest (a.put o.dst (.int .i64 (max p q))) w):wpList Tryz.prog ops Q (o :: rest) a w:=by
 refine wpList_plain hg fun K hK=>?_;unfold Oper.wp;have e:=run_max p q o.type w;simp [execOp,hop,resolve,invoke,builtin,hs,hx,e,Result.andThen];exact hK _ _ h
theorem wpList_min(hg:o.guard=none)(s x:Operand)(hop:o.op=Op.call { callee:=Callee.builtin Builtin.min,args:=#[s,x],argTypes:=#[3,3] }){p q:Int}(hs:a.eval s=.int .i64 p)(hx:a.eval x=.int .i64 q)
  (h:wpList Tryz.prog ops Q rest (a.put o.dst (.int .i64 (min p q))) w):wpList Tryz.prog ops Q (o :: rest) a w:=by
 refine wpList_plain hg fun K hK=>?_;unfold Oper.wp;have e:=run_min p q o.type w;simp [execOp,hop,resolve,invoke,builtin,hs,hx,e,Result.andThen];exact hK _ _ h
end
structure Rc where
 x0:Int
 y0:Int
 x1:Int
 y1:Int
def Rc.v(r:Rc): Value:=.agg #[.int .i64 r.x0,.int .i64 r.y0,.int .i64 r.x1,.int .i64 r.y1]
def Rc.empty(r:Rc): Bool:=decide (r.x1≤r.x0) || decide (r.y1≤r.y0)
def Rc.zero:Rc:=⟨0,0,0,0⟩
def Rc.norm(r:Rc): Rc:=if r.empty then Rc.zero else r
def Rc.meet(a b:Rc): Rc:=(Rc.mk (max a.x0 b.x0) (max a.y0 b.y0) (min a.x1 b.x1) (min a.y1 b.y1)).norm
def Rc.join(a b:Rc): Rc:=if a.empty then b.norm else if b.empty then a else ⟨min a.x0 b.x0,min a.y0 b.y0,max a.x1 b.x1,max a.y1 b.y1⟩
theorem tcell{W w1:World}(ht:Turn [] W w1): (∀b o,b<W.heap.size→w1.cell? ⟨b,o,none⟩=W.cell? ⟨b,o,none⟩)∧(∀b o,b<W.heap.size→w1.frozen? ⟨b,o,none⟩=W.frozen? ⟨b,o,none⟩):=by refine⟨fun b o h=>?_,fun b o h=>?_⟩ <;> simp only [World.cell?,World.frozen?,ht.old b h (by simp)]
theorem lh{p:Prop}(h:p): RowKit.Hid p:=h
theorem hpAt(w:World)(o:Obj)(b:Nat): (w.alloc o).heap[b]?=if b=w.heap.size then some o else w.heap[b]?:=by
 by_cases h:b=w.heap.size
 ·rw [if_pos h,h];exact heap_alloc_new _ _
 rw [if_neg h];show (w.heap.push o)[b]?=_;rw [Array.getElem?_push,if_neg h]
theorem tR(w:World): Turn [] w w:=Turn.refl [] w
theorem Turn.here{bs:List Nat}{w u:World}(_:Turn bs w u): Turn [] u u:=Turn.refl [] u
theorem Turn.sc{bs:List Nat}{w u:World}{a:Addr}{v:Value}(h:Turn bs w u)(hb:w.heap.size≤a.block:=by dsimp only;omega): Turn bs w (u.setCell a v):=h.setCell v (.inr hb)
theorem Turn.call{P:Program}{f:FuncId}{args:Array Value}{w W:World}{v:Ending}{Q:Ending→World→Prop}(T:Turn [] W w)(h:Calls P f args w fun e w'=>e=v∧Turn [] w w')(k:∀w',Turn [] W w'→(∀b o,b<W.heap.size→w'.cell? ⟨b,o,none⟩=W.cell? ⟨b,o,none⟩)→(∀b o,b<W.heap.size→w'.frozen? ⟨b,o,none⟩=W.frozen? ⟨b,o,none⟩)→Q v w'): Calls P f args w Q:=
 h.mono fun e w' hh=>by obtain⟨rfl,ht⟩:=hh;obtain⟨hc,hf⟩:=tcell (T.trans ht);exact k w' (T.trans ht) hc hf
theorem tq{W u:World}{b o:Nat}{v:Value}(hc:∀b o,b<W.heap.size→u.cell? ⟨b,o,none⟩=W.cell? ⟨b,o,none⟩)(q:W.cell? ⟨b,o,none⟩=some v): u.cell? ⟨b,o,none⟩=some v:=(hc b o (block_lt_of_cell q)).trans q
theorem tc{W u:World}{b o:Nat}{v:Value}(h:Turn [] W u)(q:W.cell? ⟨b,o,none⟩=some v): u.cell? ⟨b,o,none⟩=some v:=tq (tcell h).1 q
theorem cAt{w:World}{g:Nat}(i:Nat){L:Array Value}{t:TypeId}{z:Nat×Nat}{v:Value}(h:w.heap[g]?=some (.cells L t z))(hv:L[i]?=some v): w.cell? ⟨g,i,none⟩=some v:=by rw [cell_of_row _ _ _ _ _ _ h];exact hv
theorem al1{w W:World}{A:Array Value}{s:TypeId}(h:W=w.alloc (.cells A s)): W.heap[w.heap.size]?=some (.cells A s (0,0)):=by subst h;exact heap_alloc_new _ _
theorem al2{w W:World}{A0 A1:Array Value}{s0 s1:TypeId}(h:W=(w.alloc (.cells A0 s0)).alloc (.cells A1 s1)): W.heap[w.heap.size]?=some (.cells A0 s0 (0,0))∧W.heap[w.heap.size+1]?=some (.cells A1 s1 (0,0)):=by
 subst h;simp only [hpAt,World.size_alloc];refine⟨?_,?_⟩
 ·rw [if_neg (by omega),if_pos (by first | trivial | omega)]
 rw [if_pos (by first | trivial | omega)]
theorem al3{w W:World}{A0 A1 A2:Array Value}{s0 s1 s2:TypeId}(h:W=((w.alloc (.cells A0 s0)).alloc (.cells A1 s1)).alloc (.cells A2 s2)): W.heap[w.heap.size]?=some (.cells A0 s0 (0,0))∧W.heap[w.heap.size+1]?=some (.cells A1 s1 (0,0))∧W.heap[w.heap.size+2]?=some (.cells A2 s2 (0,0)):=by
 subst h;simp only [hpAt,World.size_alloc];refine⟨?_,?_,?_⟩
 ·rw [if_neg (by omega),if_neg (by omega),if_pos (by first | trivial | omega)]
 ·rw [if_neg (by omega),if_pos (by first | trivial | omega)]
 rw [if_pos (by first | trivial | omega)]
theorem al4{w W:World}{A0 A1 A2 A3:Array Value}{s0 s1 s2 s3:TypeId}(h:W=(((w.alloc (.cells A0 s0)).alloc (.cells A1 s1)).alloc (.cells A2 s2)).alloc (.cells A3 s3)): W.heap[w.heap.size]?=some (.cells A0 s0 (0,0))∧W.heap[w.heap.size+1]?=some (.cells A1 s1 (0,0))∧W.heap[w.heap.size+2]?=some (.cells A2 s2 (0,0))∧W.heap[w.heap.size+3]?=some (.cells A3 s3 (0,0)):=by
 subst h;simp only [hpAt,World.size_alloc];refine⟨?_,?_,?_,?_⟩
 ·rw [if_neg (by omega),if_neg (by omega),if_neg (by omega),if_pos (by first | trivial | omega)]
 ·rw [if_neg (by omega),if_neg (by omega),if_pos (by first | trivial | omega)]
 ·rw [if_neg (by omega),if_pos (by first | trivial | omega)]
 rw [if_pos (by first | trivial | omega)]
theorem al5{w W:World}{A0 A1 A2 A3 A4:Array Value}{s0 s1 s2 s3 s4:TypeId}(h:W=((((w.alloc (.cells A0 s0)).alloc (.cells A1 s1)).alloc (.cells A2 s2)).alloc (.cells A3 s3)).alloc (.cells A4 s4)): W.heap[w.heap.size]?=some (.cells A0 s0 (0,0))∧W.heap[w.heap.size+1]?=some (.cells A1 s1 (0,0))∧W.heap[w.heap.size+2]?=some (.cells A2 s2 (0,0))∧W.heap[w.heap.size+3]?=some (.cells A3 s3 (0,0))∧W.heap[w.heap.size+4]?=some (.cells A4 s4 (0,0)):=by
 subst h;simp only [hpAt,World.size_alloc];refine⟨?_,?_,?_,?_,?_⟩
 ·rw [if_neg (by omega),if_neg (by omega),if_neg (by omega),if_neg (by omega),if_pos (by first | trivial | omega)]
 ·rw [if_neg (by omega),if_neg (by omega),if_neg (by omega),if_pos (by first | trivial | omega)]
 ·rw [if_neg (by omega),if_neg (by omega),if_pos (by first | trivial | omega)]
 ·rw [if_neg (by omega),if_pos (by first | trivial | omega)]
 rw [if_pos (by first | trivial | omega)]
theorem cs2{w:World}{g:Nat}{a0 a1:Value}{t:TypeId}{z:Nat×Nat}(h:w.heap[g]?=some (.cells #[a0,a1] t z)): w.cell? ⟨g,0,none⟩=some a0∧w.cell? ⟨g,1,none⟩=some a1:=⟨cAt 0 h rfl,cAt 1 h rfl⟩
theorem cs3{w:World}{g:Nat}{a0 a1 a2:Value}{t:TypeId}{z:Nat×Nat}(h:w.heap[g]?=some (.cells #[a0,a1,a2] t z)): w.cell? ⟨g,0,none⟩=some a0∧w.cell? ⟨g,1,none⟩=some a1∧w.cell? ⟨g,2,none⟩=some a2:=⟨cAt 0 h rfl,cAt 1 h rfl,cAt 2 h rfl⟩
theorem cs4{w:World}{g:Nat}{a0 a1 a2 a3:Value}{t:TypeId}{z:Nat×Nat}(h:w.heap[g]?=some (.cells #[a0,a1,a2,a3] t z)): w.cell? ⟨g,0,none⟩=some a0∧w.cell? ⟨g,1,none⟩=some a1∧w.cell? ⟨g,2,none⟩=some a2∧w.cell? ⟨g,3,none⟩=some a3:=⟨cAt 0 h rfl,cAt 1 h rfl,cAt 2 h rfl,cAt 3 h rfl⟩
theorem cs5{w:World}{g:Nat}{a0 a1 a2 a3 a4:Value}{t:TypeId}{z:Nat×Nat}(h:w.heap[g]?=some (.cells #[a0,a1,a2,a3,a4] t z)): w.cell? ⟨g,0,none⟩=some a0∧w.cell? ⟨g,1,none⟩=some a1∧w.cell? ⟨g,2,none⟩=some a2∧w.cell? ⟨g,3,none⟩=some a3∧w.cell? ⟨g,4,none⟩=some a4:=⟨cAt 0 h rfl,cAt 1 h rfl,cAt 2 h rfl,cAt 3 h rfl,cAt 4 h rfl⟩
theorem cs6{w:World}{g:Nat}{a0 a1 a2 a3 a4 a5:Value}{t:TypeId}{z:Nat×Nat}(h:w.heap[g]?=some (.cells #[a0,a1,a2,a3,a4,a5] t z)): w.cell? ⟨g,0,none⟩=some a0∧w.cell? ⟨g,1,none⟩=some a1∧w.cell? ⟨g,2,none⟩=some a2∧w.cell? ⟨g,3,none⟩=some a3∧w.cell? ⟨g,4,none⟩=some a4∧w.cell? ⟨g,5,none⟩=some a5:=⟨cAt 0 h rfl,cAt 1 h rfl,cAt 2 h rfl,cAt 3 h rfl,cAt 4 h rfl,cAt 5 h rfl⟩
theorem cs7{w:World}{g:Nat}{a0 a1 a2 a3 a4 a5 a6:Value}{t:TypeId}{z:Nat×Nat}(h:w.heap[g]?=some (.cells #[a0,a1,a2,a3,a4,a5,a6] t z)): w.cell? ⟨g,0,none⟩=some a0∧w.cell? ⟨g,1,none⟩=some a1∧w.cell? ⟨g,2,none⟩=some a2∧w.cell? ⟨g,3,none⟩=some a3∧w.cell? ⟨g,4,none⟩=some a4∧w.cell? ⟨g,5,none⟩=some a5∧w.cell? ⟨g,6,none⟩=some a6:=⟨cAt 0 h rfl,cAt 1 h rfl,cAt 2 h rfl,cAt 3 h rfl,cAt 4 h rfl,cAt 5 h rfl,cAt 6 h rfl⟩
theorem cs8{w:World}{g:Nat}{a0 a1 a2 a3 a4 a5 a6 a7:Value}{t:TypeId}{z:Nat×Nat}(h:w.heap[g]?=some (.cells #[a0,a1,a2,a3,a4,a5,a6,a7] t z)): w.cell? ⟨g,0,none⟩=some a0∧w.cell? ⟨g,1,none⟩=some a1∧w.cell? ⟨g,2,none⟩=some a2∧w.cell? ⟨g,3,none⟩=some a3∧w.cell? ⟨g,4,none⟩=some a4∧w.cell? ⟨g,5,none⟩=some a5∧w.cell? ⟨g,6,none⟩=some a6∧w.cell? ⟨g,7,none⟩=some a7:=⟨cAt 0 h rfl,cAt 1 h rfl,cAt 2 h rfl,cAt 3 h rfl,cAt 4 h rfl,cAt 5 h rfl,cAt 6 h rfl,cAt 7 h rfl⟩
theorem cs9{w:World}{g:Nat}{a0 a1 a2 a3 a4 a5 a6 a7 a8:Value}{t:TypeId}{z:Nat×Nat}(h:w.heap[g]?=some (.cells #[a0,a1,a2,a3,a4,a5,a6,a7,a8] t z)): w.cell? ⟨g,0,none⟩=some a0∧w.cell? ⟨g,1,none⟩=some a1∧w.cell? ⟨g,2,none⟩=some a2∧w.cell? ⟨g,3,none⟩=some a3∧w.cell? ⟨g,4,none⟩=some a4∧w.cell? ⟨g,5,none⟩=some a5∧w.cell? ⟨g,6,none⟩=some a6∧w.cell? ⟨g,7,none⟩=some a7∧w.cell? ⟨g,8,none⟩=some a8:=⟨cAt 0 h rfl,cAt 1 h rfl,cAt 2 h rfl,cAt 3 h rfl,cAt 4 h rfl,cAt 5 h rfl,cAt 6 h rfl,cAt 7 h rfl,cAt 8 h rfl⟩
theorem cs10{w:World}{g:Nat}{a0 a1 a2 a3 a4 a5 a6 a7 a8 a9:Value}{t:TypeId}{z:Nat×Nat}(h:w.heap[g]?=some (.cells #[a0,a1,a2,a3,a4,a5,a6,a7,a8,a9] t z)): w.cell? ⟨g,0,none⟩=some a0∧w.cell? ⟨g,1,none⟩=some a1∧w.cell? ⟨g,2,none⟩=some a2∧w.cell? ⟨g,3,none⟩=some a3∧w.cell? ⟨g,4,none⟩=some a4∧w.cell? ⟨g,5,none⟩=some a5∧w.cell? ⟨g,6,none⟩=some a6∧w.cell? ⟨g,7,none⟩=some a7∧w.cell? ⟨g,8,none⟩=some a8∧w.cell? ⟨g,9,none⟩=some a9:=⟨cAt 0 h rfl,cAt 1 h rfl,cAt 2 h rfl,cAt 3 h rfl,cAt 4 h rfl,cAt 5 h rfl,cAt 6 h rfl,cAt 7 h rfl,cAt 8 h rfl,cAt 9 h rfl⟩
instance:Coe Int Value:=⟨fun x=>.int .i64 x⟩
instance:Coe Nat Value:=⟨fun x=>.int .i64 (x:Int)⟩
instance:Coe World Nat:=⟨fun w=>w.heap.size⟩
theorem rect_empty(r:Rc)(w:World): Calls prog 18 #[r.v] w fun e w'=>e=.returned (.bool r.empty)∧Turn [] w w':=by
 obtain⟨x0,y0,x1,y1⟩:=r;unfold Rc.v Rc.empty;by_cases h1:x1≤x0
 ·go_enter func18,ntmps18;go_wp2_with fail
  go_ret;exact⟨by simp [h1],(Turn.refl _ _).alloc _⟩
 go_enter func18,ntmps18;go_wp2_with fail
 go_ret;exact⟨by simp;omega,(Turn.refl _ _).alloc _⟩
theorem rect_norm(r:Rc)(w:World): Calls prog 119 #[r.v] w fun e w'=>e=.returned r.norm.v∧Turn [] w w':=by
 cases hb:r.empty with
 | true=>
  have he:=rect_empty r;rw [hb]at he;obtain⟨x0,y0,x1,y1⟩:=r;unfold Rc.norm;rw [hb,if_pos rfl];simp only [Rc.v,Rc.zero]at *;have HE:=lh he;clear he hb;have T0:Turn [] _ _:=((tR w).alloc (.cells #[x0,y0,x1,y1] 24)).alloc (.cells #[(0:Int),(0:Int),(0:Int),(0:Int)] 24);have TT:=T0.here;go_enter func119,ntmps119;go_wp2_with (go_at_call 18;refine TT.call (HE.out _) ?_;intro w1 TT hc hf)
  have TT:=T0.trans TT;refine bodyPost_ret (v:=.agg #[(0:Int),(0:Int),(0:Int),(0:Int)]) (by simp [results,results119,go_sem,hc]) rfl ⟨rfl,((((TT.sc).sc).sc).sc)⟩
 | false=>
  have he:=rect_empty r;rw [hb]at he;obtain⟨x0,y0,x1,y1⟩:=r;unfold Rc.norm;rw [hb,if_neg (by simp)];simp only [Rc.v]at *;have HE:=lh he;clear he hb;have T0:Turn [] _ _:=((tR w).alloc (.cells #[x0,y0,x1,y1] 24)).alloc (.cells #[(0:Int),(0:Int),(0:Int),(0:Int)] 24);have TT:=T0.here;go_enter func119,ntmps119;go_wp2_with (go_at_call 18;refine TT.call (HE.out _) ?_;intro w1 TT hc hf)
  have TT:=T0.trans TT;refine bodyPost_ret (v:=.agg #[x0,y0,x1,y1]) (by simp [results,results119,go_sem,hc]) rfl ⟨rfl,((((TT.sc).sc).sc).sc)⟩
theorem rect_meet(a b:Rc)(w:World): Calls prog 78 #[a.v,b.v] w fun e w'=>e=.returned (a.meet b).v∧Turn [] w w':=by
 have hn:=rect_norm (Rc.mk (max a.x0 b.x0) (max a.y0 b.y0) (min a.x1 b.x1) (min a.y1 b.y1));have hm:(Rc.mk (max a.x0 b.x0) (max a.y0 b.y0) (min a.x1 b.x1) (min a.y1 b.y1)).norm=a.meet b:=rfl;rw [hm]at hn;clear hm;obtain⟨ax0,ay0,ax1,ay1⟩:=a;obtain⟨bx0,by0,bx1,by1⟩:=b;generalize (Rc.mk ax0 ay0 ax1 ay1).meet ⟨bx0,by0,bx1,by1⟩=m at *;obtain⟨m0,m1,m2,m3⟩:=m;simp only [Rc.v]at *;have HN:=lh hn;clear hn;have T0:Turn [] _ _:=(((tR w).alloc (.cells #[ax0,ay0,ax1,ay1] 24)).alloc (.cells #[bx0,by0,bx1,by1] 24)).alloc (.cells #[(0:Int),(0:Int),(0:Int),(0:Int)] 24);have TT:=T0.here;go_enter func78,ntmps78;go_wp2_with (first
  | (refine wpList_max rfl _ _ rfl rfl rfl ?_)
  | (refine wpList_min rfl _ _ rfl rfl rfl ?_)
  | (go_at_call 119;refine TT.call (HN.out _) ?_;intro w1 TT hc hf))
 have TT:=T0.trans TT;refine bodyPost_ret (v:=.agg #[m0,m1,m2,m3]) (by simp [results,results78,go_sem,hc]) rfl ⟨rfl,((((TT.sc).sc).sc).sc)⟩
theorem rect_join(a b:Rc)(w:World): Calls prog 125 #[a.v,b.v] w fun e w'=>e=.returned (a.join b).v∧Turn [] w w':=by
 have hEa:=rect_empty a;have hEb:=rect_empty b;have hn:=rect_norm b;cases ha:a.empty with
 | true=>
  have hj:a.join b=b.norm:=by simp [Rc.join,ha]
  rw [hj];rw [ha]at hEa;generalize b.norm=m at *;generalize b.empty=eb at *;clear hj ha;obtain⟨ax0,ay0,ax1,ay1⟩:=a;obtain⟨bx0,by0,bx1,by1⟩:=b;obtain⟨m0,m1,m2,m3⟩:=m;simp only [Rc.v]at *;have HN:=lh hn;have HA:=lh hEa;have HB:=lh hEb;clear hn hEa hEb;have T0:Turn [] _ _:=(((tR w).alloc (.cells #[ax0,ay0,ax1,ay1] 24)).alloc (.cells #[bx0,by0,bx1,by1] 24)).alloc (.cells #[(0:Int),(0:Int),(0:Int),(0:Int)] 24);have TT:=T0.here;go_enter func125,ntmps125;go_wp2_with (first
   | (go_at_call 18;with_reducible refine TT.call (HA.out _) ?_;intro w1 TT hc hf)
   | (go_at_call 18;with_reducible refine TT.call (HB.out _) ?_;intro w2 TT hc hf)
   | (go_at_call 119;refine TT.call (HN.out _) ?_;intro w3 TT hc hf))
  have TT:=T0.trans TT;refine bodyPost_ret (v:=.agg #[m0,m1,m2,m3]) (by simp [results,results125,go_sem,hc]) rfl ⟨rfl,((((TT.sc).sc).sc).sc)⟩
 | false=>
  cases hb:b.empty with
  | true=>
   have hj:a.join b=a:=(by simp [Rc.join,ha,hb]);rw [hj];rw [ha]at hEa;rw [hb]at hEb;clear hj ha hb hn;obtain⟨ax0,ay0,ax1,ay1⟩:=a;obtain⟨bx0,by0,bx1,by1⟩:=b;simp only [Rc.v]at *;have HA:=lh hEa;have HB:=lh hEb;clear hEa hEb;have T0:Turn [] _ _:=(((tR w).alloc (.cells #[ax0,ay0,ax1,ay1] 24)).alloc (.cells #[bx0,by0,bx1,by1] 24)).alloc (.cells #[(0:Int),(0:Int),(0:Int),(0:Int)] 24);have TT:=T0.here;go_enter func125,ntmps125;go_wp2_with (first
    | (go_at_call 18;with_reducible refine TT.call (HA.out _) ?_;intro w1 TT hc hf)
    | (go_at_call 18;with_reducible refine TT.call (HB.out _) ?_;intro w2 TT hc hf))
   have TT:=T0.trans TT;refine bodyPost_ret (v:=.agg #[ax0,ay0,ax1,ay1]) (by simp [results,results125,go_sem,hc]) rfl ⟨rfl,((((TT.sc).sc).sc).sc)⟩
  | false=>
   have hj:a.join b=⟨min a.x0 b.x0,min a.y0 b.y0,max a.x1 b.x1,max a.y1 b.y1⟩:=(by simp [Rc.join,ha,hb]);rw [hj];rw [ha]at hEa;rw [hb]at hEb;clear hj ha hb hn;obtain⟨ax0,ay0,ax1,ay1⟩:=a;obtain⟨bx0,by0,bx1,by1⟩:=b;simp only [Rc.v]at *;have HA:=lh hEa;have HB:=lh hEb;clear hEa hEb;have T0:Turn [] _ _:=(((tR w).alloc (.cells #[ax0,ay0,ax1,ay1] 24)).alloc (.cells #[bx0,by0,bx1,by1] 24)).alloc (.cells #[(0:Int),(0:Int),(0:Int),(0:Int)] 24);have TT:=T0.here;go_enter func125,ntmps125;go_wp2_with (first
    | (refine wpList_max rfl _ _ rfl rfl rfl ?_)
    | (refine wpList_min rfl _ _ rfl rfl rfl ?_)
    | (go_at_call 18;with_reducible refine TT.call (HA.out _) ?_;intro w1 TT hc hf)
    | (go_at_call 18;with_reducible refine TT.call (HB.out _) ?_;intro w2 TT hc hf))
   have TT:=T0.trans TT;refine bodyPost_ret (v:=.agg #[.int .i64 (min ax0 bx0),.int .i64 (min ay0 by0),.int .i64 (max ax1 bx1),.int .i64 (max ay1 by1)]) (by simp [results,results125,go_sem,hc]) rfl ⟨rfl,((((TT.sc).sc).sc).sc)⟩
theorem ref_empty(r:Rc)(w:World): Calls prog 46 #[r.v] w fun e w'=>e=.returned (.bool r.empty)∧Turn [] w w':=by
 obtain⟨x0,y0,x1,y1⟩:=r;unfold Rc.v Rc.empty;by_cases h1:x1≤x0
 ·go_enter func46,ntmps46;go_wp2_with fail
  go_ret;exact⟨by simp [h1],(Turn.refl _ _).alloc _⟩
 go_enter func46,ntmps46;go_wp2_with fail
 go_ret;exact⟨by simp;omega,(Turn.refl _ _).alloc _⟩
theorem ref_norm(r:Rc)(w:World): Calls prog 98 #[r.v] w fun e w'=>e=.returned r.norm.v∧Turn [] w w':=by
 cases hb:r.empty with
 | true=>
  have he:=ref_empty r;rw [hb]at he;obtain⟨x0,y0,x1,y1⟩:=r;unfold Rc.norm;rw [hb,if_pos rfl];simp only [Rc.v,Rc.zero]at *;have HE:=lh he;clear he hb;have T0:Turn [] _ _:=((tR w).alloc (.cells #[x0,y0,x1,y1] 24)).alloc (.cells #[(0:Int),(0:Int),(0:Int),(0:Int)] 24);have TT:=T0.here;go_enter func98,ntmps98;go_wp2_with (go_at_call 46;refine TT.call (HE.out _) ?_;intro w1 TT hc hf)
  have TT:=T0.trans TT;refine bodyPost_ret (v:=.agg #[(0:Int),(0:Int),(0:Int),(0:Int)]) (by simp [results,results98,go_sem,hc]) rfl ⟨rfl,((((TT.sc).sc).sc).sc)⟩
 | false=>
  have he:=ref_empty r;rw [hb]at he;obtain⟨x0,y0,x1,y1⟩:=r;unfold Rc.norm;rw [hb,if_neg (by simp)];simp only [Rc.v]at *;have HE:=lh he;clear he hb;have T0:Turn [] _ _:=((tR w).alloc (.cells #[x0,y0,x1,y1] 24)).alloc (.cells #[(0:Int),(0:Int),(0:Int),(0:Int)] 24);have TT:=T0.here;go_enter func98,ntmps98;go_wp2_with (go_at_call 46;refine TT.call (HE.out _) ?_;intro w1 TT hc hf)
  have TT:=T0.trans TT;refine bodyPost_ret (v:=.agg #[x0,y0,x1,y1]) (by simp [results,results98,go_sem,hc]) rfl ⟨rfl,((((TT.sc).sc).sc).sc)⟩
theorem ref_meet(a b:Rc)(w:World): Calls prog 54 #[a.v,b.v] w fun e w'=>e=.returned (a.meet b).v∧Turn [] w w':=by
 have hn:=ref_norm (Rc.mk (max a.x0 b.x0) (max a.y0 b.y0) (min a.x1 b.x1) (min a.y1 b.y1));have hm:(Rc.mk (max a.x0 b.x0) (max a.y0 b.y0) (min a.x1 b.x1) (min a.y1 b.y1)).norm=a.meet b:=rfl;rw [hm]at hn;clear hm;obtain⟨ax0,ay0,ax1,ay1⟩:=a;obtain⟨bx0,by0,bx1,by1⟩:=b;generalize (Rc.mk ax0 ay0 ax1 ay1).meet ⟨bx0,by0,bx1,by1⟩=m at *;obtain⟨m0,m1,m2,m3⟩:=m;simp only [Rc.v]at *;have HN:=lh hn;clear hn;have T0:Turn [] _ _:=(((tR w).alloc (.cells #[ax0,ay0,ax1,ay1] 24)).alloc (.cells #[bx0,by0,bx1,by1] 24)).alloc (.cells #[(0:Int),(0:Int),(0:Int),(0:Int)] 24);have TT:=T0.here;go_enter func54,ntmps54;go_wp2_with (first
  | (refine wpList_max rfl _ _ rfl rfl rfl ?_)
  | (refine wpList_min rfl _ _ rfl rfl rfl ?_)
  | (go_at_call 98;refine TT.call (HN.out _) ?_;intro w1 TT hc hf))
 have TT:=T0.trans TT;refine bodyPost_ret (v:=.agg #[m0,m1,m2,m3]) (by simp [results,results54,go_sem,hc]) rfl ⟨rfl,((((TT.sc).sc).sc).sc)⟩
theorem ref_join(a b:Rc)(w:World): Calls prog 132 #[a.v,b.v] w fun e w'=>e=.returned (a.join b).v∧Turn [] w w':=by
 have hEa:=ref_empty a;have hEb:=ref_empty b;have hn:=ref_norm b;cases ha:a.empty with
 | true=>
  have hj:a.join b=b.norm:=by simp [Rc.join,ha]
  rw [hj];rw [ha]at hEa;generalize b.norm=m at *;generalize b.empty=eb at *;clear hj ha;obtain⟨ax0,ay0,ax1,ay1⟩:=a;obtain⟨bx0,by0,bx1,by1⟩:=b;obtain⟨m0,m1,m2,m3⟩:=m;simp only [Rc.v]at *;have HN:=lh hn;have HA:=lh hEa;have HB:=lh hEb;clear hn hEa hEb;have T0:Turn [] _ _:=(((tR w).alloc (.cells #[ax0,ay0,ax1,ay1] 24)).alloc (.cells #[bx0,by0,bx1,by1] 24)).alloc (.cells #[(0:Int),(0:Int),(0:Int),(0:Int)] 24);have TT:=T0.here;go_enter func132,ntmps132;go_wp2_with (first
   | (go_at_call 46;with_reducible refine TT.call (HA.out _) ?_;intro w1 TT hc hf)
   | (go_at_call 46;with_reducible refine TT.call (HB.out _) ?_;intro w2 TT hc hf)
   | (go_at_call 98;refine TT.call (HN.out _) ?_;intro w3 TT hc hf))
  have TT:=T0.trans TT;refine bodyPost_ret (v:=.agg #[m0,m1,m2,m3]) (by simp [results,results132,go_sem,hc]) rfl ⟨rfl,((((TT.sc).sc).sc).sc)⟩
 | false=>
  cases hb:b.empty with
  | true=>
   have hj:a.join b=a:=(by simp [Rc.join,ha,hb]);rw [hj];rw [ha]at hEa;rw [hb]at hEb;clear hj ha hb hn;obtain⟨ax0,ay0,ax1,ay1⟩:=a;obtain⟨bx0,by0,bx1,by1⟩:=b;simp only [Rc.v]at *;have HA:=lh hEa;have HB:=lh hEb;clear hEa hEb;have T0:Turn [] _ _:=(((tR w).alloc (.cells #[ax0,ay0,ax1,ay1] 24)).alloc (.cells #[bx0,by0,bx1,by1] 24)).alloc (.cells #[(0:Int),(0:Int),(0:Int),(0:Int)] 24);have TT:=T0.here;go_enter func132,ntmps132;go_wp2_with (first
    | (go_at_call 46;with_reducible refine TT.call (HA.out _) ?_;intro w1 TT hc hf)
    | (go_at_call 46;with_reducible refine TT.call (HB.out _) ?_;intro w2 TT hc hf))
   have TT:=T0.trans TT;refine bodyPost_ret (v:=.agg #[ax0,ay0,ax1,ay1]) (by simp [results,results132,go_sem,hc]) rfl ⟨rfl,((((TT.sc).sc).sc).sc)⟩
  | false=>
   have hj:a.join b=⟨min a.x0 b.x0,min a.y0 b.y0,max a.x1 b.x1,max a.y1 b.y1⟩:=(by simp [Rc.join,ha,hb]);rw [hj];rw [ha]at hEa;rw [hb]at hEb;clear hj ha hb hn;obtain⟨ax0,ay0,ax1,ay1⟩:=a;obtain⟨bx0,by0,bx1,by1⟩:=b;simp only [Rc.v]at *;have HA:=lh hEa;have HB:=lh hEb;clear hEa hEb;have T0:Turn [] _ _:=(((tR w).alloc (.cells #[ax0,ay0,ax1,ay1] 24)).alloc (.cells #[bx0,by0,bx1,by1] 24)).alloc (.cells #[(0:Int),(0:Int),(0:Int),(0:Int)] 24);have TT:=T0.here;go_enter func132,ntmps132;go_wp2_with (first
    | (refine wpList_max rfl _ _ rfl rfl rfl ?_)
    | (refine wpList_min rfl _ _ rfl rfl rfl ?_)
    | (go_at_call 46;with_reducible refine TT.call (HA.out _) ?_;intro w1 TT hc hf)
    | (go_at_call 46;with_reducible refine TT.call (HB.out _) ?_;intro w2 TT hc hf))
   have TT:=T0.trans TT;refine bodyPost_ret (v:=.agg #[.int .i64 (min ax0 bx0),.int .i64 (min ay0 by0),.int .i64 (max ax1 bx1),.int .i64 (max ay1 by1)]) (by simp [results,results132,go_sem,hc]) rfl ⟨rfl,((((TT.sc).sc).sc).sc)⟩
end
def Rc.bd(r:Rc): Prop:=(-1099511627776≤r.x0∧r.x0≤1099511627776)∧(-1099511627776≤r.y0∧r.y0≤1099511627776)∧(-1099511627776≤r.x1∧r.x1≤1099511627776)∧(-1099511627776≤r.y1∧r.y1≤1099511627776)
def Rc.grow(r:Rc)(n:Int): Rc:=if r.empty then Rc.zero else (Rc.mk (r.x0 - n) (r.y0 - n) (r.x1+n) (r.y1+n)).norm
def Rc.move(r:Rc)(x y:Int): Rc:=if r.empty then Rc.zero else (Rc.mk (r.x0+x) (r.y0+y) (r.x1+x) (r.y1+y)).norm
def floorM(a b:Int): Int:=if b == 0 then 0 else if (a.tmod b != 0) && (decide (a<0) != decide (b<0)) then a.tdiv b - 1 else a.tdiv b
theorem tdiv_bd(a b M:Int)(h0:-M≤a)(h1:a≤M): -M≤a.tdiv b∧a.tdiv b≤M:=by
 have h:(a.tdiv b).natAbs≤a.natAbs:=by rw [Int.natAbs_tdiv];exact Nat.div_le_self _ _
 omega
theorem rect_grow(r:Rc)(n:Int)(hr:r.bd)(h0:-1099511627776≤n)(h1:n≤1099511627776)(w:World): Calls prog 128 #[r.v,n] w fun e w'=>e=.returned (r.grow n).v∧Turn [] w w':=by
 obtain⟨x0,y0,x1,y1⟩:=r;obtain⟨⟨b0,b1⟩,⟨b2,b3⟩,⟨b4,b5⟩,b6,b7⟩:=hr;simp only at b0 b1 b2 b3 b4 b5 b6 b7;have he:=rect_empty ⟨x0,y0,x1,y1⟩;have hn:=rect_norm ⟨x0 - n,y0 - n,x1+n,y1+n⟩;cases hb:(Rc.mk x0 y0 x1 y1).empty with
 | true=>
  rw [hb]at he;unfold Rc.grow;rw [hb,if_pos rfl];simp only [Rc.v,Rc.zero]at *;have HE:=lh he;clear he hn hb;have T0:Turn [] _ _:=((tR w).alloc (.cells #[x0,y0,x1,y1] 24)).alloc (.cells #[(0:Int),(0:Int),(0:Int),(0:Int)] 24);have TT:=T0.here;go_enter func128,ntmps128;go_wp2_with (go_at_call 18;refine TT.call (HE.out _) ?_;intro w1 TT hc hf)
  have TT:=T0.trans TT;refine bodyPost_ret (v:=.agg #[(0:Int),(0:Int),(0:Int),(0:Int)]) (by simp [results,results128,go_sem,hc]) rfl ⟨rfl,((((TT.sc).sc).sc).sc)⟩
 | false=>
  rw [hb]at he;unfold Rc.grow;rw [hb,if_neg (by simp)];simp only at hn ⊢;generalize (Rc.mk (x0 - n) (y0 - n) (x1+n) (y1+n)).norm=m at *;obtain⟨m0,m1,m2,m3⟩:=m;simp only [Rc.v]at *;have HE:=lh he;have HN:=lh hn;clear he hn hb;have T0:Turn [] _ _:=((tR w).alloc (.cells #[x0,y0,x1,y1] 24)).alloc (.cells #[(0:Int),(0:Int),(0:Int),(0:Int)] 24);have TT:=T0.here;go_enter func128,ntmps128;go_wp2_with (first
   | (go_at_call 18;refine TT.call (HE.out _) ?_;intro w1 TT hc hf)
   | (go_at_call 119;refine TT.call (HN.out _) ?_;intro w2 TT hc hf))
  have TT:=T0.trans TT;refine bodyPost_ret (v:=.agg #[m0,m1,m2,m3]) (by simp [results,results128,go_sem,hc]) rfl ⟨rfl,((((TT.sc).sc).sc).sc)⟩
theorem rect_move(r:Rc)(x y:Int)(hr:r.bd)(h0:-1099511627776≤x)(h1:x≤1099511627776)(h2:-1099511627776≤y)(h3:y≤1099511627776)(w:World): Calls prog 129 #[r.v,x,y] w fun e w'=>e=.returned (r.move x y).v∧Turn [] w w':=by
 obtain⟨x0,y0,x1,y1⟩:=r;obtain⟨⟨b0,b1⟩,⟨b2,b3⟩,⟨b4,b5⟩,b6,b7⟩:=hr;simp only at b0 b1 b2 b3 b4 b5 b6 b7;have he:=rect_empty ⟨x0,y0,x1,y1⟩;have hn:=rect_norm ⟨x0+x,y0+y,x1+x,y1+y⟩;cases hb:(Rc.mk x0 y0 x1 y1).empty with
 | true=>
  rw [hb]at he;unfold Rc.move;rw [hb,if_pos rfl];simp only [Rc.v,Rc.zero]at *;have HE:=lh he;clear he hn hb;have T0:Turn [] _ _:=((tR w).alloc (.cells #[x0,y0,x1,y1] 24)).alloc (.cells #[(0:Int),(0:Int),(0:Int),(0:Int)] 24);have TT:=T0.here;go_enter func129,ntmps129;go_wp2_with (go_at_call 18;refine TT.call (HE.out _) ?_;intro w1 TT hc hf)
  have TT:=T0.trans TT;refine bodyPost_ret (v:=.agg #[(0:Int),(0:Int),(0:Int),(0:Int)]) (by simp [results,results129,go_sem,hc]) rfl ⟨rfl,((((TT.sc).sc).sc).sc)⟩
 | false=>
  rw [hb]at he;unfold Rc.move;rw [hb,if_neg (by simp)];simp only at hn ⊢;generalize (Rc.mk (x0+x) (y0+y) (x1+x) (y1+y)).norm=m at *;obtain⟨m0,m1,m2,m3⟩:=m;simp only [Rc.v]at *;have HE:=lh he;have HN:=lh hn;clear he hn hb;have T0:Turn [] _ _:=((tR w).alloc (.cells #[x0,y0,x1,y1] 24)).alloc (.cells #[(0:Int),(0:Int),(0:Int),(0:Int)] 24);have TT:=T0.here;go_enter func129,ntmps129;go_wp2_with (first
   | (go_at_call 18;refine TT.call (HE.out _) ?_;intro w1 TT hc hf)
   | (go_at_call 119;refine TT.call (HN.out _) ?_;intro w2 TT hc hf))
  have TT:=T0.trans TT;refine bodyPost_ret (v:=.agg #[m0,m1,m2,m3]) (by simp [results,results129,go_sem,hc]) rfl ⟨rfl,((((TT.sc).sc).sc).sc)⟩
theorem rect_floor(a b:Int)(h0:-4611686018427387904≤a)(h1:a≤4611686018427387904)(w:World): Calls prog 139 #[a,b] w fun e w'=>e=.returned (.int .i64 (floorM a b))∧w=w':=by
 obtain⟨d0,d1⟩:=tdiv_bd a b 4611686018427387904 h0 h1;unfold floorM;by_cases hb:b=0
 ·subst hb;go_enter func139,ntmps139;go_wp2_with fail
  go_ret;exact⟨rfl,rfl⟩
 have hbb:(b == 0)=false:=by simpa using hb
 rw [hbb];cases hm:(a.tmod b != 0) <;> cases ha:decide (a<0) <;> cases hc:decide (b<0);all_goals
  go_enter func139,ntmps139;go_wp2_with fail
  go_ret;exact⟨by simp,rfl⟩
theorem ref_grow(r:Rc)(n:Int)(hr:r.bd)(h0:-1099511627776≤n)(h1:n≤1099511627776)(w:World): Calls prog 183 #[r.v,n] w fun e w'=>e=.returned (r.grow n).v∧Turn [] w w':=by
 obtain⟨x0,y0,x1,y1⟩:=r;obtain⟨⟨b0,b1⟩,⟨b2,b3⟩,⟨b4,b5⟩,b6,b7⟩:=hr;simp only at b0 b1 b2 b3 b4 b5 b6 b7;have he:=ref_empty ⟨x0,y0,x1,y1⟩;have hn:=ref_norm ⟨x0 - n,y0 - n,x1+n,y1+n⟩;cases hb:(Rc.mk x0 y0 x1 y1).empty with
 | true=>
  rw [hb]at he;unfold Rc.grow;rw [hb,if_pos rfl];simp only [Rc.v,Rc.zero]at *;have HE:=lh he;clear he hn hb;have T0:Turn [] _ _:=((tR w).alloc (.cells #[x0,y0,x1,y1] 24)).alloc (.cells #[(0:Int),(0:Int),(0:Int),(0:Int)] 24);have TT:=T0.here;go_enter func183,ntmps183;go_wp2_with (go_at_call 46;refine TT.call (HE.out _) ?_;intro w1 TT hc hf)
  have TT:=T0.trans TT;refine bodyPost_ret (v:=.agg #[(0:Int),(0:Int),(0:Int),(0:Int)]) (by simp [results,results183,go_sem,hc]) rfl ⟨rfl,((((TT.sc).sc).sc).sc)⟩
 | false=>
  rw [hb]at he;unfold Rc.grow;rw [hb,if_neg (by simp)];simp only at hn ⊢;generalize (Rc.mk (x0 - n) (y0 - n) (x1+n) (y1+n)).norm=m at *;obtain⟨m0,m1,m2,m3⟩:=m;simp only [Rc.v]at *;have HE:=lh he;have HN:=lh hn;clear he hn hb;have T0:Turn [] _ _:=((tR w).alloc (.cells #[x0,y0,x1,y1] 24)).alloc (.cells #[(0:Int),(0:Int),(0:Int),(0:Int)] 24);have TT:=T0.here;go_enter func183,ntmps183;go_wp2_with (first
   | (go_at_call 46;refine TT.call (HE.out _) ?_;intro w1 TT hc hf)
   | (go_at_call 98;refine TT.call (HN.out _) ?_;intro w2 TT hc hf))
  have TT:=T0.trans TT;refine bodyPost_ret (v:=.agg #[m0,m1,m2,m3]) (by simp [results,results183,go_sem,hc]) rfl ⟨rfl,((((TT.sc).sc).sc).sc)⟩
theorem ref_move(r:Rc)(x y:Int)(hr:r.bd)(h0:-1099511627776≤x)(h1:x≤1099511627776)(h2:-1099511627776≤y)(h3:y≤1099511627776)(w:World): Calls prog 184 #[r.v,x,y] w fun e w'=>e=.returned (r.move x y).v∧Turn [] w w':=by
 obtain⟨x0,y0,x1,y1⟩:=r;obtain⟨⟨b0,b1⟩,⟨b2,b3⟩,⟨b4,b5⟩,b6,b7⟩:=hr;simp only at b0 b1 b2 b3 b4 b5 b6 b7;have he:=ref_empty ⟨x0,y0,x1,y1⟩;have hn:=ref_norm ⟨x0+x,y0+y,x1+x,y1+y⟩;cases hb:(Rc.mk x0 y0 x1 y1).empty with
 | true=>
  rw [hb]at he;unfold Rc.move;rw [hb,if_pos rfl];simp only [Rc.v,Rc.zero]at *;have HE:=lh he;clear he hn hb;have T0:Turn [] _ _:=((tR w).alloc (.cells #[x0,y0,x1,y1] 24)).alloc (.cells #[(0:Int),(0:Int),(0:Int),(0:Int)] 24);have TT:=T0.here;go_enter func184,ntmps184;go_wp2_with (go_at_call 46;refine TT.call (HE.out _) ?_;intro w1 TT hc hf)
  have TT:=T0.trans TT;refine bodyPost_ret (v:=.agg #[(0:Int),(0:Int),(0:Int),(0:Int)]) (by simp [results,results184,go_sem,hc]) rfl ⟨rfl,((((TT.sc).sc).sc).sc)⟩
 | false=>
  rw [hb]at he;unfold Rc.move;rw [hb,if_neg (by simp)];simp only at hn ⊢;generalize (Rc.mk (x0+x) (y0+y) (x1+x) (y1+y)).norm=m at *;obtain⟨m0,m1,m2,m3⟩:=m;simp only [Rc.v]at *;have HE:=lh he;have HN:=lh hn;clear he hn hb;have T0:Turn [] _ _:=((tR w).alloc (.cells #[x0,y0,x1,y1] 24)).alloc (.cells #[(0:Int),(0:Int),(0:Int),(0:Int)] 24);have TT:=T0.here;go_enter func184,ntmps184;go_wp2_with (first
   | (go_at_call 46;refine TT.call (HE.out _) ?_;intro w1 TT hc hf)
   | (go_at_call 98;refine TT.call (HN.out _) ?_;intro w2 TT hc hf))
  have TT:=T0.trans TT;refine bodyPost_ret (v:=.agg #[m0,m1,m2,m3]) (by simp [results,results184,go_sem,hc]) rfl ⟨rfl,((((TT.sc).sc).sc).sc)⟩
theorem ref_floor(a b:Int)(h0:-4611686018427387904≤a)(h1:a≤4611686018427387904)(w:World): Calls prog 99 #[a,b] w fun e w'=>e=.returned (.int .i64 (floorM a b))∧w=w':=by
 obtain⟨d0,d1⟩:=tdiv_bd a b 4611686018427387904 h0 h1;unfold floorM;by_cases hb:b=0
 ·subst hb;go_enter func99,ntmps99;go_wp2_with fail
  go_ret;exact⟨rfl,rfl⟩
 have hbb:(b == 0)=false:=by simpa using hb
 rw [hbb];cases hm:(a.tmod b != 0) <;> cases ha:decide (a<0) <;> cases hc:decide (b<0);all_goals
  go_enter func99,ntmps99;go_wp2_with fail
  go_ret;exact⟨by simp,rfl⟩
section
open Go.ChangeMaps (setBlock)
end
section
open Go.RowKit
def SRow(w:World)(base:Nat)(e:TypeId)(size:Nat)(v:Value)(n:Nat)(xs:List Value): Prop:=
 xs.length=n*size∧((v=.slice none 0 0∧n=0)∨∃g off cap arr,v=.slice (some ⟨g,off,none⟩) n cap∧base≤g∧w.heap[g]?=some (.cells arr e (0,0))∧n≤cap∧cap≤maxLen∧
  off+cap*size≤arr.size∧∀j u,xs[j]?=some u→arr[off+j]?=some u)
def blks(v:Value): List Nat:=v.ownBlock.toList
theorem SRow.of_own{w:World}{base:Nat}{e:TypeId}{size n:Nat}{v:Value}{xs:List Value}(h:w.ownsRow base e size v n xs): SRow w base e size v n xs:=by
 refine⟨h.1,?_⟩;rcases h.2 with h2 | ⟨g,cap,cur,rfl,hb,hh,h3,h4,h5,h6⟩
 ·exact .inl h2
 refine .inr ⟨g,0,cap,cur,rfl,hb,hh,h3,h4,by omega,fun j u hu=>?_⟩;rw [←h6,List.getElem?_take]at hu;split at hu
 ·rw [Nat.zero_add,←Array.getElem?_toList];exact hu
 cases hu
theorem SRow.nil(w:World)(base:Nat)(e:TypeId)(size:Nat): SRow w base e size (.slice none 0 0) 0 []:=⟨by simp,.inl ⟨rfl,rfl⟩⟩
theorem SRow.keep{w w':World}{base:Nat}{e:TypeId}{size n:Nat}{v:Value}{xs:List Value}(h:SRow w base e size v n xs)(hk:∀g∈blks v,w'.heap[g]?=w.heap[g]?): SRow w' base e size v n xs:=by
 refine⟨h.1,?_⟩;rcases h.2 with h2 | ⟨g,off,cap,arr,rfl,hb,hh,h3⟩
 ·exact .inl h2
 exact .inr ⟨g,off,cap,arr,rfl,hb,(hk g (by simp [blks,Value.ownBlock])).trans hh,h3⟩
theorem SRow.lt{w:World}{base:Nat}{e:TypeId}{size n:Nat}{v:Value}{xs:List Value}(h:SRow w base e size v n xs): ∀g∈blks v,base≤g∧g<w.heap.size∧∃arr,w.heap[g]?=some (.cells arr e (0,0)):=by
 rcases h.2 with ⟨rfl,_⟩ | ⟨g,off,cap,arr,rfl,hb,hh,h3⟩
 ·simp [blks,Value.ownBlock]
 intro k hk;obtain rfl:k=g:=by simpa [blks,Value.ownBlock]using hk
 refine⟨hb,?_,arr,hh⟩;rcases Nat.lt_or_ge k w.heap.size with hlt | hge
 ·exact hlt
 rw [Array.getElem?_eq_none hge]at hh;cases hh
theorem turn_of_grown{w w':World}{v:Value}(h:w.grownBy w' v.ownBlock): Turn (blks v) w w':=
 ⟨h.size,fun j hj hn=>h.block j hj fun e=>hn (by simp [blks,←e]),h.os,h.tape,h.output⟩
theorem heap_setCells(b:Nat): ∀(vs:List Value) (o:Nat) (w:World) (arr:Array Value) (e:TypeId) (fz:Nat×Nat),w.heap[b]?=some (.cells arr e fz)→o+vs.length≤arr.size→
  ∃arr',(w.setCells b o vs).heap[b]?=some (.cells arr' e fz)∧arr'.size=arr.size∧(∀j,j<o→arr'[j]?=arr[j]?)∧(∀j u,vs[j]?=some u→arr'[o+j]?=some u)∧Turn [b] w (w.setCells b o vs)
 | [],o,w,arr,e,fz,h,_=>⟨arr,h,rfl,fun _ _=>rfl,by simp,Turn.refl _ _⟩
 | v :: vs,o,w,arr,e,fz,h,hl=>by
  have h1:(w.setCell ⟨b,o,none⟩ v).heap[b]?=some (.cells (arr.setIfInBounds o v) e fz):=by simp [World.setCell,Array.getElem?_modify,h]
  rw [List.length_cons]at hl;obtain⟨arr',a1,a2,a3,a4,a5⟩:=heap_setCells b vs (o+1) (w.setCell ⟨b,o,none⟩ v) _ e fz h1 (by rw [Array.size_setIfInBounds];omega);refine⟨arr',a1,by rw [a2,Array.size_setIfInBounds],fun j hj=>?_,fun j u hu=>?_,?_⟩
  ·rw [a3 j (by omega),Array.getElem?_setIfInBounds_ne (by omega)]
  ·cases j with
   | zero=>
    rw [List.getElem?_cons_zero]at hu;injection hu with hu;subst hu;rw [Nat.add_zero,a3 o (by omega),Array.getElem?_setIfInBounds_self_of_lt (by omega)]
   | succ j=>
    rw [List.getElem?_cons_succ]at hu;rw [←a4 j u hu];congr 1;omega
  have b1:Turn [b] w (w.setCell ⟨b,o,none⟩ v):=⟨by simp [World.setCell],fun j _ hj=>by
   simp only [List.mem_singleton]at hj;simp only [World.setCell,Array.getElem?_modify,Ne.symm hj,if_false],rfl,rfl,rfl⟩
  exact b1.trans a5
theorem srow_append{P:Program}{w:World}{base:Nat}{t ty e:TypeId}{i:TypeInfo}{z:Value}{size bytes:Nat}(ht:P.underlying t=some (.slice e))(hi:P.info? e=some i)(hz:i.zero=some z)
  (hsize:i.size=size) (hby:i.bytes=bytes) (hzs:z.cells.size=size) (hsz:0<size) {v:Value} {n:Nat} {xs:List Value} (h:SRow w base e size v n xs)
  (a:Addr) (m c:Nat) (news:List Value) (hl:news.length=m*size) (hnews:∀j u,news[j]?=some u→w.cell? (a.add j)=some u) (h1:∀u∈news,u.oneCell'=true)
  (h63:n+m≤maxLen) (hbytes:(n+m)*bytes≤140737488355328) (hbase:base≤w.heap.size) :
  ∃v' w',(Builtin.append_ #[t,t] ty #[v,.slice (some a) m c]).run P w=.ok v' w'∧SRow w' base e size v' (n+m) (xs ++ news)∧Turn (blks v) w w'∧(∀g∈blks v',g∈blks v∨w.heap.size≤g):=by
 have hnew:∀{w':World} {v':Value} {k:Nat} {ys:List Value},w'.ownsRow w.heap.size e size v' k ys→∀g∈blks v',g∈blks v∨w.heap.size≤g:=fun h g hg=>.inr ((SRow.of_own h).lt g hg).1;rcases h.2 with ⟨rfl,rfl⟩ | ⟨g,off,cap,arr,rfl,hb,hh,h3,h4,h5,h6⟩
 ·have hx:xs=[]:=List.eq_nil_of_length_eq_zero (by simpa using h.1);subst hx;obtain⟨v',w',e1,e2,e3,_⟩:=run_append_own w w.heap.size t ty e i z size bytes ht hi hz hsize hby hzs hsz (.slice none 0 0) 0 [] ⟨by simp,.inl ⟨rfl,rfl⟩⟩ a m c news hl hnews h1 h63 hbytes (Nat.le_refl _);have e4:=SRow.of_own e2;refine⟨v',w',e1,⟨e4.1,?_⟩,turn_of_grown (v:=.slice none 0 0) e3,hnew e2⟩;rcases e4.2 with q | ⟨g,off,cap,arr,q1,q2,q3⟩
  ·exact .inl q
  exact .inr ⟨g,off,cap,arr,q1,by omega,q3⟩
 have holds:∀j u,xs[j]?=some u→w.cell? ((⟨g,off,none⟩:Addr).add j)=some u:=by intro j u hu;rw [Addr.add_lit,cell_of_row w g (off+j) arr e (0,0) hh];exact h6 j u hu
 by_cases hroom:n+m≤cap
 ·have hm:n*size+m*size≤cap*size:=by rw [←Nat.add_mul];exact Nat.mul_le_mul_right _ hroom
  have e1:=run_append_room_cells (P:=P) w t ty e i ht hi g off n cap a m c news (by rw [hsize];exact hl) hnews h1 hroom (fun j hj=>by
   rw [cell_of_row w g _ arr e (0,0) hh,hsize,Array.getElem?_eq_getElem (by omega)];rfl) (fun j hj=>by simp [World.frozen?,hh])
  rw [hsize]at e1;obtain⟨arr',a1,a2,a3,a4,a5⟩:=heap_setCells g news (off+n*size) w arr e (0,0) hh (by omega);refine⟨_,_,e1,⟨by rw [List.length_append,h.1,hl,Nat.add_mul],.inr ⟨g,off,cap,arr',rfl,hb,a1,hroom,h4,by omega,fun j u hu=>?_⟩⟩,?_,fun k hk=>.inl (by simpa [blks,Value.ownBlock]using hk)⟩
  ·have hx:=h.1;by_cases hj:j<xs.length
   ·rw [List.getElem?_append_left hj]at hu;rw [a3 _ (by omega)];exact h6 j u hu
   rw [List.getElem?_append_right (by omega)]at hu;rw [←a4 _ u hu];congr 1;omega
  simpa [blks,Value.ownBlock]using a5
 obtain⟨v',w',e1,e2,e3⟩:=run_append_arg_grows (P:=P) w t ty e i z size bytes ht hi hz hsize hby hzs hsz ⟨g,off,none⟩ n cap xs h.1 holds a m c news hl hnews (by omega) h63 hbytes;have e4:=SRow.of_own e2;refine⟨v',w',e1,⟨e4.1,?_⟩,⟨e3.size,fun j hj _=>e3.block j hj (by simp),e3.os,e3.tape,e3.output⟩,hnew e2⟩;rcases e4.2 with q | ⟨g,off,cap,arr,q1,q2,q3⟩
 ·exact .inl q
 exact .inr ⟨g,off,cap,arr,q1,by omega,q3⟩
end
end Go.Proofs.YtbpklgllihhgpaaGreat
