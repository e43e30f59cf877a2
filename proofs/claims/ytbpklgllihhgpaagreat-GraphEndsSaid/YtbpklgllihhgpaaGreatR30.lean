import Derived.Test.YtbpklgllihhgpaaGreatR26
import Derived.Test.YtbpklgllihhgpaaGreatR29
set_option maxRecDepth 100000
set_option maxHeartbeats 16000000
namespace Go.Proofs.YtbpklgllihhgpaaGreat
open Tryz Go.RowKit Go.Den
theorem il_lit(u:World)(xs:List Int)(hl:xs.length≤1000): Il (u.alloc (.cells ⟨xs.map (Value.int .i64)⟩ 3)) u.heap.size (.slice (some ⟨u,0,none⟩) xs.length xs.length) xs:=by refine⟨by simp,.inr ⟨u,0,xs.length,⟨xs.map (Value.int .i64)⟩,rfl,Nat.le_refl _,heap_alloc_new u _,Nat.le_refl _,Nat.le_trans hl (by decide),by simp,fun j v hv=>?_⟩⟩;rw [Nat.zero_add];simpa using hv
def OwnC(w:World)(base:Nat)(v:Value): Prop:=∃c,Il w base v c∧curveB c=true
theorem ref_curveQ(q:Int)(w:World): Calls prog 64 #[q] w fun e w'=>(∃v,e=.returned v∧OwnC w' w.heap.size v)∧Turn [] w w':=by
 obtain⟨s,es⟩:∃s,bits BinOp.and IntKind.i64 q 3=s:=⟨_,rfl⟩;have hs:s=1∨s=2∨s=3∨(s≠1∧s≠2∧s≠3):=by omega
 rcases hs with rfl | rfl | rfl | ⟨h1,h2,h3⟩
 ·go_enter func64,ntmps64;go_wp2_with fail
  go_ret;exact⟨⟨_,rfl,[0,4096,16384,36864,65535],il_lit w [0,4096,16384,36864,65535] (by decide),by decide⟩,(tR w).alloc _⟩
 ·go_enter func64,ntmps64;go_wp2_with fail
  go_ret;exact⟨⟨_,rfl,[0,40000,65535],il_lit w [0,40000,65535] (by decide),by decide⟩,(tR w).alloc _⟩
 ·go_enter func64,ntmps64;go_wp2_with fail
  go_ret;exact⟨⟨_,rfl,[100,100,30000,30000,65000],il_lit w [100,100,30000,30000,65000] (by decide),by decide⟩,(tR w).alloc _⟩
 have k1:(s == 1)=false:=by simpa using h1
 have k2:(s == 2)=false:=by simpa using h2
 have k3:(s == 3)=false:=by simpa using h3
 go_enter func64,ntmps64;go_wp2_with fail
 go_ret;exact⟨⟨_,rfl,[0,65535],il_lit w [0,65535] (by decide),by decide⟩,(tR w).alloc _⟩
def devRow(a b c:Value): List Value:=[a,b,c,(4096:Int),(0:Int),(0:Int),(0:Int),(4096:Int),(0:Int),(0:Int),(0:Int),(4096:Int),(4096:Int),(0:Int),(0:Int),(0:Int),(4096:Int),(0:Int),(0:Int),(0:Int),(4096:Int)]
theorem device_run:(evCall prog X0 4000 40 63 #[] ⟨.e,0⟩).map (·.1)=some (.agg ⟨devRow (.slice (some ⟨1,0,none⟩) 2 2) (.slice (some ⟨1,0,none⟩) 2 2) (.slice (some ⟨1,0,none⟩) 2 2)⟩):=by kernel_rfl
theorem vr_agg{β:AM}{x:Array Value}{v':Value}(h:VR β (.agg x) v'): ∃x',v'=.agg x'∧VRs β x x':=by
 generalize hv:Value.agg x=v at h;cases h with
 | agg hx hh=>
  injection hv with hv;subst hv;exact⟨_,rfl,hx,hh⟩
 | _=>cases hv
theorem vr_slice{β:AM}{A:Option Addr}{n cap:Nat}{v':Value}(h:VR β (.slice A n cap) v'): ∃A n cap,v'=.slice A n cap:=by
 generalize hv:Value.slice A n cap=v at h;cases h with
 | sliceN=>exact⟨_,_,_,rfl⟩
 | sliceX=>exact⟨_,_,_,rfl⟩
 | sliceG=>exact⟨_,_,_,rfl⟩
 | sliceE=>exact⟨_,_,_,rfl⟩
 | _=>cases hv
theorem ref_device(w:World): Calls prog 63 #[] w fun e w'=>(∃A n cap A1 n1 cap1 A2 n2 cap2,e=.returned (.agg ⟨devRow (.slice A n cap) (.slice A1 n1 cap1) (.slice A2 n2 cap2)⟩))∧Turn [] w w':=by
 obtain⟨m,he⟩:∃m,evCall prog X0 4000 40 63 #[] ⟨.e,0⟩=some (.agg ⟨devRow (.slice (some ⟨1,0,none⟩) 2 2) (.slice (some ⟨1,0,none⟩) 2 2) (.slice (some ⟨1,0,none⟩) 2 2)⟩,m):=by
  have h:=device_run;cases hq:evCall prog X0 4000 40 63 #[] ⟨.e,0⟩with
  | none=>rw [hq]at h;cases h
  | some p=>
   rw [hq]at h;obtain⟨a,m⟩:=p;have e:a=_:=Option.some.inj h;rw [e];exact⟨m,rfl⟩
 have h0:Rel prog (fun _=>none) ⟨.e,0⟩ w:=⟨(fun _ _ h=>by cases h),(fun _ _ _ h=>by cases h),(fun _ _ _ _ _ _ h=>by cases h),fun _ _=>rfl⟩;refine (evCall_sound progOK extOK0 40 63 #[] ⟨.e,0⟩ _ m he (fun _=>none) w #[] h0 ⟨rfl,fun i h1 h2=>absurd h1 (by simp)⟩).mono ?_;rintro e w' ⟨β,v',rfl,hr,hst⟩;refine⟨?_,(tR w).ext ⟨hst.size,fun cb hcb=>hst.frame cb hcb ?_,hst.os,hst.tape,hst.output⟩⟩
 ·obtain⟨⟨l⟩,rfl,hx,hh⟩:=vr_agg hr;have hl:l.length=21:=hx.symm;obtain⟨A,n,cap,e0⟩:=vr_slice (hh 0 (by show 0<21;decide) (by show 0<l.length;omega));obtain⟨A1,n1,cap1,e1⟩:=vr_slice (hh 1 (by show 1<21;decide) (by show 1<l.length;omega));obtain⟨A2,n2,cap2,e2⟩:=vr_slice (hh 2 (by show 2<21;decide) (by show 2<l.length;omega));have hE:l=devRow (.slice A n cap) (.slice A1 n1 cap1) (.slice A2 n2 cap2):=by
   refine List.ext_getElem (by rw [hl];rfl) fun i h1 h2=>?_;have hi:i<21:=h2;by_cases h3:3≤i
   ·have hg:∀i,3≤i→(h:i<21)→ground0 ((⟨devRow (.slice (some ⟨1,0,none⟩) 2 2) (.slice (some ⟨1,0,none⟩) 2 2) (.slice (some ⟨1,0,none⟩) 2 2)⟩:Array Value)[i]'h)=true:=(by intro i h3 h;have:i=3∨i=4∨i=5∨i=6∨i=7∨i=8∨i=9∨i=10∨i=11∨i=12∨i=13∨i=14∨i=15∨i=16∨i=17∨i=18∨i=19∨i=20:=(by omega);rcases this with h | h | h | h | h | h | h | h | h | h | h | h | h | h | h | h | h | h <;> subst h <;> rfl);have hd:∀i,3≤i→(h:i<21)→(devRow (.slice (some ⟨1,0,none⟩) 2 2) (.slice (some ⟨1,0,none⟩) 2 2) (.slice (some ⟨1,0,none⟩) 2 2))[i]'h=(devRow (.slice A n cap) (.slice A1 n1 cap1) (.slice A2 n2 cap2))[i]'h:=(by intro i h3 h;have:i=3∨i=4∨i=5∨i=6∨i=7∨i=8∨i=9∨i=10∨i=11∨i=12∨i=13∨i=14∨i=15∨i=16∨i=17∨i=18∨i=19∨i=20:=(by omega);rcases this with h | h | h | h | h | h | h | h | h | h | h | h | h | h | h | h | h | h <;> subst h <;> rfl);have:=VR.eq0 (hg i h3 hi) (hh i hi (by show i<l.length;omega));exact this.trans (hd i h3 hi)
   have:i=0∨i=1∨i=2:=(by omega);rcases this with rfl | rfl | rfl
   ·exact e0
   ·exact e1
   exact e2
  exact⟨A,n,cap,A1,n1,cap1,A2,n2,cap2,by rw [hE]⟩
 rintro⟨b,o,L,h1,_⟩;cases h1
def mt(p:Nat): List Int:=(pairs4.getD p ([],[])).1
def mf(p:Nat): List Int:=(pairs4.getD p ([],[])).2
def vs(l:List Int): List Value:=l.map (Value.int .i64)
def mt4:List Value:=vs (mt 0) ++ vs (mt 1) ++ vs (mt 2) ++ vs (mt 3)
def mf4:List Value:=vs (mf 0) ++ vs (mf 1) ++ vs (mf 2) ++ vs (mf 3)
theorem mt_part(p:Nat)(hp:p<4): (mt4.drop (p*9)).take (vs (mt p)).length=vs (mt p):=by
 obtain rfl | rfl | rfl | rfl:p=0∨p=1∨p=2∨p=3:=by omega
 all_goals rfl
theorem mf_part(p:Nat)(hp:p<4): (mf4.drop (p*9)).take (vs (mf p)).length=vs (mf p):=by
 obtain rfl | rfl | rfl | rfl:p=0∨p=1∨p=2∨p=3:=by omega
 all_goals rfl
theorem mt_len(p:Nat)(hp:p<4): (vs (mt p)).length=9:=by
 obtain rfl | rfl | rfl | rfl:p=0∨p=1∨p=2∨p=3:=by omega
 all_goals rfl
theorem mf_len(p:Nat)(hp:p<4): (vs (mf p)).length=9:=by
 obtain rfl | rfl | rfl | rfl:p=0∨p=1∨p=2∨p=3:=by omega
 all_goals rfl
theorem vs_one(l:List Int): ∀v∈vs l,v.oneCell'=true:=fun v hv=>by obtain⟨x,_,rfl⟩:=List.mem_map.1 hv;rfl
theorem mt4_one:(⟨mt4⟩:Array Value).all (·.oneCell')=true:=all_oneCell_toArray (cs:=mt4) fun v hv=>by simp only [mt4,List.mem_append]at hv;rcases hv with ((h | h) | h) | h <;> exact vs_one _ v h
theorem mf4_one:(⟨mf4⟩:Array Value).all (·.oneCell')=true:=all_oneCell_toArray (cs:=mf4) fun v hv=>by simp only [mf4,List.mem_append]at hv;rcases hv with ((h | h) | h) | h <;> exact vs_one _ v h
def zsl:List Value:=[.slice none 0 0,.slice none 0 0,.slice none 0 0,(0:Int),(0:Int),(0:Int),(0:Int),(0:Int),(0:Int),(0:Int),(0:Int),(0:Int),(0:Int),(0:Int),(0:Int),(0:Int),(0:Int),(0:Int),(0:Int),(0:Int),(0:Int)]
theorem infoMX:(prog.info? 97).map (·.size)=some 9:=by kernel_rfl
theorem infoM4:(prog.info? 140).map (fun i=>(i.zero,i.size))=some (some (.agg ⟨List.replicate 36 (0:Int)⟩),36):=by kernel_rfl
theorem infoSPz:(prog.info? 99).map (fun i=>(i.zero,i.size))=some (some (.agg #[.slice none 0 0,.slice none 0 0,.slice none 0 0,(0:Int),(0:Int),(0:Int),(0:Int),(0:Int),(0:Int),(0:Int),(0:Int),(0:Int),(0:Int),(0:Int),(0:Int),(0:Int),(0:Int),(0:Int),(0:Int),(0:Int),(0:Int)]),21):=by kernel_rfl
theorem alloc_M4(u:World): (Instr.alloc 140 true (.tuple #[])).run prog u=.ok (.pointer (some ⟨u,0,none⟩)) (u.alloc (.cells ⟨List.replicate 36 (0:Int)⟩ 140)):=by unfold Instr.alloc;rw [Sem.run_bind,(zero_of_info infoM4).1];rfl
theorem alloc_SP(u:World): (Instr.alloc 99 true (.tuple #[])).run prog u=.ok (.pointer (some ⟨u,0,none⟩)) (u.alloc (.cells #[.slice none 0 0,.slice none 0 0,.slice none 0 0,(0:Int),(0:Int),(0:Int),(0:Int),(0:Int),(0:Int),(0:Int),(0:Int),(0:Int),(0:Int),(0:Int),(0:Int),(0:Int),(0:Int),(0:Int),(0:Int),(0:Int),(0:Int)] 99)):=by unfold Instr.alloc;rw [Sem.run_bind,(zero_of_info infoSPz).1];rfl
theorem build_mt(u:World): (Instr.build 140 #[(0,.agg ⟨vs (mt 0)⟩),(1,.agg ⟨vs (mt 1)⟩),(2,.agg ⟨vs (mt 2)⟩),(3,.agg ⟨vs (mt 3)⟩)]).run prog u=.ok (.agg ⟨mt4⟩) u:=by kernel_rfl
theorem build_mf(u:World): (Instr.build 140 #[(0,.agg ⟨vs (mf 0)⟩),(1,.agg ⟨vs (mf 1)⟩),(2,.agg ⟨vs (mf 2)⟩),(3,.agg ⟨vs (mf 3)⟩)]).run prog u=.ok (.agg ⟨mf4⟩) u:=by kernel_rfl
theorem exec_build4{P:Program}{o:Oper}{a:Act}{w w':World}{t:TypeId}{i j k l:Nat}{x y z t':Operand}{p q r s v:Value}(ho:o.op=.build t #[(i,x),(j,y),(k,z),(l,t')])(hx:a.eval x=p)(hy:a.eval y=q)(hz:a.eval z=r)(ht:a.eval t'=s)(hr:(Instr.build t #[(i,p),(j,q),(k,r),(l,s)]).run P w=.ok v w'): (execOp a.eval o).run P w=.ok (.value v) w':=
 exec_build ho (by simp [hx,hy,hz,ht]) hr
theorem OwnC.form{w:World}{base:Nat}{v:Value}(h:OwnC w base v): ∃A n cap c,v=.slice A n cap∧IntsAt w A n c∧curveB c=true:=by obtain⟨c,h1,h2⟩:=h;obtain⟨A,n,cap,rfl,h3⟩:=h1.ints;exact⟨A,n,cap,c,rfl,h3,h2⟩
theorem OwnC.kept{w w':World}{base b:Nat}{v:Value}(h:OwnC w base v)(T:Turn [b] w w')(hb:b<base): OwnC w' base v:=by obtain⟨c,h1,h2⟩:=h;exact⟨c,h1.kept T (fun g hg hm=>by have:=(h1.lt g hg).1;simp at hm;omega),h2⟩
theorem OwnC.turn{w w':World}{base:Nat}{v:Value}(h:OwnC w base v)(T:Turn [] w w'): OwnC w' base v:=by obtain⟨c,h1,h2⟩:=h;exact⟨c,h1.turn T,h2⟩
theorem OwnC.base{w:World}{base base':Nat}{v:Value}(h:OwnC w base v)(hb:base'≤base): OwnC w base' v:=by obtain⟨c,h1,h2⟩:=h;exact⟨c,h1.base hb,h2⟩
structure SpW(w wr:World)(b3 b6:Nat)(R:List Value)(k:Nat)(A0:Option Addr)(n0 c0:Nat)(A1:Option Addr)(n1 c1:Nat)(A2:Option Addr)(n2 c2:Nat): Prop where
 t:Turn [] w wr
 h0:wr.heap[w.heap.size]?=some (.cells #[.slice none 0 0,.slice none 0 0,.slice none 0 0,(0:Int),(0:Int),(0:Int),(0:Int),(0:Int),(0:Int),(0:Int),(0:Int),(0:Int),(0:Int),(0:Int),(0:Int),(0:Int),(0:Int),(0:Int),(0:Int),(0:Int),(0:Int)] 99 (0,0))
 h3:wr.heap[b3]?=some (.cells ⟨.slice A0 n0 c0 :: .slice A1 n1 c1 :: .slice A2 n2 c2 :: R⟩ 99 (0,0))
 lt:w.heap.size<b3∧b3<b6∧b6≤wr.heap.size
 g0:1≤k→OwnC wr b6 (.slice A0 n0 c0)
 g1:2≤k→OwnC wr b6 (.slice A1 n1 c1)
 g2:3≤k→OwnC wr b6 (.slice A2 n2 c2)
theorem SpW.turn{w wr u:World}{b3 b6:Nat}{R:List Value}{k:Nat}{A0:Option Addr}{n0 c0:Nat}{A1:Option Addr}{n1 c1:Nat}{A2:Option Addr}{n2 c2:Nat}(P:SpW w wr b3 b6 R k A0 n0 c0 A1 n1 c1 A2 n2 c2)(T:Turn [] wr u): SpW w u b3 b6 R k A0 n0 c0 A1 n1 c1 A2 n2 c2:=by obtain⟨l1,l2,l3⟩:=P.lt;have hs:=T.size;exact⟨P.t.trans T,(T.old _ (by omega) (by simp)).trans P.h0,(T.old _ (by omega) (by simp)).trans P.h3,⟨l1,l2,by omega⟩,fun h=>(P.g0 h).turn T,fun h=>(P.g1 h).turn T,fun h=>(P.g2 h).turn T⟩
theorem turn_cell(u:World)(b i:Nat)(v:Value): Turn [b] u (u.setCell ⟨b,i,none⟩ v):=(Turn.refl [b] u).setCell _ (.inl (by simp))
theorem SpW.set0{w u:World}{b3 b6:Nat}{R:List Value}{A0:Option Addr}{n0 c0:Nat}{A1:Option Addr}{n1 c1:Nat}{A2:Option Addr}{n2 c2:Nat}(P:SpW w u b3 b6 R 0 A0 n0 c0 A1 n1 c1 A2 n2 c2){A:Option Addr}{n c:Nat}(hv:OwnC u b6 (.slice A n c)): SpW w (u.setCell ⟨b3,0,none⟩ (.slice A n c)) b3 b6 R 1 A n c A1 n1 c1 A2 n2 c2:=by obtain⟨l1,l2,l3⟩:=P.lt;exact⟨P.t.sc,(setCell_other _ _ _ _ _ (by omega)).trans P.h0,setCell_at P.h3 rfl,⟨l1,l2,by rw [World.size_setCell];exact l3⟩,fun _=>hv.kept (turn_cell _ _ _ _) l2,fun h=>by omega,fun h=>by omega⟩
theorem SpW.set1{w u:World}{b3 b6:Nat}{R:List Value}{A0:Option Addr}{n0 c0:Nat}{A1:Option Addr}{n1 c1:Nat}{A2:Option Addr}{n2 c2:Nat}(P:SpW w u b3 b6 R 1 A0 n0 c0 A1 n1 c1 A2 n2 c2){A:Option Addr}{n c:Nat}(hv:OwnC u b6 (.slice A n c)): SpW w (u.setCell ⟨b3,1,none⟩ (.slice A n c)) b3 b6 R 2 A0 n0 c0 A n c A2 n2 c2:=by obtain⟨l1,l2,l3⟩:=P.lt;exact⟨P.t.sc,(setCell_other _ _ _ _ _ (by omega)).trans P.h0,setCell_at P.h3 rfl,⟨l1,l2,by rw [World.size_setCell];exact l3⟩,fun _=>(P.g0 (by omega)).kept (turn_cell _ _ _ _) l2,fun _=>hv.kept (turn_cell _ _ _ _) l2,fun h=>by omega⟩
theorem SpW.set2{w u:World}{b3 b6:Nat}{R:List Value}{A0:Option Addr}{n0 c0:Nat}{A1:Option Addr}{n1 c1:Nat}{A2:Option Addr}{n2 c2:Nat}(P:SpW w u b3 b6 R 2 A0 n0 c0 A1 n1 c1 A2 n2 c2){A:Option Addr}{n c:Nat}(hv:OwnC u b6 (.slice A n c)): SpW w (u.setCell ⟨b3,2,none⟩ (.slice A n c)) b3 b6 R 3 A0 n0 c0 A1 n1 c1 A n c:=by obtain⟨l1,l2,l3⟩:=P.lt;exact⟨P.t.sc,(setCell_other _ _ _ _ _ (by omega)).trans P.h0,setCell_at P.h3 rfl,⟨l1,l2,by rw [World.size_setCell];exact l3⟩,fun _=>(P.g0 (by omega)).kept (turn_cell _ _ _ _) l2,fun _=>(P.g1 (by omega)).kept (turn_cell _ _ _ _) l2,fun _=>hv.kept (turn_cell _ _ _ _) l2⟩
theorem row_to(p:Nat)(hp:p<4)(x y z:Value): (devRow x y z).take 3 ++ vs (mt p) ++ (devRow x y z).drop (3+(vs (mt p)).length)=x :: y :: z :: (vs (mt p) ++ vs (mf 0)):=by rw [mt_len p hp];rfl
theorem row_from(p:Nat)(hp:p<4)(x y z:Value): (x :: y :: z :: (vs (mt p) ++ vs (mf 0))).take 12 ++ vs (mf p) ++ (x :: y :: z :: (vs (mt p) ++ vs (mf 0))).drop (12+(vs (mf p)).length)=x :: y :: z :: (vs (mt p) ++ vs (mf p)):=by
 obtain rfl | rfl | rfl | rfl:p=0∨p=1∨p=2∨p=3:=by omega
 all_goals rfl
theorem pair_mem(p:Nat)(hp:p<4): (mt p,mf p)∈pairs4:=by
 obtain rfl | rfl | rfl | rfl:p=0∨p=1∨p=2∨p=3:=by omega
 all_goals decide
structure SpaceM.Past(s:SpaceM)(b:Nat): Prop where
 p0:∀a,s.a0=some a→b≤a.block
 p1:∀a,s.a1=some a→b≤a.block
 p2:∀a,s.a2=some a→b≤a.block
theorem il_past{w:World}{base b:Nat}{A:Option Addr}{n c:Nat}{xs:List Int}(h:Il w base (.slice A n c) xs)(hb:b≤base): ∀a,A=some a→b≤a.block:=fun a ha=>by have:=(h.lt a.block (by rw [ha];simp [blks,Value.ownBlock])).1;omega
theorem ref_spaceQ(q:Int)(h0:0≤q)(w:World): Calls prog 35 #[q] w fun e w'=>(∃s:SpaceM,s.Good∧s.At w'∧s.Past w.heap.size∧e=.returned (.agg ⟨s.row⟩))∧Turn [] w w':=by
 obtain⟨a,ea⟩:∃a,q.tmod 256=a:=⟨_,rfl⟩;have ha:0≤a∧a≤255:=by rw [Int.tmod_eq_emod_of_nonneg h0]at ea;omega
 have ha2:(a+256).tmod 256=a:=by rw [Int.tmod_eq_emod_of_nonneg (by omega)];omega
 obtain⟨p,hp,ep⟩:∃p:Nat,p<4∧a.tmod 4=(p:Int):=⟨(a.tmod 4).toNat,by rw [Int.tmod_eq_emod_of_nonneg ha.1];omega,by rw [Int.tmod_eq_emod_of_nonneg ha.1];omega⟩;have HDE:=lh ref_device;have HCU:=lh ref_curveQ;have HAL:=lh alloc_SP;obtain⟨W,hW⟩:∃W,W=w.alloc (.cells #[.slice none 0 0,.slice none 0 0,.slice none 0 0,(0:Int),(0:Int),(0:Int),(0:Int),(0:Int),(0:Int),(0:Int),(0:Int),(0:Int),(0:Int),(0:Int),(0:Int),(0:Int),(0:Int),(0:Int),(0:Int),(0:Int),(0:Int)] 99):=⟨_,rfl⟩;have T0:Turn [] w W:=hW ▸ (tR w).alloc _;have hWs:W.heap.size=w.heap.size+1:=by rw [hW];simp
 have hW0:W.heap[w.heap.size]?=some (.cells #[.slice none 0 0,.slice none 0 0,.slice none 0 0,(0:Int),(0:Int),(0:Int),(0:Int),(0:Int),(0:Int),(0:Int),(0:Int),(0:Int),(0:Int),(0:Int),(0:Int),(0:Int),(0:Int),(0:Int),(0:Int),(0:Int),(0:Int)] 99 (0,0)):=by rw [hW];exact heap_alloc_new _ _
 have hst2:∀(u:World) A n c A1 n1 c1 A2 n2 c2,(Instr.storeAt 99 (.pointer (some ⟨u,0,none⟩)) (.agg ⟨devRow (.slice A n c) (.slice A1 n1 c1) (.slice A2 n2 c2)⟩)).run prog (u.alloc (.cells #[.slice none 0 0,.slice none 0 0,.slice none 0 0,(0:Int),(0:Int),(0:Int),(0:Int),(0:Int),(0:Int),(0:Int),(0:Int),(0:Int),(0:Int),(0:Int),(0:Int),(0:Int),(0:Int),(0:Int),(0:Int),(0:Int),(0:Int)] 99))=.ok () (u.alloc (.cells ⟨devRow (.slice A n c) (.slice A1 n1 c1) (.slice A2 n2 c2)⟩ 99)):=fun u A n c A1 n1 c1 A2 n2 c2=>
  run_storeAt_new u 99 #[.slice none 0 0,.slice none 0 0,.slice none 0 0,(0:Int),(0:Int),(0:Int),(0:Int),(0:Int),(0:Int),(0:Int),(0:Int),(0:Int),(0:Int),(0:Int),(0:Int),(0:Int),(0:Int),(0:Int),(0:Int),(0:Int),(0:Int)] ⟨devRow _ _ _⟩ (zero_of_info infoSPz).2 rfl (by simp [devRow,Value.oneCell'])
 have HS2:=lh hst2;clear hst2 h0;go_enter func35,ntmps35;go_upto_region 1 with (refine wpList_yield rfl (exec_alloc rfl (HAL.out _)) ?_;try go_frame)
 rw [←hW];clear hW;go_upto_region 3 with (first
  | (go_at_call 63;refine (HDE.out _).mono ?_;rintro e w1 ⟨⟨A,n,cap,A1,n1,cap1,A2,n2,cap2,rfl⟩,ht1⟩)
  | (refine wpList_yield rfl (exec_alloc (t:=99) rfl (HAL.out _)) ?_;try go_frame)
  | (refine wpList_store_run rfl 99 (.tmp 3) (.tmp 11) rfl rfl rfl (HS2.out _ _ _ _ _ _ _ _ _ _) ?_;try go_frame))
 obtain⟨W1,hW1⟩:∃W1,W1=w1.alloc (.cells ⟨devRow (.slice A n cap) (.slice A1 n1 cap1) (.slice A2 n2 cap2)⟩ 99):=⟨_,rfl⟩;have T1:Turn [] W W1:=hW1 ▸ ht1.alloc _;have x3:W1.heap[w1.heap.size]?=some (.cells ⟨devRow (.slice A n cap) (.slice A1 n1 cap1) (.slice A2 n2 cap2)⟩ 99 (0,0)):=by rw [hW1];exact heap_alloc_new _ _
 have hs1:w1.heap.size<W1.heap.size:=by rw [hW1];simp
 have hlt:=ht1.size;rw [←hW1];clear hW1 ht1 HS2 HAL HDE;generalize w1.heap.size=b3 at *;have hl3:(Instr.loadAt 97 (.pointer (some ⟨b3,3,none⟩))).run prog W1=.ok (.agg ⟨vs (mt 0)⟩) W1:=run_loadAt_mid W1 b3 3 97 (vs (mt 0)) _ (part_range x3 rfl) underlying97 rfl infoMX;have hst3:(Instr.storeAt 140 (.pointer (some ⟨W1,0,none⟩)) (.agg ⟨mt4⟩)).run prog (W1.alloc (.cells ⟨List.replicate 36 (0:Int)⟩ 140))=.ok () (W1.alloc (.cells ⟨mt4⟩ 140)):=run_storeAt_new W1 140 _ ⟨mt4⟩ (zero_of_info infoM4).2 rfl mt4_one;go_upto_region 4 with (first
  | (refine wpList_yield rfl (exec_load rfl rfl hl3) ?_;try go_frame)
  | (refine wpList_yield rfl (exec_build4 (p:=.agg ⟨vs (mt 0)⟩) (q:=.agg ⟨vs (mt 1)⟩) (r:=.agg ⟨vs (mt 2)⟩) (s:=.agg ⟨vs (mt 3)⟩) rfl rfl rfl rfl rfl (build_mt _)) ?_;try go_frame)
  | (refine wpList_yield rfl (exec_alloc rfl (alloc_M4 _)) ?_;try go_frame)
  | (refine wpList_store_run rfl 140 (.tmp 4) (.tmp 17) rfl rfl rfl hst3 ?_;try go_frame))
 obtain⟨W2,hW2⟩:∃W2,W2=W1.alloc (.cells ⟨mt4⟩ 140):=⟨_,rfl⟩;have T2:Turn [] W1 W2:=hW2 ▸ (tR W1).alloc _;have x4:W2.heap[W1.heap.size]?=some (.cells ⟨mt4⟩ 140 (0,0)):=by rw [hW2];exact heap_alloc_new _ _
 have hs2:W1.heap.size<W2.heap.size:=by rw [hW2];simp
 rw [←hW2];clear hW2 hl3 hst3;have x3:=(T2.old b3 (by omega) (by simp)).trans x3;generalize W1.heap.size=b4 at *;have hl4:(Instr.loadAt 97 (.pointer (some ⟨b3,3,none⟩))).run prog W2=.ok (.agg ⟨vs (mf 0)⟩) W2:=run_loadAt_mid W2 b3 3 97 (vs (mf 0)) _ (part_range x3 rfl) underlying97 rfl infoMX;have hst4:(Instr.storeAt 140 (.pointer (some ⟨W2,0,none⟩)) (.agg ⟨mf4⟩)).run prog (W2.alloc (.cells ⟨List.replicate 36 (0:Int)⟩ 140))=.ok () (W2.alloc (.cells ⟨mf4⟩ 140)):=run_storeAt_new W2 140 _ ⟨mf4⟩ (zero_of_info infoM4).2 rfl mf4_one;go_upto_region 5 with (first
  | (refine wpList_yield rfl (exec_load rfl rfl hl4) ?_;try go_frame)
  | (refine wpList_yield rfl (exec_build4 (p:=.agg ⟨vs (mf 0)⟩) (q:=.agg ⟨vs (mf 1)⟩) (r:=.agg ⟨vs (mf 2)⟩) (s:=.agg ⟨vs (mf 3)⟩) rfl rfl rfl rfl rfl (build_mf _)) ?_;try go_frame)
  | (refine wpList_yield rfl (exec_alloc rfl (alloc_M4 _)) ?_;try go_frame)
  | (refine wpList_store_run rfl 140 (.tmp 5) (.tmp 23) rfl rfl rfl hst4 ?_;try go_frame))
 obtain⟨W3,hW3⟩:∃W3,W3=W2.alloc (.cells ⟨mf4⟩ 140):=⟨_,rfl⟩;have T3:Turn [] W2 W3:=hW3 ▸ (tR W2).alloc _;have x5:W3.heap[W2.heap.size]?=some (.cells ⟨mf4⟩ 140 (0,0)):=by rw [hW3];exact heap_alloc_new _ _
 have hs3:W2.heap.size<W3.heap.size:=by rw [hW3];simp
 rw [←hW3];clear hW3 hl4 hst4;have x3:=(T3.old b3 (by omega) (by simp)).trans x3;have x4:=(T3.old b4 (by omega) (by simp)).trans x4;generalize W2.heap.size=b5 at *;have hl5:(Instr.loadAt 97 (.pointer (some ⟨b4,p*9,none⟩))).run prog W3=.ok (.agg ⟨vs (mt p)⟩) W3:=run_loadAt_mid W3 b4 (p*9) 97 (vs (mt p)) _ (part_range x4 (mt_part p hp)) underlying97 rfl (by rw [mt_len p hp];exact infoMX);have hst5:=part_store (o:=3) (ty:=97) x3 (by rw [mt_len p hp];exact infoMX) (by rw [mt_len p hp];show 12≤21;decide) (vs_one _) (row_to p hp _ _ _);have b0:(0:Int)≤(p:Int):=by omega
 have b1:(p:Int)<4:=by omega
 go_upto_region 6 with (first
  | (refine wpList_yield rfl (exec_load rfl rfl hl5) ?_;try go_frame)
  | (refine wpList_store_run rfl 97 (.tmp 28) (.tmp 27) rfl rfl rfl hst5 ?_;try go_frame))
 have y3:=setRow_at (L':=.slice A n cap :: .slice A1 n1 cap1 :: .slice A2 n2 cap2 :: (vs (mt p) ++ vs (mf 0))) x3;have y5:=(setRow_other W3 b3 ⟨.slice A n cap :: .slice A1 n1 cap1 :: .slice A2 n2 cap2 :: (vs (mt p) ++ vs (mf 0))⟩ b5 (by omega)).trans x5;have TA:Turn [] w (W3.setRow b3 ⟨.slice A n cap :: .slice A1 n1 cap1 :: .slice A2 n2 cap2 :: (vs (mt p) ++ vs (mf 0))⟩):=(T0.trans (T1.trans (T2.trans T3))).setRow _ (.inr (by omega));have y0:=(setRow_other W3 b3 ⟨.slice A n cap :: .slice A1 n1 cap1 :: .slice A2 n2 cap2 :: (vs (mt p) ++ vs (mf 0))⟩ w.heap.size (by omega)).trans (((T1.trans (T2.trans T3)).old w.heap.size (by omega) (by simp)).trans hW0);have hsA:(W3.setRow b3 ⟨.slice A n cap :: .slice A1 n1 cap1 :: .slice A2 n2 cap2 :: (vs (mt p) ++ vs (mf 0))⟩).heap.size≥W3.heap.size:=by simp [World.setRow]
 clear hl5 hst5 x3 x4 x5;generalize W3.setRow b3 ⟨.slice A n cap :: .slice A1 n1 cap1 :: .slice A2 n2 cap2 :: (vs (mt p) ++ vs (mf 0))⟩=W4 at *;have hl6:(Instr.loadAt 97 (.pointer (some ⟨b5,p*9,none⟩))).run prog W4=.ok (.agg ⟨vs (mf p)⟩) W4:=run_loadAt_mid W4 b5 (p*9) 97 (vs (mf p)) _ (part_range y5 (mf_part p hp)) underlying97 rfl (by rw [mf_len p hp];exact infoMX);have hst6:=part_store (o:=12) (ty:=97) y3 (by rw [mf_len p hp];exact infoMX) (by simp only [List.length_cons,List.length_append,mf_len p hp,mt_len p hp];decide) (vs_one _) (row_from p hp _ _ _);go_upto_region 7 with (first
  | (refine wpList_yield rfl (exec_load rfl rfl hl6) ?_;try go_frame)
  | (refine wpList_store_run rfl 97 (.tmp 33) (.tmp 32) rfl rfl rfl hst6 ?_;try go_frame))
 have P0:SpW w (W4.setRow b3 ⟨.slice A n cap :: .slice A1 n1 cap1 :: .slice A2 n2 cap2 :: (vs (mt p) ++ vs (mf p))⟩) b3 W4.heap.size (vs (mt p) ++ vs (mf p)) 0 A n cap A1 n1 cap1 A2 n2 cap2:=
  ⟨TA.setRow _ (.inr (by omega)),(setRow_other _ _ _ _ (by omega)).trans y0,setRow_at y3,⟨by omega,by omega,by simp [World.setRow]⟩,fun h=>by omega,fun h=>by omega,fun h=>by omega⟩
 clear hl6 hst6 y3 y5 y0 TA T0 T1 T2 T3 hW0;generalize W4.setRow b3 ⟨.slice A n cap :: .slice A1 n1 cap1 :: .slice A2 n2 cap2 :: (vs (mt p) ++ vs (mf p))⟩=W5 at *;generalize W4.heap.size=b6 at *;generalize hRR:vs (mt p) ++ vs (mf p)=RR at *;have HRR:=lh hRR;clear hRR;go_wp2_with fail
 go_loopw [6] (fun s6 wr=>∃(k:Nat) (A0:Option Addr) (n0 c0:Nat) (A1:Option Addr) (n1 c1:Nat) (A2:Option Addr) (n2 c2:Nat),k≤3∧s6=k∧SpW w wr b3 b6 RR k A0 n0 c0 A1 n1 c1 A2 n2 c2) (fun s6 _=>3 - (intOf s6).toNat);case atStart=>exact⟨0,_,_,_,_,_,_,_,_,_,by omega,rfl,P0⟩
 clear P0;obtain⟨k,A0,n0,c0,A1,n1,c1,A2,n2,c2,hk,rfl,P⟩:=hrel;by_cases hlt:k<3
 ·obtain rfl | rfl | rfl:k=0∨k=1∨k=2:=by omega
  ·have HP:=lh P;clear P;(go_wp2_with (go_at_call 64;refine (HCU.out _ _).mono ?_;rintro e w2 ⟨⟨v,rfl,hv⟩,ht2⟩;obtain⟨A9,n9,c9,cc,rfl,_,_⟩:=hv.form;have P2:=HP.out.turn ht2;have HP2:=lh P2;have HV:=lh (hv.base HP.out.lt.2.2);have y:=cell_at (i:=0) P2.h3 rfl;have yf:=frozen_at P2.h3 0;clear P2 hv ht2));have P3:=HP2.out.set0 HV.out;go_roundw;case rel=>exact⟨1,_,_,_,_,_,_,_,_,_,by omega,rfl,P3⟩
   simp [intOf]
  ·have HP:=lh P;clear P;(go_wp2_with (go_at_call 64;refine (HCU.out _ _).mono ?_;rintro e w2 ⟨⟨v,rfl,hv⟩,ht2⟩;obtain⟨A9,n9,c9,cc,rfl,_,_⟩:=hv.form;have P2:=HP.out.turn ht2;have HP2:=lh P2;have HV:=lh (hv.base HP.out.lt.2.2);have y:=cell_at (i:=1) P2.h3 rfl;have yf:=frozen_at P2.h3 1;clear P2 hv ht2));have P3:=HP2.out.set1 HV.out;go_roundw;case rel=>exact⟨2,_,_,_,_,_,_,_,_,_,by omega,rfl,P3⟩
   simp [intOf]
  have HP:=lh P;clear P;go_wp2_with (go_at_call 64;refine (HCU.out _ _).mono ?_;rintro e w2 ⟨⟨v,rfl,hv⟩,ht2⟩;obtain⟨A9,n9,c9,cc,rfl,_,_⟩:=hv.form;have P2:=HP.out.turn ht2;have HP2:=lh P2;have HV:=lh (hv.base HP.out.lt.2.2);have y:=cell_at (i:=2) P2.h3 rfl;have yf:=frozen_at P2.h3 2;clear P2 hv ht2)
  have P3:=HP2.out.set2 HV.out;go_roundw;case rel=>exact⟨3,_,_,_,_,_,_,_,_,_,by omega,rfl,P3⟩
  simp [intOf]
 obtain rfl:k=3:=by omega
 obtain⟨k0,i0,g0⟩:=P.g0 (by omega);obtain⟨k1,i1,g1⟩:=P.g1 (by omega);obtain⟨k2,i2,g2⟩:=P.g2 (by omega);have hRl:RR.length=18:=by rw [←HRR.out,List.length_append,mt_len p hp,mf_len p hp]
 obtain⟨L,hL⟩:∃L,L=.slice A0 n0 c0 :: .slice A1 n1 c1 :: .slice A2 n2 c2 :: RR:=⟨_,rfl⟩;have hLl:L.length=21:=by rw [hL];simp [hRl]
 have h3:=P.h3;rw [←hL]at h3;have h0':wr.heap[w.heap.size]?=some (.cells ⟨zsl⟩ 99 (0,0)):=P.h0;have hiL:(prog.info? 99).map (·.size)=some L.length:=by rw [hLl];exact (zero_of_info infoSPz).2
 have hone:∀v∈L,v.oneCell'=true:=fun v hv=>by
  rw [hL,←HRR.out]at hv;rcases List.mem_cons.1 hv with rfl | hv
  ·rfl
  rcases List.mem_cons.1 hv with rfl | hv
  ·rfl
  rcases List.mem_cons.1 hv with rfl | hv
  ·rfl
  rcases List.mem_append.1 hv with hv | hv
  ·exact vs_one _ v hv
  exact vs_one _ v hv
 have hlA:(Instr.loadAt 99 (.pointer (some ⟨b3,0,none⟩))).run prog wr=.ok (.agg ⟨L⟩) wr:=run_loadAt_mid wr b3 0 99 L _ (part_range h3 (by simp)) underlying99 rfl hiL;have hstA:=part_store (o:=0) (ty:=99) (L':=L) h0' hiL (by rw [hLl];decide) hone (by rw [hLl];simp [zsl]);have hr9:=setRow_at (L':=L) h0';have hl9:=run_loadVar_row (P:=prog) _ w.heap.size 99 99 ⟨L⟩ (0,0) _ hr9 underlying99 rfl hiL;have T9:Turn [w.heap.size] wr (wr.setRow w.heap.size ⟨L⟩):=(Turn.refl [w.heap.size] wr).setRow _ (.inl (by simp));have hd:∀{v:Value} {c:List Int},Il wr b6 v c→∀g∈blks v,g∉[w.heap.size]:=fun h g hg hm=>by have:=(h.lt g hg).1;have:=P.lt;simp at hm;omega
 have HPA:Hid (SpaceM.Past ⟨A0,n0,c0,k0,A1,n1,c1,k1,A2,n2,c2,k2,mt p,mf p⟩ w.heap.size):=lh ⟨il_past i0 (by have:=P.lt;omega),il_past i1 (by have:=P.lt;omega),il_past i2 (by have:=P.lt;omega)⟩;have HI0:=lh (i0.kept T9 (hd i0)).ints';have HI1:=lh (i1.kept T9 (hd i1)).ints';have HI2:=lh (i2.kept T9 (hd i2)).ints';have HT:=lh (P.t.setRow (g:=w.heap.size) ⟨L⟩ (.inr (Nat.le_refl _)));have HLL:=lh hL;have HG:=lh (And.intro g0 (And.intro g1 g2));clear P i0 i1 i2 hd T9 h3 h0' hr9 hone g0 g1 g2 hL hRl;go_wp2_with (first
  | (refine wpList_yield rfl (exec_load rfl rfl hlA) ?_;try go_frame)
  | (refine wpList_store_run rfl 99 (.tmp 2) (.tmp 47) rfl rfl rfl hstA ?_;try go_frame))
 refine bodyPost_ret (v:=.agg ⟨L⟩) ?_ rfl ⟨⟨⟨A0,n0,c0,k0,A1,n1,c1,k1,A2,n2,c2,k2,mt p,mf p⟩,⟨HG.out.1,HG.out.2.1,HG.out.2.2,pair_mem p hp⟩,⟨?_,?_,HI0.out,HI1.out,HI2.out⟩,HPA.out,?_⟩,HT.out⟩
 ·simp [results,results35,asAddr,hl9]
 ·have:=mt_len p hp;simpa [vs]using this
 ·have:=mf_len p hp;simpa [vs]using this
 rw [HLL.out,←HRR.out];rfl
end Go.Proofs.YtbpklgllihhgpaaGreat
