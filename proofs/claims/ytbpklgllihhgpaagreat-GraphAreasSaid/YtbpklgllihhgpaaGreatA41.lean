import Derived.Test.YtbpklgllihhgpaaGreatA27
import Derived.Test.YtbpklgllihhgpaaGreatA28
set_option maxRecDepth 100000
set_option maxHeartbeats 16000000
namespace Go.Proofs.YtbpklgllihhgpaaGreat
open Tryz Go.RowKit Go.Den
def mt(p:Nat): List Int:=(uQ.getD p ([],[])).1
def mf(p:Nat): List Int:=(uQ.getD p ([],[])).2
def vs(l:List Int): List Value:=l.map (Value.int .i64)
def Rl:List Value:=vs (mt 0) ++ vs (mt 1) ++ vs (mt 2) ++ vs (mt 3)
def Rh:List Value:=vs (mf 0) ++ vs (mf 1) ++ vs (mf 2) ++ vs (mf 3)
theorem RZ(p:Nat)(hp:p<4): (Rl.drop (p*9)).take (vs (mt p)).length=vs (mt p):=by
 obtain rfl | rfl | rfl | rfl:p=0∨p=1∨p=2∨p=3:=by omega
 all_goals rfl
theorem Ro(p:Nat)(hp:p<4): (Rh.drop (p*9)).take (vs (mf p)).length=vs (mf p):=by
 obtain rfl | rfl | rfl | rfl:p=0∨p=1∨p=2∨p=3:=by omega
 all_goals rfl
theorem uH(p:Nat)(hp:p<4): (vs (mt p)).length=9:=by
 obtain rfl | rfl | rfl | rfl:p=0∨p=1∨p=2∨p=3:=by omega
 all_goals rfl
theorem Az(p:Nat)(hp:p<4): (vs (mf p)).length=9:=by
 obtain rfl | rfl | rfl | rfl:p=0∨p=1∨p=2∨p=3:=by omega
 all_goals rfl
theorem xx(l:List Int): ∀v∈vs l,v.oneCell'=true:=fun v hv=>by obtain⟨x,_,rfl⟩:=List.mem_map.1 hv;rfl
theorem Rx:(⟨Rl⟩:Array Value).all (·.oneCell')=true:=all_oneCell_toArray (cs:=Rl) fun v hv=>by simp only [Rl,aV]at hv;rcases hv with ((h | h) | h) | h <;> exact xx _ v h
theorem Uf:(⟨Rh⟩:Array Value).all (·.oneCell')=true:=all_oneCell_toArray (cs:=Rh) fun v hv=>by simp only [Rh,aV]at hv;rcases hv with ((h | h) | h) | h <;> exact xx _ v h
def WB:List Value:=[.slice none 0 0,.slice none 0 0,.slice none 0 0,(0:Int),(0:Int),(0:Int),(0:Int),(0:Int),(0:Int),(0:Int),(0:Int),(0:Int),(0:Int),(0:Int),(0:Int),(0:Int),(0:Int),(0:Int),(0:Int),(0:Int),(0:Int)]
theorem xy:(prog.info? 97).map (·.size)=some 9:=by kernel_rfl
theorem Jt:(prog.info? 140).map (fun i=>(i.zero,i.size))=some (some (.agg ⟨List.replicate 36 (0:Int)⟩),36):=by kernel_rfl
theorem EZ:(prog.info? 99).map (fun i=>(i.zero,i.size))=some (some (.agg #[.slice none 0 0,.slice none 0 0,.slice none 0 0,(0:Int),(0:Int),(0:Int),(0:Int),(0:Int),(0:Int),(0:Int),(0:Int),(0:Int),(0:Int),(0:Int),(0:Int),(0:Int),(0:Int),(0:Int),(0:Int),(0:Int),(0:Int)]),21):=by kernel_rfl
theorem Ij(u:World): (Instr.alloc 140 true (.tuple #[])).run prog u=.ok (.pointer (some ⟨u,0,none⟩)) (u.alloc (.cells ⟨List.replicate 36 (0:Int)⟩ 140)):=by unfold Instr.alloc;rw [Sem.run_bind,(zero_of_info Jt).1];rfl
theorem QR(u:World): (Instr.alloc 99 true (.tuple #[])).run prog u=.ok (.pointer (some ⟨u,0,none⟩)) (u.alloc (.cells #[.slice none 0 0,.slice none 0 0,.slice none 0 0,(0:Int),(0:Int),(0:Int),(0:Int),(0:Int),(0:Int),(0:Int),(0:Int),(0:Int),(0:Int),(0:Int),(0:Int),(0:Int),(0:Int),(0:Int),(0:Int),(0:Int),(0:Int)] 99)):=by unfold Instr.alloc;rw [Sem.run_bind,(zero_of_info EZ).1];rfl
theorem OT(u:World): (Instr.build 140 #[(0,.agg ⟨vs (mt 0)⟩),(1,.agg ⟨vs (mt 1)⟩),(2,.agg ⟨vs (mt 2)⟩),(3,.agg ⟨vs (mt 3)⟩)]).run prog u=.ok (.agg ⟨Rl⟩) u:=by kernel_rfl
theorem Qw(u:World): (Instr.build 140 #[(0,.agg ⟨vs (mf 0)⟩),(1,.agg ⟨vs (mf 1)⟩),(2,.agg ⟨vs (mf 2)⟩),(3,.agg ⟨vs (mf 3)⟩)]).run prog u=.ok (.agg ⟨Rh⟩) u:=by kernel_rfl
theorem mF{P:Program}{o:Oper}{a:Act}{w w':World}{t:TypeId}{i j k l:Nat}{x y z t':Operand}{p q r s v:Value}(ho:o.op=.build t #[(i,x),(j,y),(k,z),(l,t')])(hx:a.eval x=p)(hy:a.eval y=q)(hz:a.eval z=r)(ht:a.eval t'=s)(hr:(Instr.build t #[(i,p),(j,q),(k,r),(l,s)]).run P w=.ok v w'): (execOp a.eval o).run P w=.ok (.value v) w':=
 iU ho (by simp [hx,hy,hz,ht]) hr
theorem qK.form{w:World}{base:Nat}{v:Value}(h:qK w base v): ∃A n cap c,v=.slice A n cap∧dn w A n c∧jh c=true:=by obtain⟨c,h1,h2⟩:=h;obtain⟨A,n,cap,rfl,h3⟩:=h1.ints;exact⟨A,n,cap,c,rfl,h3,h2⟩
theorem qK.kept{w w':World}{base b:Nat}{v:Value}(h:qK w base v)(T:bH [b] w w')(hb:b<base): qK w' base v:=by obtain⟨c,h1,h2⟩:=h;exact⟨c,h1.kept T (fun g hg hm=>by have:=(h1.lt g hg).1;simp at hm;omega),h2⟩
theorem qK.turn{w w':World}{base:Nat}{v:Value}(h:qK w base v)(T:bH [] w w'): qK w' base v:=by obtain⟨c,h1,h2⟩:=h;exact⟨c,h1.turn T,h2⟩
theorem qK.base{w:World}{base base':Nat}{v:Value}(h:qK w base v)(hb:base'≤base): qK w base' v:=by obtain⟨c,h1,h2⟩:=h;exact⟨c,h1.base hb,h2⟩
structure Lh(w wr:World)(b3 b6:Nat)(R:List Value)(k:Nat)(A0:Option Addr)(n0 c0:Nat)(A1:Option Addr)(n1 c1:Nat)(A2:Option Addr)(n2 c2:Nat): Prop where
 t:bH [] w wr
 h0:wr.heap[w.heap.size]?=some (.cells #[.slice none 0 0,.slice none 0 0,.slice none 0 0,(0:Int),(0:Int),(0:Int),(0:Int),(0:Int),(0:Int),(0:Int),(0:Int),(0:Int),(0:Int),(0:Int),(0:Int),(0:Int),(0:Int),(0:Int),(0:Int),(0:Int),(0:Int)] 99 (0,0))
 h3:wr.heap[b3]?=some (.cells ⟨.slice A0 n0 c0 :: .slice A1 n1 c1 :: .slice A2 n2 c2 :: R⟩ 99 (0,0))
 lt:w.heap.size<b3∧b3<b6∧b6≤wr.heap.size
 g0:1≤k→qK wr b6 (.slice A0 n0 c0)
 g1:2≤k→qK wr b6 (.slice A1 n1 c1)
 g2:3≤k→qK wr b6 (.slice A2 n2 c2)
theorem Lh.turn{w wr u:World}{b3 b6:Nat}{R:List Value}{k:Nat}{A0:Option Addr}{n0 c0:Nat}{A1:Option Addr}{n1 c1:Nat}{A2:Option Addr}{n2 c2:Nat}(P:Lh w wr b3 b6 R k A0 n0 c0 A1 n1 c1 A2 n2 c2)(T:bH [] wr u): Lh w u b3 b6 R k A0 n0 c0 A1 n1 c1 A2 n2 c2:=by obtain⟨l1,l2,l3⟩:=P.lt;have hs:=T.size;exact⟨P.t.trans T,(T.old _ (by omega) (by simp)).trans P.h0,(T.old _ (by omega) (by simp)).trans P.h3,⟨l1,l2,by omega⟩,fun h=>(P.g0 h).turn T,fun h=>(P.g1 h).turn T,fun h=>(P.g2 h).turn T⟩
theorem ni(u:World)(b i:Nat)(v:Value): bH [b] u (u.setCell ⟨b,i,none⟩ v):=(bH.refl [b] u).setCell _ (.inl (by simp))
theorem Lh.set0{w u:World}{b3 b6:Nat}{R:List Value}{A0:Option Addr}{n0 c0:Nat}{A1:Option Addr}{n1 c1:Nat}{A2:Option Addr}{n2 c2:Nat}(P:Lh w u b3 b6 R 0 A0 n0 c0 A1 n1 c1 A2 n2 c2){A:Option Addr}{n c:Nat}(hv:qK u b6 (.slice A n c)): Lh w (u.setCell ⟨b3,0,none⟩ (.slice A n c)) b3 b6 R 1 A n c A1 n1 c1 A2 n2 c2:=by obtain⟨l1,l2,l3⟩:=P.lt;exact⟨P.t.sc,(dG _ _ _ _ _ (by omega)).trans P.h0,dU P.h3 rfl,⟨l1,l2,by rw [World.size_setCell];exact l3⟩,fun _=>hv.kept (ni _ _ _ _) l2,fun h=>by omega,fun h=>by omega⟩
theorem Lh.set1{w u:World}{b3 b6:Nat}{R:List Value}{A0:Option Addr}{n0 c0:Nat}{A1:Option Addr}{n1 c1:Nat}{A2:Option Addr}{n2 c2:Nat}(P:Lh w u b3 b6 R 1 A0 n0 c0 A1 n1 c1 A2 n2 c2){A:Option Addr}{n c:Nat}(hv:qK u b6 (.slice A n c)): Lh w (u.setCell ⟨b3,1,none⟩ (.slice A n c)) b3 b6 R 2 A0 n0 c0 A n c A2 n2 c2:=by obtain⟨l1,l2,l3⟩:=P.lt;exact⟨P.t.sc,(dG _ _ _ _ _ (by omega)).trans P.h0,dU P.h3 rfl,⟨l1,l2,by rw [World.size_setCell];exact l3⟩,fun _=>(P.g0 (by omega)).kept (ni _ _ _ _) l2,fun _=>hv.kept (ni _ _ _ _) l2,fun h=>by omega⟩
theorem Lh.set2{w u:World}{b3 b6:Nat}{R:List Value}{A0:Option Addr}{n0 c0:Nat}{A1:Option Addr}{n1 c1:Nat}{A2:Option Addr}{n2 c2:Nat}(P:Lh w u b3 b6 R 2 A0 n0 c0 A1 n1 c1 A2 n2 c2){A:Option Addr}{n c:Nat}(hv:qK u b6 (.slice A n c)): Lh w (u.setCell ⟨b3,2,none⟩ (.slice A n c)) b3 b6 R 3 A0 n0 c0 A1 n1 c1 A n c:=by obtain⟨l1,l2,l3⟩:=P.lt;exact⟨P.t.sc,(dG _ _ _ _ _ (by omega)).trans P.h0,dU P.h3 rfl,⟨l1,l2,by rw [World.size_setCell];exact l3⟩,fun _=>(P.g0 (by omega)).kept (ni _ _ _ _) l2,fun _=>(P.g1 (by omega)).kept (ni _ _ _ _) l2,fun _=>hv.kept (ni _ _ _ _) l2⟩
theorem UN(p:Nat)(hp:p<4)(x y z:Value): (kS x y z).take 3 ++ vs (mt p) ++ (kS x y z).drop (3+(vs (mt p)).length)=x :: y :: z :: (vs (mt p) ++ vs (mf 0)):=by rw [uH p hp];rfl
theorem QX(p:Nat)(hp:p<4)(x y z:Value): (x :: y :: z :: (vs (mt p) ++ vs (mf 0))).take 12 ++ vs (mf p) ++ (x :: y :: z :: (vs (mt p) ++ vs (mf 0))).drop (12+(vs (mf p)).length)=x :: y :: z :: (vs (mt p) ++ vs (mf p)):=by
 obtain rfl | rfl | rfl | rfl:p=0∨p=1∨p=2∨p=3:=by omega
 all_goals rfl
theorem O6(p:Nat)(hp:p<4): (mt p,mf p)∈uQ:=by
 obtain rfl | rfl | rfl | rfl:p=0∨p=1∨p=2∨p=3:=by omega
 all_goals decide
structure eF.Past(s:eF)(b:Nat): Prop where
 p0:∀a,s.a0=some a→b≤a.block
 p1:∀a,s.a1=some a→b≤a.block
 p2:∀a,s.a2=some a→b≤a.block
theorem zB{w:World}{base b:Nat}{A:Option Addr}{n c:Nat}{xs:List Int}(h:Il w base (.slice A n c) xs)(hb:b≤base): ∀a,A=some a→b≤a.block:=fun a ha=>by have:=(h.lt a.block (by rw [ha];simp [dI,Value.ownBlock])).1;omega
theorem JD(q:Int)(h0:0≤q)(w:World): Calls prog 35 #[q] w fun e w'=>(∃s:eF,s.Good∧s.At w'∧s.Past w.heap.size∧e=.returned (.agg ⟨s.row⟩))∧bH [] w w':=by
 obtain⟨a,ea⟩:∃a,q.tmod 256=a:=⟨_,rfl⟩;have ha:0≤a∧a≤255:=by rw [Int.tmod_eq_emod_of_nonneg h0]at ea;omega
 have ha2:(a+256).tmod 256=a:=by rw [Int.tmod_eq_emod_of_nonneg (by omega)];omega
 obtain⟨p,hp,ep⟩:∃p:Nat,p<4∧a.tmod 4=(p:Int):=⟨(a.tmod 4).toNat,by rw [Int.tmod_eq_emod_of_nonneg ha.1];omega,by rw [Int.tmod_eq_emod_of_nonneg ha.1];omega⟩;have HDE:=lh I5;have HCU:=lh JR;have HAL:=lh QR;obtain⟨W,hW⟩:∃W,W=w.alloc (.cells #[.slice none 0 0,.slice none 0 0,.slice none 0 0,(0:Int),(0:Int),(0:Int),(0:Int),(0:Int),(0:Int),(0:Int),(0:Int),(0:Int),(0:Int),(0:Int),(0:Int),(0:Int),(0:Int),(0:Int),(0:Int),(0:Int),(0:Int)] 99):=⟨_,rfl⟩;have T0:bH [] w W:=hW ▸ (tR w).alloc _;have hWs:W.heap.size=w.heap.size+1:=by rw [hW];simp
 have hW0:W.heap[w.heap.size]?=some (.cells #[.slice none 0 0,.slice none 0 0,.slice none 0 0,(0:Int),(0:Int),(0:Int),(0:Int),(0:Int),(0:Int),(0:Int),(0:Int),(0:Int),(0:Int),(0:Int),(0:Int),(0:Int),(0:Int),(0:Int),(0:Int),(0:Int),(0:Int)] 99 (0,0)):=by rw [hW];exact heap_alloc_new _ _
 have hst2:∀(u:World) A n c A1 n1 c1 A2 n2 c2,(Instr.storeAt 99 (.pointer (some ⟨u,0,none⟩)) (.agg ⟨kS (.slice A n c) (.slice A1 n1 c1) (.slice A2 n2 c2)⟩)).run prog (u.alloc (.cells #[.slice none 0 0,.slice none 0 0,.slice none 0 0,(0:Int),(0:Int),(0:Int),(0:Int),(0:Int),(0:Int),(0:Int),(0:Int),(0:Int),(0:Int),(0:Int),(0:Int),(0:Int),(0:Int),(0:Int),(0:Int),(0:Int),(0:Int)] 99))=.ok () (u.alloc (.cells ⟨kS (.slice A n c) (.slice A1 n1 c1) (.slice A2 n2 c2)⟩ 99)):=fun u A n c A1 n1 c1 A2 n2 c2=>
  run_storeAt_new u 99 #[.slice none 0 0,.slice none 0 0,.slice none 0 0,(0:Int),(0:Int),(0:Int),(0:Int),(0:Int),(0:Int),(0:Int),(0:Int),(0:Int),(0:Int),(0:Int),(0:Int),(0:Int),(0:Int),(0:Int),(0:Int),(0:Int),(0:Int)] ⟨kS _ _ _⟩ (zero_of_info EZ).2 rfl (by simp [kS,Value.oneCell'])
 have HS2:=lh hst2;clear hst2 h0;go_enter func35,ntmps35;go_upto_region 1 with (refine bQ rfl (di rfl (HAL.o _)) ?_;try go_frame)
 rw [←hW];clear hW;go_upto_region 3 with (first
  | (go_at_call 63;refine (HDE.o _).mono ?_;rintro e w1 ⟨⟨A,n,cap,A1,n1,cap1,A2,n2,cap2,rfl⟩,ht1⟩)
  | (refine bQ rfl (di (t:=99) rfl (HAL.o _)) ?_;try go_frame)
  | (refine bU rfl 99 (.tmp 3) (.tmp 11) rfl rfl rfl (HS2.o _ _ _ _ _ _ _ _ _ _) ?_;try go_frame))
 obtain⟨W1,hW1⟩:∃W1,W1=w1.alloc (.cells ⟨kS (.slice A n cap) (.slice A1 n1 cap1) (.slice A2 n2 cap2)⟩ 99):=⟨_,rfl⟩;have T1:bH [] W W1:=hW1 ▸ ht1.alloc _;have x3:W1.heap[w1.heap.size]?=some (.cells ⟨kS (.slice A n cap) (.slice A1 n1 cap1) (.slice A2 n2 cap2)⟩ 99 (0,0)):=by rw [hW1];exact heap_alloc_new _ _
 have hs1:w1.heap.size<W1.heap.size:=by rw [hW1];simp
 have hlt:=ht1.size;rw [←hW1];clear hW1 ht1 HS2 HAL HDE;generalize w1.heap.size=b3 at *;have hl3:(Instr.loadAt 97 (.pointer (some ⟨b3,3,none⟩))).run prog W1=.ok (.agg ⟨vs (mt 0)⟩) W1:=run_loadAt_mid W1 b3 3 97 (vs (mt 0)) _ (gp x3 rfl) underlying97 rfl xy;have hst3:(Instr.storeAt 140 (.pointer (some ⟨W1,0,none⟩)) (.agg ⟨Rl⟩)).run prog (W1.alloc (.cells ⟨List.replicate 36 (0:Int)⟩ 140))=.ok () (W1.alloc (.cells ⟨Rl⟩ 140)):=run_storeAt_new W1 140 _ ⟨Rl⟩ (zero_of_info Jt).2 rfl Rx;go_upto_region 4 with (first
  | (refine bQ rfl (dw rfl rfl hl3) ?_;try go_frame)
  | (refine bQ rfl (mF (p:=.agg ⟨vs (mt 0)⟩) (q:=.agg ⟨vs (mt 1)⟩) (r:=.agg ⟨vs (mt 2)⟩) (s:=.agg ⟨vs (mt 3)⟩) rfl rfl rfl rfl rfl (OT _)) ?_;try go_frame)
  | (refine bQ rfl (di rfl (Ij _)) ?_;try go_frame)
  | (refine bU rfl 140 (.tmp 4) (.tmp 17) rfl rfl rfl hst3 ?_;try go_frame))
 obtain⟨W2,hW2⟩:∃W2,W2=W1.alloc (.cells ⟨Rl⟩ 140):=⟨_,rfl⟩;have T2:bH [] W1 W2:=hW2 ▸ (tR W1).alloc _;have x4:W2.heap[W1.heap.size]?=some (.cells ⟨Rl⟩ 140 (0,0)):=by rw [hW2];exact heap_alloc_new _ _
 have hs2:W1.heap.size<W2.heap.size:=by rw [hW2];simp
 rw [←hW2];clear hW2 hl3 hst3;have x3:=(T2.old b3 (by omega) (by simp)).trans x3;generalize W1.heap.size=b4 at *;have hl4:(Instr.loadAt 97 (.pointer (some ⟨b3,3,none⟩))).run prog W2=.ok (.agg ⟨vs (mf 0)⟩) W2:=run_loadAt_mid W2 b3 3 97 (vs (mf 0)) _ (gp x3 rfl) underlying97 rfl xy;have hst4:(Instr.storeAt 140 (.pointer (some ⟨W2,0,none⟩)) (.agg ⟨Rh⟩)).run prog (W2.alloc (.cells ⟨List.replicate 36 (0:Int)⟩ 140))=.ok () (W2.alloc (.cells ⟨Rh⟩ 140)):=run_storeAt_new W2 140 _ ⟨Rh⟩ (zero_of_info Jt).2 rfl Uf;go_upto_region 5 with (first
  | (refine bQ rfl (dw rfl rfl hl4) ?_;try go_frame)
  | (refine bQ rfl (mF (p:=.agg ⟨vs (mf 0)⟩) (q:=.agg ⟨vs (mf 1)⟩) (r:=.agg ⟨vs (mf 2)⟩) (s:=.agg ⟨vs (mf 3)⟩) rfl rfl rfl rfl rfl (Qw _)) ?_;try go_frame)
  | (refine bQ rfl (di rfl (Ij _)) ?_;try go_frame)
  | (refine bU rfl 140 (.tmp 5) (.tmp 23) rfl rfl rfl hst4 ?_;try go_frame))
 obtain⟨W3,hW3⟩:∃W3,W3=W2.alloc (.cells ⟨Rh⟩ 140):=⟨_,rfl⟩;have T3:bH [] W2 W3:=hW3 ▸ (tR W2).alloc _;have x5:W3.heap[W2.heap.size]?=some (.cells ⟨Rh⟩ 140 (0,0)):=by rw [hW3];exact heap_alloc_new _ _
 have hs3:W2.heap.size<W3.heap.size:=by rw [hW3];simp
 rw [←hW3];clear hW3 hl4 hst4;have x3:=(T3.old b3 (by omega) (by simp)).trans x3;have x4:=(T3.old b4 (by omega) (by simp)).trans x4;generalize W2.heap.size=b5 at *;have hl5:(Instr.loadAt 97 (.pointer (some ⟨b4,p*9,none⟩))).run prog W3=.ok (.agg ⟨vs (mt p)⟩) W3:=run_loadAt_mid W3 b4 (p*9) 97 (vs (mt p)) _ (gp x4 (RZ p hp)) underlying97 rfl (by rw [uH p hp];exact xy);have hst5:=dQ (o:=3) (ty:=97) x3 (by rw [uH p hp];exact xy) (by rw [uH p hp];show 12≤21;decide) (xx _) (UN p hp _ _ _);have b0:(0:Int)≤(p:Int):=by omega
 have b1:(p:Int)<4:=by omega
 go_upto_region 6 with (first
  | (refine bQ rfl (dw rfl rfl hl5) ?_;try go_frame)
  | (refine bU rfl 97 (.tmp 28) (.tmp 27) rfl rfl rfl hst5 ?_;try go_frame))
 have y3:=eQ (L':=.slice A n cap :: .slice A1 n1 cap1 :: .slice A2 n2 cap2 :: (vs (mt p) ++ vs (mf 0))) x3;have y5:=(fQ W3 b3 ⟨.slice A n cap :: .slice A1 n1 cap1 :: .slice A2 n2 cap2 :: (vs (mt p) ++ vs (mf 0))⟩ b5 (by omega)).trans x5;have TA:bH [] w (W3.setRow b3 ⟨.slice A n cap :: .slice A1 n1 cap1 :: .slice A2 n2 cap2 :: (vs (mt p) ++ vs (mf 0))⟩):=(T0.trans (T1.trans (T2.trans T3))).setRow _ (.inr (by omega));have y0:=(fQ W3 b3 ⟨.slice A n cap :: .slice A1 n1 cap1 :: .slice A2 n2 cap2 :: (vs (mt p) ++ vs (mf 0))⟩ w.heap.size (by omega)).trans (((T1.trans (T2.trans T3)).old w.heap.size (by omega) (by simp)).trans hW0);have hsA:(W3.setRow b3 ⟨.slice A n cap :: .slice A1 n1 cap1 :: .slice A2 n2 cap2 :: (vs (mt p) ++ vs (mf 0))⟩).heap.size≥W3.heap.size:=by simp [World.setRow]
 clear hl5 hst5 x3 x4 x5;generalize W3.setRow b3 ⟨.slice A n cap :: .slice A1 n1 cap1 :: .slice A2 n2 cap2 :: (vs (mt p) ++ vs (mf 0))⟩=W4 at *;have hl6:(Instr.loadAt 97 (.pointer (some ⟨b5,p*9,none⟩))).run prog W4=.ok (.agg ⟨vs (mf p)⟩) W4:=run_loadAt_mid W4 b5 (p*9) 97 (vs (mf p)) _ (gp y5 (Ro p hp)) underlying97 rfl (by rw [Az p hp];exact xy);have hst6:=dQ (o:=12) (ty:=97) y3 (by rw [Az p hp];exact xy) (by simp only [List.length_cons,aO,Az p hp,uH p hp];decide) (xx _) (QX p hp _ _ _);go_upto_region 7 with (first
  | (refine bQ rfl (dw rfl rfl hl6) ?_;try go_frame)
  | (refine bU rfl 97 (.tmp 33) (.tmp 32) rfl rfl rfl hst6 ?_;try go_frame))
 have P0:Lh w (W4.setRow b3 ⟨.slice A n cap :: .slice A1 n1 cap1 :: .slice A2 n2 cap2 :: (vs (mt p) ++ vs (mf p))⟩) b3 W4.heap.size (vs (mt p) ++ vs (mf p)) 0 A n cap A1 n1 cap1 A2 n2 cap2:=
  ⟨TA.setRow _ (.inr (by omega)),(fQ _ _ _ _ (by omega)).trans y0,eQ y3,⟨by omega,by omega,by simp [World.setRow]⟩,fun h=>by omega,fun h=>by omega,fun h=>by omega⟩
 clear hl6 hst6 y3 y5 y0 TA T0 T1 T2 T3 hW0;generalize W4.setRow b3 ⟨.slice A n cap :: .slice A1 n1 cap1 :: .slice A2 n2 cap2 :: (vs (mt p) ++ vs (mf p))⟩=W5 at *;generalize W4.heap.size=b6 at *;generalize hRR:vs (mt p) ++ vs (mf p)=RR at *;have HRR:=lh hRR;clear hRR;go_wp2_with fail
 go_loopw [6] (fun s6 wr=>∃(k:Nat) (A0:Option Addr) (n0 c0:Nat) (A1:Option Addr) (n1 c1:Nat) (A2:Option Addr) (n2 c2:Nat),k≤3∧s6=k∧Lh w wr b3 b6 RR k A0 n0 c0 A1 n1 c1 A2 n2 c2) (fun s6 _=>3 - (intOf s6).toNat);case atStart=>exact⟨0,_,_,_,_,_,_,_,_,_,by omega,rfl,P0⟩
 clear P0;obtain⟨k,A0,n0,c0,A1,n1,c1,A2,n2,c2,hk,rfl,P⟩:=hrel;by_cases hlt:k<3
 ·obtain rfl | rfl | rfl:k=0∨k=1∨k=2:=by omega
  ·have HP:=lh P;clear P;(go_wp2_with (go_at_call 64;refine (HCU.o _ _).mono ?_;rintro e w2 ⟨⟨v,rfl,hv⟩,ht2⟩;obtain⟨A9,n9,c9,cc,rfl,_,_⟩:=hv.form;have P2:=HP.o.turn ht2;have HP2:=lh P2;have HV:=lh (hv.base HP.o.lt.2.2);have y:=bJ (i:=0) P2.h3 rfl;have yf:=dD P2.h3 0;clear P2 hv ht2));have P3:=HP2.o.set0 HV.o;go_roundw;case rel=>exact⟨1,_,_,_,_,_,_,_,_,_,by omega,rfl,P3⟩
   simp [intOf]
  ·have HP:=lh P;clear P;(go_wp2_with (go_at_call 64;refine (HCU.o _ _).mono ?_;rintro e w2 ⟨⟨v,rfl,hv⟩,ht2⟩;obtain⟨A9,n9,c9,cc,rfl,_,_⟩:=hv.form;have P2:=HP.o.turn ht2;have HP2:=lh P2;have HV:=lh (hv.base HP.o.lt.2.2);have y:=bJ (i:=1) P2.h3 rfl;have yf:=dD P2.h3 1;clear P2 hv ht2));have P3:=HP2.o.set1 HV.o;go_roundw;case rel=>exact⟨2,_,_,_,_,_,_,_,_,_,by omega,rfl,P3⟩
   simp [intOf]
  have HP:=lh P;clear P;go_wp2_with (go_at_call 64;refine (HCU.o _ _).mono ?_;rintro e w2 ⟨⟨v,rfl,hv⟩,ht2⟩;obtain⟨A9,n9,c9,cc,rfl,_,_⟩:=hv.form;have P2:=HP.o.turn ht2;have HP2:=lh P2;have HV:=lh (hv.base HP.o.lt.2.2);have y:=bJ (i:=2) P2.h3 rfl;have yf:=dD P2.h3 2;clear P2 hv ht2)
  have P3:=HP2.o.set2 HV.o;go_roundw;case rel=>exact⟨3,_,_,_,_,_,_,_,_,_,by omega,rfl,P3⟩
  simp [intOf]
 obtain rfl:k=3:=by omega
 obtain⟨k0,i0,g0⟩:=P.g0 (by omega);obtain⟨k1,i1,g1⟩:=P.g1 (by omega);obtain⟨k2,i2,g2⟩:=P.g2 (by omega);have hRl:RR.length=18:=by rw [←HRR.o,aO,uH p hp,Az p hp]
 obtain⟨L,hL⟩:∃L,L=.slice A0 n0 c0 :: .slice A1 n1 c1 :: .slice A2 n2 c2 :: RR:=⟨_,rfl⟩;have hLl:L.length=21:=by rw [hL];simp [hRl]
 have h3:=P.h3;rw [←hL]at h3;have h0':wr.heap[w.heap.size]?=some (.cells ⟨WB⟩ 99 (0,0)):=P.h0;have hiL:(prog.info? 99).map (·.size)=some L.length:=by rw [hLl];exact (zero_of_info EZ).2
 have hone:∀v∈L,v.oneCell'=true:=fun v hv=>by
  rw [hL,←HRR.o]at hv;rcases aS.1 hv with rfl | hv
  ·rfl
  rcases aS.1 hv with rfl | hv
  ·rfl
  rcases aS.1 hv with rfl | hv
  ·rfl
  rcases aV.1 hv with hv | hv
  ·exact xx _ v hv
  exact xx _ v hv
 have hlA:(Instr.loadAt 99 (.pointer (some ⟨b3,0,none⟩))).run prog wr=.ok (.agg ⟨L⟩) wr:=run_loadAt_mid wr b3 0 99 L _ (gp h3 (by simp)) underlying99 rfl hiL;have hstA:=dQ (o:=0) (ty:=99) (L':=L) h0' hiL (by rw [hLl];decide) hone (by rw [hLl];simp [WB]);have hr9:=eQ (L':=L) h0';have hl9:=run_loadVar_row (P:=prog) _ w.heap.size 99 99 ⟨L⟩ (0,0) _ hr9 underlying99 rfl hiL;have T9:bH [w.heap.size] wr (wr.setRow w.heap.size ⟨L⟩):=(bH.refl [w.heap.size] wr).setRow _ (.inl (by simp));have hd:∀{v:Value} {c:List Int},Il wr b6 v c→∀g∈dI v,g∉[w.heap.size]:=fun h g hg hm=>by have:=(h.lt g hg).1;have:=P.lt;simp at hm;omega
 have HPA:Hid (eF.Past ⟨A0,n0,c0,k0,A1,n1,c1,k1,A2,n2,c2,k2,mt p,mf p⟩ w.heap.size):=lh ⟨zB i0 (by have:=P.lt;omega),zB i1 (by have:=P.lt;omega),zB i2 (by have:=P.lt;omega)⟩;have HI0:=lh (i0.kept T9 (hd i0)).ints';have HI1:=lh (i1.kept T9 (hd i1)).ints';have HI2:=lh (i2.kept T9 (hd i2)).ints';have HT:=lh (P.t.setRow (g:=w.heap.size) ⟨L⟩ (.inr (aQ _)));have HLL:=lh hL;have HG:=lh (bg g0 (bg g1 g2));clear P i0 i1 i2 hd T9 h3 h0' hr9 hone g0 g1 g2 hL hRl;go_wp2_with (first
  | (refine bQ rfl (dw rfl rfl hlA) ?_;try go_frame)
  | (refine bU rfl 99 (.tmp 2) (.tmp 47) rfl rfl rfl hstA ?_;try go_frame))
 refine ag (v:=.agg ⟨L⟩) ?_ rfl ⟨⟨⟨A0,n0,c0,k0,A1,n1,c1,k1,A2,n2,c2,k2,mt p,mf p⟩,⟨HG.o.1,HG.o.2.1,HG.o.2.2,O6 p hp⟩,⟨?_,?_,HI0.o,HI1.o,HI2.o⟩,HPA.o,?_⟩,HT.o⟩
 ·simp [results,results35,asAddr,hl9]
 ·have:=uH p hp;simpa [vs]using this
 ·have:=Az p hp;simpa [vs]using this
 rw [HLL.o,←HRR.o];rfl
end Go.Proofs.YtbpklgllihhgpaaGreat
