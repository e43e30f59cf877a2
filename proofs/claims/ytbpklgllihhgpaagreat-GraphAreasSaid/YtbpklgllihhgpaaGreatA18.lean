import Derived.Deep.MidRow
import Derived.DeepKeys
import Derived.Test.YtbpklgllihhgpaaGreatA17
set_option maxRecDepth 100000
set_option maxHeartbeats 16000000
namespace Go.Proofs.YtbpklgllihhgpaaGreat
open Tryz Go.RowKit Go.Den
def jW(px:List Int)(j:Nat): Int:=if al px (j / 4)=0 then 0 else px.getD j 0
def fG(px:List Int): List Int:=(List.range 256).map (jW px)
def lN(px:List Int)(k:Nat): List Value:=(List.range 256).map fun j=>.int .u8 (if j<4*k then jW px j else px.getD j 0)
theorem jY(px:List Int)(k:Nat): (lN px k).length=256:=by simp [lN]
theorem wB(px:List Int)(hl:px.length=256): lN px 0=px.map (Value.int .u8):=by
 apply List.ext_getElem?;intro j;by_cases h:j<256
 ·simp [lN,h,hl,List.getD]
 simp [lN,h,hl]
theorem KJ(px:List Int): lN px 64=(fG px).map (Value.int .u8):=by unfold lN fG;rw [List.map_map];apply List.map_congr_left;intro j hj;have:=aX.1 hj;simp [this]
theorem FU(px:List Int)(k j:Nat)(hj:j<256): (lN px k)[j]?=some (.int .u8 (if j<4*k then jW px j else px.getD j 0)):=by simp [lN,hj]
theorem Iu(px:List Int)(k:Nat)(hk:k<64)(a b c d:Int)(ha:jW px (4*k)=a)(hb:jW px (4*k+1)=b)(hc:jW px (4*k+2)=c)(hd:jW px (4*k+3)=d):
  (lN px k).take (4*k) ++ [.int .u8 a,.int .u8 b,.int .u8 c,.int .u8 d] ++ (lN px k).drop (4*k+4)=lN px (k+1):=by
 have hlen:=jY px k;apply List.ext_getElem?;intro j;by_cases h0:j<256
 ·rw [FU px (k+1) j h0];by_cases h1:j<4*k
  ·rw [List.append_assoc,bD (by simp [hlen];omega),List.getElem?_take_of_lt h1,FU px k j h0,aG h1,aG (by omega)]
  by_cases h2:j<4*k+4
  ·rw [aG (by omega)];rw [bD (by simp [hlen];omega),bG (by simp;omega)];have e:((lN px k).take (4*k)).length=4*k:=(by simp [hlen];omega);rw [e];have hj:j=4*k∨j=4*k+1∨j=4*k+2∨j=4*k+3:=(by omega);rcases hj with rfl | rfl | rfl | rfl
   ·rw [Nat.sub_self,ha];rfl
   ·rw [Nat.add_sub_cancel_left,hb];rfl
   ·rw [Nat.add_sub_cancel_left,hc];rfl
   rw [Nat.add_sub_cancel_left,hd];rfl
  rw [bG (by simp [hlen];omega),List.getElem?_drop];have e:((lN px k).take (4*k) ++ [Value.int .u8 a,.int .u8 b,.int .u8 c,.int .u8 d]).length=4*k+4:=by simp [hlen];omega
  rw [e,show 4*k+4+(j - (4*k+4))=j by omega,FU px k j h0,aF h1,aF (by omega)]
 have:(lN px (k+1))[j]?=none:=by rw [bn,jY];omega
 rw [this,bn];simp [hlen];omega
theorem xm{w:World}{g i:Nat}{p L L':List Value}{t:TypeId}(hg:w.heap[g]?=some (.cells ⟨L⟩ t (0,0)))(hL:L.length=256)(hp:p.length=4)(h1:∀v∈p,v.oneCell'=true)(hi:i<64)(hr:L.take (4*i) ++ p ++ L.drop (4*i+4)=L'):
  (Instr.storeAt 64 (.pointer (some ⟨g,i*4,none⟩)) (.agg ⟨p⟩)).run prog w=.ok () (w.setRow g ⟨L'⟩):=by
 have hsz:(prog.info? 64).map (·.size)=some 4:=by kernel_rfl
 have hst:=run_storeCells_at (P:=prog) g (4*i) t p 0 ⟨L⟩ w hg (by show 4*i+0+p.length≤L.length;omega) h1;have hrow:((⟨L⟩:Array Value).toList.take (4*i+0) ++ p ++ (⟨L⟩:Array Value).toList.drop (4*i+0+p.length)).toArray=⟨L'⟩:=by rw [hp];show ((L.take (4*i+0) ++ p ++ L.drop (4*i+0+4)).toArray:Array Value)=⟨L'⟩;rw [Nat.add_zero,hr]
 rw [hrow]at hst;rw [Nat.mul_comm i 4];simp only [Instr.storeAt,Instr.sureAddr,Sem.run_bind,Sem.run_pure,Result.andThen];unfold storeVar;have hc:(Value.agg ⟨p⟩).cells=⟨p⟩:=rfl;rw [Sem.run_bind,qp hsz];simp only [Result.andThen,hc];rw [aF (by show ¬(p.length≠4);omega)];exact hst
theorem Ah{w:World}{g i:Nat}{px:List Int}{k:Nat}{t:TypeId}(hg:w.heap[g]?=some (.cells ⟨lN px k⟩ t (0,0)))(hi:i<64)(hk:k≤i):
  w.rangeAt g (i*4) [.int .u8 (px.getD (i*4) 0),.int .u8 (px.getD (i*4+1) 0),.int .u8 (px.getD (i*4+2) 0),.int .u8 (al px i)]:=by
 intro j v hv;rw [aA w g _ ⟨lN px k⟩ t (0,0) hg];have h4:j<4:=by have:=(ah.1 hv).1;simpa using this
 have e:(⟨lN px k⟩:Array Value)[i*4+j]?=(lN px k)[i*4+j]?:=by simp
 rw [e,FU px k _ (by omega),aF (by omega),←hv];have hj:j=0∨j=1∨j=2∨j=3:=by omega
 rcases hj with rfl | rfl | rfl | rfl <;> rfl
theorem Bq(r g b a:Int)(w:World): Calls prog 68 #[.agg #[.int .u8 r,.int .u8 g,.int .u8 b,.int .u8 a]] w fun e w'=>
  e=.returned (.agg #[.int .u8 (if a=0 then 0 else r),.int .u8 (if a=0 then 0 else g),.int .u8 (if a=0 then 0 else b),.int .u8 (if a=0 then 0 else a)])∧bH [] w w':=by
 by_cases h:a=0
 ·subst h;have TT:=((tR w).alloc (.cells #[.int .u8 r,.int .u8 g,.int .u8 b,.int .u8 0] 64)).alloc (.cells #[.int .u8 0,.int .u8 0,.int .u8 0,.int .u8 0] 64);simp only [if_true];go_enter func68,ntmps68;go_wp2_with fail
  refine ag (v:=.agg #[.int .u8 0,.int .u8 0,.int .u8 0,.int .u8 0]) (by simp [results,results68,go_sem]) rfl ⟨rfl,TT⟩
 simp only [h,if_false];have TT:=((tR w).alloc (.cells #[.int .u8 r,.int .u8 g,.int .u8 b,.int .u8 a] 64)).alloc (.cells #[.int .u8 r,.int .u8 g,.int .u8 b,.int .u8 a] 64);go_enter func68,ntmps68;go_wp2_with fail
 refine ag (v:=.agg #[.int .u8 r,.int .u8 g,.int .u8 b,.int .u8 a]) (by simp [results,results68,go_sem]) rfl ⟨rfl,TT⟩
theorem fD{P:Program}{ops:Array Oper}{rest:List Oper}{o:Oper}{a:Act}{w:World}{Q:Exit→Act→World→Prop}(hg:o.guard=none)(t:TypeId)(x:Operand)(ho:o.op=.load t x){g:Nat}{v:Value}
  (hx:a.eval x=.pointer (some ⟨g,0,none⟩)) (hr:(loadVar t ⟨g,0,none⟩).run P w=.ok v w) (h:wpList P ops Q rest (a.put o.dst v) w):wpList P ops Q (o :: rest) a w:=by
 refine wpList_plain hg fun K hK=>?_;unfold Oper.wp;have e:(Instr.loadAt t (.pointer (some ⟨g,0,none⟩))).run P w=.ok v w:=hr;simp only [execOp,ho,hx,Sem.run_bind,e,Result.andThen];exact hK _ _ h
structure xw(w:World)(px:List Int)(k:Nat)(wr:World): Prop where
 row:wr.heap[w.heap.size]?=some (.cells ⟨lN px k⟩ 66 (0,0))
 res:wr.heap[w.heap.size+1]?=some (.cells zeroCells66 66 (0,0))
 tn:bH [] w wr
theorem D9(px:List Int)(hl:px.length=256)(w:World):
  Calls prog 154 #[tv px] w fun e w'=>e=.returned (tv (fG px))∧bH [] w w':=by
 have ha1:∀u:World,(Instr.alloc 66 true (.tuple #[])).run prog u=.ok (.pointer (some ⟨u,0,none⟩)) (u.alloc (.cells zeroCells66 66)):=fun u=>by have:=ww u;rwa [QQ]at this
 have hW0:xw w px 0 ((w.alloc (.cells ⟨px.map (Value.int .u8)⟩ 66)).alloc (.cells zeroCells66 66)):=by
  have s1:∀(u:World) (o:Obj),(u.alloc o).heap.size=u.heap.size+1:=fun u o=>by show (u.heap.push o).size=_;simp
  refine⟨?_,?_,((tR w).alloc _).alloc _⟩
  ·rw [(MapKept.heap_alloc _ _).2 _ (by rw [s1];omega),wB px hl];exact (MapKept.heap_alloc _ _).1
  rw [←s1 w];exact (MapKept.heap_alloc _ _).1
 have HP:=lh Bq;unfold tv;generalize (⟨px.map (Value.int .u8)⟩:Array Value)=cs at *;go_enter func154,ntmps154;go_wp2_with fail
 go_loopw [3] (fun s3 wr=>∃k:Nat,k≤64∧s3=k∧xw w px k wr) (fun s3 _=>64 - (intOf s3).toNat);case atStart=>exact⟨0,by omega,rfl,hW0⟩
 obtain⟨k,hk,rfl,hF⟩:=hrel;clear hW0 ha1;by_cases hlt:k<64
 ·have hR:=Ah hF.row hlt (aQ k);have hS:∀w1,bH [] wr w1→(Instr.storeAt 64 (.pointer (some ⟨w,k*4,none⟩)) (.agg #[.int .u8 (if al px k=0 then 0 else px.getD (k*4) 0),.int .u8 (if al px k=0 then 0 else px.getD (k*4+1) 0),.int .u8 (if al px k=0 then 0 else px.getD (k*4+2) 0),.int .u8 (if al px k=0 then 0 else al px k)])).run prog w1=.ok () (w1.setRow w.heap.size ⟨lN px (k+1)⟩):=by intro w1 T1;have h1:w1.heap[w.heap.size]?=some (.cells ⟨lN px k⟩ 66 (0,0)):=(by rw [T1.old _ (by have:=(ae.1 hF.row).1;exact this) (by simp)];exact hF.row);refine xm (L:=lN px k) h1 (jY px k) rfl (by simp [Value.oneCell']) hlt ?_;refine Iu px k hlt _ _ _ _ ?_ ?_ ?_ ?_ <;> simp only [jW,al] <;> (try rw [show (4*k) / 4=k by omega]) <;> (try rw [show (4*k+1) / 4=k by omega]) <;> (try rw [show (4*k+2) / 4=k by omega]) <;> (try rw [show (4*k+3) / 4=k by omega]) <;> rw [Nat.mul_comm 4 k]
  have HF:=lh hF;have HS:=lh hS;clear hF hS;generalize hz:al px k=z at *;clear hz;generalize px.getD (k*4) 0=z0 at *;generalize px.getD (k*4+1) 0=z1 at *;generalize px.getD (k*4+2) 0=z2 at *;go_wp2_with (first
   | (refine wpList_load_mid rfl 64 (.tmp 10) rfl _ _ rfl _ _ hR underlying64 rfl (by kernel_rfl) ?_)
   | (go_at_call 68;refine (HP.o _ _ _ _ _).mono ?_;rintro e w1 ⟨rfl,ht⟩)
   | (refine bU rfl 64 (.tmp 13) (.tmp 12) rfl rfl rfl (HS.o _ ht) ?_))
  have hF:=HF.o;have q:∀g,g≠w.heap.size→(w1.setRow w.heap.size ⟨lN px (k+1)⟩).heap[g]?=w1.heap[g]?:=by intro g hg;simp only [World.setRow,au,Ne.symm hg,if_false]
  have o1:∀g,g<wr.heap.size→w1.heap[g]?=wr.heap[g]?:=fun g hg=>ht.old _ hg (by simp);have l1:=(ae.1 hF.res).1;have hF':xw w px (k+1) (w1.setRow w.heap.size ⟨lN px (k+1)⟩):=by
   refine⟨?_,?_,(hF.tn.trans ht).setRow _ (.inr (by omega))⟩
   ·have h1:=(o1 w.heap.size (by omega)).trans hF.row;simp only [World.setRow,au,if_true,h1];rfl
   rw [q _ (by omega),o1 _ l1];exact hF.res
  exact⟨⟨k+1,by omega,by go_num,hF'⟩,by simp [intOf];omega⟩
 obtain rfl:k=64:=by omega
 have hl2:=run_loadVar_row (P:=prog) wr w.heap.size 66 66 ⟨lN px 64⟩ (0,0) _ hF.row underlying66 rfl (by
  rw [iE];show some 256=some (lN px 64).length;rw [jY])
 have hst:=jV (ty:=66) (cells:=⟨lN px 64⟩) hF.res (by
  rw [iE];show some 256=some (lN px 64).length;rw [jY]) (by
  rw [←QQ,vX];show 256=(lN px 64).length;rw [jY]) (by simp [lN,Value.oneCell'])
 have hr2:(wr.setRow (w.heap.size+1) ⟨lN px 64⟩).heap[w.heap.size+1]?=some (.cells ⟨lN px 64⟩ 66 (0,0)):=by simp only [World.setRow,au,if_true,hF.res];rfl
 have hl3:=run_loadVar_row (P:=prog) _ (w.heap.size+1) 66 66 ⟨lN px 64⟩ (0,0) _ hr2 underlying66 rfl (by
  rw [iE];show some 256=some (lN px 64).length;rw [jY])
 have hT:bH [] w (wr.setRow (w.heap.size+1) ⟨lN px 64⟩):=hF.tn.setRow _ (.inr (by omega));have HT:=lh hT;have HE:=lh (KJ px);clear hT hr2 hF hk hlt;generalize lN px 64=FT at *;go_wp2_with (first
  | (refine fD rfl 66 (.tmp 1) rfl rfl hl2 ?_)
  | (refine bU rfl 66 (.tmp 2) (.tmp 14) rfl rfl rfl hst ?_))
 go_frame;refine ag (v:=.agg ⟨FT⟩) ?_ rfl ⟨by rw [HE.o],HT.o⟩;simp [results,results154,asAddr,hl3]
def Vh(px:List Int)(i:Nat): List Value:=[.int .u8 (px.getD (i*4) 0),.int .u8 (px.getD (i*4+1) 0),.int .u8 (px.getD (i*4+2) 0),.int .u8 (px.getD (i*4+3) 0)]
theorem Dt{w:World}{g:Nat}{px:List Int}{t:TypeId}(hl:px.length=256)(hg:w.heap[g]?=some (.cells ⟨px.map (Value.int .u8)⟩ t (0,0)))(i:Nat)(hi:i<64):
  w.rangeAt g (i*4) [.int .u8 (px.getD (i*4) 0),.int .u8 (px.getD (i*4+1) 0),.int .u8 (px.getD (i*4+2) 0),.int .u8 (px.getD (i*4+3) 0)]:=by
 rw [←wB px hl]at hg;exact Ah hg hi (Nat.zero_le i)
def Ib(a b:List Int)(i:Nat): Bool:=a.getD (i*4) 0 == b.getD (i*4) 0 && a.getD (i*4+1) 0 == b.getD (i*4+1) 0 && a.getD (i*4+2) 0 == b.getD (i*4+2) 0 && a.getD (i*4+3) 0 == b.getD (i*4+3) 0
def vZ(a b:List Int): Bool:=(List.range 64).all (Ib a b)
theorem Md{a b:List Int}(ha:a.length=256)(hb:b.length=256): vZ a b=true↔a=b:=by
 constructor
 ·intro h;have h:=aZ.1 h;apply List.ext_getElem?;intro j;by_cases hj:j<256
  ·have:=h (j / 4) (aX.2 (by omega));simp only [Ib,az,beq_iff_eq]at this;have hm:j=j / 4*4∨j=j / 4*4+1∨j=j / 4*4+2∨j=j / 4*4+3:=(by omega);have e:a.getD j 0=b.getD j 0:=by
    rcases hm with h | h | h | h <;> rw [h]
    ·exact this.1.1.1
    ·exact this.1.1.2
    ·exact this.1.2
    exact this.2
   simpa [List.getD,ha,hb,hj]using e
  rw [bC (by omega),bC (by omega)]
 rintro rfl;exact aZ.2 fun i _=>by simp [Ib]
theorem Qv(a b:List Int)(ha:a.length=256)(hb:b.length=256)(w:World):
  Calls prog 153 #[tv a,tv b] w fun e w'=>e=.returned (.bool (vZ a b))∧bH [] w w':=by
 have s1:∀(u:World) (o:Obj),(u.alloc o).heap.size=u.heap.size+1:=fun u o=>by show (u.heap.push o).size=_;simp
 have hA:∀i,i<64→((w.alloc (.cells ⟨a.map (Value.int .u8)⟩ 66)).alloc (.cells ⟨b.map (Value.int .u8)⟩ 66)).rangeAt w.heap.size (i*4) (Vh a i):=fun i hi=>by refine Dt ha (t:=66) ?_ i hi;rw [(MapKept.heap_alloc _ _).2 _ (by rw [s1];omega)];exact (MapKept.heap_alloc _ _).1
 have hB:∀i,i<64→((w.alloc (.cells ⟨a.map (Value.int .u8)⟩ 66)).alloc (.cells ⟨b.map (Value.int .u8)⟩ 66)).rangeAt (w.heap.size+1) (i*4) (Vh b i):=fun i hi=>by refine Dt hb (t:=66) ?_ i hi;rw [←s1 w];exact (MapKept.heap_alloc _ _).1
 have T:=((tR w).alloc (.cells ⟨a.map (Value.int .u8)⟩ 66)).alloc (.cells ⟨b.map (Value.int .u8)⟩ 66);unfold tv;generalize (⟨a.map (Value.int .u8)⟩:Array Value)=ca at *;generalize (⟨b.map (Value.int .u8)⟩:Array Value)=cb at *;have HA:=lh hA;have HB:=lh hB;clear hA hB s1;go_enter func153,ntmps153;go_wp2_with fail
 generalize hW:(w.alloc (.cells ca 66)).alloc (.cells cb 66)=W at *;clear hW;go_loopw [5] (fun s5 wr=>∃k:Nat,k≤64∧s5=k∧(∃q,wr=W.drewN q)∧∀i,i<k→Ib a b i=true) (fun s5 _=>64 - (intOf s5).toNat);case atStart=>exact⟨0,by omega,rfl,⟨0,rfl⟩,fun i hi=>absurd hi (aU i)⟩
 obtain⟨k,hk,rfl,⟨q,rfl⟩,hall⟩:=hrel;have HALL:=lh hall;clear hall;by_cases hlt:k<64
 ·have rA:=HA.o k hlt;have rB:=HB.o k hlt;simp only [Vh]at rA rB;have hE:Ib a b k=(a.getD (k*4) 0 == b.getD (k*4) 0 && a.getD (k*4+1) 0 == b.getD (k*4+1) 0 && a.getD (k*4+2) 0 == b.getD (k*4+2) 0 && a.getD (k*4+3) 0 == b.getD (k*4+3) 0):=rfl;have HE:=lh hE;clear hE;generalize a.getD (k*4) 0=a0 at *;generalize a.getD (k*4+1) 0=a1 at *;generalize a.getD (k*4+2) 0=a2 at *;generalize a.getD (k*4+3) 0=a3 at *;generalize b.getD (k*4) 0=b0 at *;generalize b.getD (k*4+1) 0=b1 at *;generalize b.getD (k*4+2) 0=b2 at *;generalize b.getD (k*4+3) 0=b3 at *;have p0:W.cell? ⟨w,k*4,none⟩=some (.int .u8 a0):=by simpa using rA 0 _ rfl
  have p1:W.cell? ⟨w,k*4+1,none⟩=some (.int .u8 a1):=rA 1 _ rfl;have p2:W.cell? ⟨w,k*4+2,none⟩=some (.int .u8 a2):=rA 2 _ rfl;have p3:W.cell? ⟨w,k*4+3,none⟩=some (.int .u8 a3):=rA 3 _ rfl;have q0:W.cell? ⟨w.heap.size+1,k*4,none⟩=some (.int .u8 b0):=by simpa using rB 0 _ rfl
  have q1:W.cell? ⟨w.heap.size+1,k*4+1,none⟩=some (.int .u8 b1):=rB 1 _ rfl;have q2:W.cell? ⟨w.heap.size+1,k*4+2,none⟩=some (.int .u8 b2):=rB 2 _ rfl;have q3:W.cell? ⟨w.heap.size+1,k*4+3,none⟩=some (.int .u8 b3):=rB 3 _ rfl;clear rA rB;have c0:(0:Int)≤(k:Int):=by omega
  have c1:(k:Int)<64:=by omega
  by_cases h0:a0=b0
  ·subst h0;by_cases h1:a1=b1
   ·subst h1;by_cases h2:a2=b2
    ·subst h2;by_cases h3:a3=b3
     ·subst h3;(go_wp2_with fail);go_quiet (fail)
      (go_wp2_with fail);exact⟨⟨k+1,by omega,by go_num,⟨_,rfl⟩,fun i hi=>by
       by_cases h:i<k
       ·exact HALL.o i h
       obtain rfl:i=k:=(by omega);rw [HE.o];simp⟩,by simp [intOf];omega⟩
     (go_wp2_with fail);go_quiet (fail)
     (go_wp2_with fail);go_ret;have:vZ a b=false:=List.all_eq_false.2 ⟨k,aX.2 hlt,by rw [HE.o];simp;omega⟩;exact⟨by rw [this];rfl,(T.drawn _).drawn _⟩
    (go_wp2_with fail);go_quiet (fail)
    (go_wp2_with fail);go_ret;have:vZ a b=false:=List.all_eq_false.2 ⟨k,aX.2 hlt,by rw [HE.o];simp;omega⟩;exact⟨by rw [this];rfl,(T.drawn _).drawn _⟩
   (go_wp2_with fail);go_quiet (fail)
   (go_wp2_with fail);go_ret;have:vZ a b=false:=List.all_eq_false.2 ⟨k,aX.2 hlt,by rw [HE.o];simp;omega⟩;exact⟨by rw [this];rfl,(T.drawn _).drawn _⟩
  go_wp2_with fail
  go_quiet (fail)
  go_wp2_with fail
  go_ret;have:vZ a b=false:=List.all_eq_false.2 ⟨k,aX.2 hlt,by rw [HE.o];simp;omega⟩;exact⟨by rw [this];rfl,(T.drawn _).drawn _⟩
 obtain rfl:k=64:=by omega
 go_wp2_with fail
 go_ret;have:vZ a b=true:=aZ.2 fun i hi=>HALL.o i (aX.1 hi);exact⟨by rw [this];rfl,T.drawn _⟩
theorem Ox(r g b a:Int)(w:World): Calls prog 214 #[.agg #[.int .u8 r,.int .u8 g,.int .u8 b,.int .u8 a]] w fun e w'=>
  e=.returned (.agg #[.int .u8 (if a=0 then 0 else r),.int .u8 (if a=0 then 0 else g),.int .u8 (if a=0 then 0 else b),.int .u8 (if a=0 then 0 else a)])∧bH [] w w':=by
 by_cases h:a=0
 ·subst h;have TT:=((tR w).alloc (.cells #[.int .u8 r,.int .u8 g,.int .u8 b,.int .u8 0] 64)).alloc (.cells #[.int .u8 0,.int .u8 0,.int .u8 0,.int .u8 0] 64);simp only [if_true];go_enter func214,ntmps214;go_wp2_with fail
  refine ag (v:=.agg #[.int .u8 0,.int .u8 0,.int .u8 0,.int .u8 0]) (by simp [results,results214,go_sem]) rfl ⟨rfl,TT⟩
 simp only [h,if_false];have TT:=((tR w).alloc (.cells #[.int .u8 r,.int .u8 g,.int .u8 b,.int .u8 a] 64)).alloc (.cells #[.int .u8 r,.int .u8 g,.int .u8 b,.int .u8 a] 64);go_enter func214,ntmps214;go_wp2_with fail
 refine ag (v:=.agg #[.int .u8 r,.int .u8 g,.int .u8 b,.int .u8 a]) (by simp [results,results214,go_sem]) rfl ⟨rfl,TT⟩
theorem qY(cs p:Array Value)(i:Nat)(hi:i<64)(h:cs.extract (i*4) (i*4+4)=p)(w:World): (Instr.index 66 (.agg cs) i).run prog w=.ok (.agg p) w:=by
 have hsz:(prog.info? 64).map (·.size)=some 4:=by kernel_rfl
 have h1:(0:Int)≤(i:Int)∧(i:Int)<((64:Nat):Int):=by omega
 have h2:(isAgg 64).run prog w=.ok true w:=by kernel_rfl
 simp only [Instr.index,asIntOf,Sem.run_bind,Sem.run_pure,Result.andThen,run_underlying underlying66,aG h1,qp hsz,part,h2,Int.toNat_natCast];simp only [if_true,Sem.run_bind,qp hsz,Sem.run_pure,Result.andThen,h]
theorem BV(px:List Int)(hl:px.length=256)(w:World):
  Calls prog 204 #[tv px] w fun e w'=>e=.returned (tv (fG px))∧bH [] w w':=by
 have ha1:∀u:World,(Instr.alloc 66 true (.tuple #[])).run prog u=.ok (.pointer (some ⟨u,0,none⟩)) (u.alloc (.cells zeroCells66 66)):=fun u=>by have:=ww u;rwa [QQ]at this
 have hW0:xw w px 0 ((w.alloc (.cells ⟨px.map (Value.int .u8)⟩ 66)).alloc (.cells zeroCells66 66)):=by
  have s1:∀(u:World) (o:Obj),(u.alloc o).heap.size=u.heap.size+1:=fun u o=>by show (u.heap.push o).size=_;simp
  refine⟨?_,?_,((tR w).alloc _).alloc _⟩
  ·rw [(MapKept.heap_alloc _ _).2 _ (by rw [s1];omega),wB px hl];exact (MapKept.heap_alloc _ _).1
  rw [←s1 w];exact (MapKept.heap_alloc _ _).1
 have hl0:=run_loadVar_row (P:=prog) _ w.heap.size 66 66 ⟨lN px 0⟩ (0,0) _ hW0.row underlying66 rfl (by
  rw [iE];show some 256=some (lN px 0).length;rw [jY])
 rw [wB px hl]at hl0;have HP:=lh Ox;unfold tv;have hcs:∀i,i<64→(⟨px.map (Value.int .u8)⟩:Array Value).extract (i*4) (i*4+4)=#[.int .u8 (px.getD (i*4) 0),.int .u8 (px.getD (i*4+1) 0),.int .u8 (px.getD (i*4+2) 0),.int .u8 (al px i)]:=by
  intro i hi;apply Array.ext';simp only [Array.toList_extract,List.extract_eq_take_drop];apply List.ext_getElem?;intro j;by_cases hj:j<4
  ·have h4:j=0∨j=1∨j=2∨j=3:=(by omega);have hd:∀q,q<256→px[q]?=some (px.getD q 0):=fun q hq=>by simp [List.getD,hl,hq]
   rw [List.getElem?_take_of_lt (by omega),List.getElem?_drop,aP,hd _ (by omega)];rcases h4 with rfl | rfl | rfl | rfl <;> rfl
  rw [bC (by simp;omega),bC (by simp;omega)]
 have HCS:=lh hcs;clear hcs;generalize (⟨px.map (Value.int .u8)⟩:Array Value)=cs at *;go_enter func204,ntmps204;go_wp2_with (refine fD rfl 66 (.tmp 1) rfl rfl hl0 ?_)
 go_loopw [6] (fun s6 wr=>∃k:Nat,k≤64∧s6=k∧xw w px k wr) (fun s6 _=>64 - (intOf s6).toNat);case atStart=>exact⟨0,by omega,rfl,hW0⟩
 obtain⟨k,hk,rfl,hF⟩:=hrel;clear hW0 ha1 hl0;by_cases hlt:k<64
 ·have hI:=qY cs _ k hlt (HCS.o k hlt);have hR:=Ah hF.row hlt (aQ k);have hS:∀w1,bH [] wr w1→(Instr.storeAt 64 (.pointer (some ⟨w,k*4,none⟩)) (.agg #[.int .u8 (if al px k=0 then 0 else px.getD (k*4) 0),.int .u8 (if al px k=0 then 0 else px.getD (k*4+1) 0),.int .u8 (if al px k=0 then 0 else px.getD (k*4+2) 0),.int .u8 (if al px k=0 then 0 else al px k)])).run prog w1=.ok () (w1.setRow w.heap.size ⟨lN px (k+1)⟩):=by intro w1 T1;have h1:w1.heap[w.heap.size]?=some (.cells ⟨lN px k⟩ 66 (0,0)):=(by rw [T1.old _ (by have:=(ae.1 hF.row).1;exact this) (by simp)];exact hF.row);refine xm (L:=lN px k) h1 (jY px k) rfl (by simp [Value.oneCell']) hlt ?_;refine Iu px k hlt _ _ _ _ ?_ ?_ ?_ ?_ <;> simp only [jW,al] <;> (try rw [show (4*k) / 4=k by omega]) <;> (try rw [show (4*k+1) / 4=k by omega]) <;> (try rw [show (4*k+2) / 4=k by omega]) <;> (try rw [show (4*k+3) / 4=k by omega]) <;> rw [Nat.mul_comm 4 k]
  have HF:=lh hF;have HS:=lh hS;clear hF hS;generalize hz:al px k=z at *;clear hz;generalize px.getD (k*4) 0=z0 at *;generalize px.getD (k*4+1) 0=z1 at *;generalize px.getD (k*4+2) 0=z2 at *;go_wp2_with (first
   | (go_at_call 214;refine (HP.o _ _ _ _ _).mono ?_;rintro e w1 ⟨rfl,ht⟩)
   | (refine bU rfl 64 (.tmp 13) (.tmp 12) rfl rfl rfl (HS.o _ (((tR wr).alloc _).trans ht)) ?_))
  have hF:=HF.o;have q:∀g,g≠w.heap.size→(w1.setRow w.heap.size ⟨lN px (k+1)⟩).heap[g]?=w1.heap[g]?:=by intro g hg;simp only [World.setRow,au,Ne.symm hg,if_false]
  have ht:=(((tR wr).alloc (.cells #[.int .u8 z0,.int .u8 z1,.int .u8 z2,.int .u8 z] 64)).trans ht);have o1:∀g,g<wr.heap.size→w1.heap[g]?=wr.heap[g]?:=fun g hg=>ht.old _ hg (by simp);have l1:=(ae.1 hF.res).1;have hF':xw w px (k+1) (w1.setRow w.heap.size ⟨lN px (k+1)⟩):=by
   refine⟨?_,?_,(hF.tn.trans ht).setRow _ (.inr (by omega))⟩
   ·have h1:=(o1 w.heap.size (by omega)).trans hF.row;simp only [World.setRow,au,if_true,h1];rfl
   rw [q _ (by omega),o1 _ l1];exact hF.res
  exact⟨⟨k+1,by omega,by go_num,hF'⟩,by simp [intOf];omega⟩
 obtain rfl:k=64:=by omega
 have hl2:=run_loadVar_row (P:=prog) wr w.heap.size 66 66 ⟨lN px 64⟩ (0,0) _ hF.row underlying66 rfl (by
  rw [iE];show some 256=some (lN px 64).length;rw [jY])
 have hst:=jV (ty:=66) (cells:=⟨lN px 64⟩) hF.res (by
  rw [iE];show some 256=some (lN px 64).length;rw [jY]) (by
  rw [←QQ,vX];show 256=(lN px 64).length;rw [jY]) (by simp [lN,Value.oneCell'])
 have hr2:(wr.setRow (w.heap.size+1) ⟨lN px 64⟩).heap[w.heap.size+1]?=some (.cells ⟨lN px 64⟩ 66 (0,0)):=by simp only [World.setRow,au,if_true,hF.res];rfl
 have hl3:=run_loadVar_row (P:=prog) _ (w.heap.size+1) 66 66 ⟨lN px 64⟩ (0,0) _ hr2 underlying66 rfl (by
  rw [iE];show some 256=some (lN px 64).length;rw [jY])
 have hT:bH [] w (wr.setRow (w.heap.size+1) ⟨lN px 64⟩):=hF.tn.setRow _ (.inr (by omega));have HT:=lh hT;have HE:=lh (KJ px);clear hT hr2 hF hk hlt;generalize lN px 64=FT at *;go_wp2_with (first
  | (refine fD rfl 66 (.tmp 1) rfl rfl hl2 ?_)
  | (refine bU rfl 66 (.tmp 2) (.tmp 15) rfl rfl rfl hst ?_))
 go_frame;refine ag (v:=.agg ⟨FT⟩) ?_ rfl ⟨by rw [HE.o],HT.o⟩;simp [results,results204,asAddr,hl3]
def jo(px:List Int): Prop:=px.length=256∧∀v∈px,0≤v∧v≤255
theorem BH{A:Type}(L:List A): ∀n,((List.range n).map fun i=>(L.drop (i*4)).take 4).flatten=L.take (n*4)
 | 0=>by simp
 | n+1=>by rw [List.range_succ,List.map_append,List.flatten_append,BH L n];simp only [List.map_cons,List.map_nil,List.flatten_cons,List.flatten_nil,List.append_nil];rw [show (n+1)*4=n*4+4 by omega,List.take_add]
theorem Bf{A B:Type}{f:A→Option B}{g:A→B}: ∀{l:List A},(∀i∈l,f i=some (g i))→l.mapM f=some (l.map g)
 | [],_=>rfl
 | a :: l,h=>by rw [List.mapM_cons,h a (by simp),Bf fun i hi=>h i (by simp [hi])];rfl
theorem yL:prog.cellsOf 66=256:=by kernel_rfl
theorem Ba:prog.cellsOf 64=4:=by kernel_rfl
theorem NP:prog.cellsOf 5=1:=by kernel_rfl
theorem NW:prog.keyTypeAt 10 66=true:=by kernel_rfl
theorem vP{x:Int}(h:0≤x∧x≤255): prog.keyLits 1 5 [.int .u8 x]=some [.int .u8 x]:=by have hwf:(Lit.int .u8 x).wf=true:=WalkArith.wf_u8 (by omega);simp [Program.keyLits,underlying5,hwf]
theorem MV{c:List Int}(hl:c.length=4)(h:∀v∈c,0≤v∧v≤255): prog.keyLits 2 64 (c.map (Value.int .u8))=some (c.map (Lit.int .u8)):=by
 match c,hl with
 | [a,b,d,e],_=>
  have ha:=vP (h a (by simp));have hb:=vP (h b (by simp));have hd:=vP (h d (by simp));have he:=vP (h e (by simp));unfold Program.keyLits;simp [underlying64,Ba,NP,ha,hb,hd,he]
theorem zU{px:List Int}(h:jo px): prog.keyLits 3 66 (px.map (Value.int .u8))=some (px.map (Lit.int .u8)):=by
 have hm:=Bf (f:=fun i=>prog.keyLits 2 64 (((px.map (Value.int .u8)).drop (i*prog.cellsOf 64)).take (prog.cellsOf 64)))
  (g:=fun i=>((px.map (Lit.int .u8)).drop (i*4)).take 4) (l:=List.range 64) fun i hi=>by
  have hi:=aX.1 hi
  rw [Ba,←List.map_drop,←List.map_take,MV (by simp [h.1];omega) (fun v hv=>h.2 v (List.mem_of_mem_drop (List.mem_of_mem_take hv))),List.map_take,List.map_drop]
 unfold Program.keyLits;simp only [underlying66,yL,aJ,h.1,if_true];rw [hm];have hz:((List.range 64).map fun i=>((px.map (Lit.int .u8)).drop (i*4)).take 4).flatten=px.map (Lit.int .u8):=by rw [BH (px.map (Lit.int .u8)) 64,aY (by rw [aJ,h.1];exact aQ _)]
 exact congrArg some hz
theorem GZ{a b:List Int}(ha:jo a)(hb:jo b)(w:World): (Op.equalIn 10000 66 (tv a) (tv b)).run prog w=.ok (decide (a=b)) w:=by
 have hf:∀{px:List Int},jo px→(tv px).formed prog 66=true:=fun {px} h=>by simp [tv,Value.formed,underlying66,yL,h.1]
 have hc:∀px:List Int,(tv px).cells.toList=px.map (Value.int .u8):=fun px=>by simp [tv,Value.cells]
 obtain⟨r,hr,hiff⟩:=run_equalIn_deep (P:=prog) 9990 10 66 NW w 3 3 (tv a) (tv b) _ _ (hf ha) (hf hb) (by rw [hc];exact zU ha) (by rw [hc];exact zU hb);suffices hh:r=decide (a=b) by rw [hr,hh]
 clear hr;by_cases e:a=b
 ·subst e;rw [hiff.2 rfl];simp
 have:r≠true:=fun h=>by
  have h2:=hiff.1 h;apply e;have inj:∀{x y:List Int},x.map (Lit.int .u8)=y.map (Lit.int .u8)→x=y:=by
   intro x;induction x with
   | nil=>intro y h;cases y with
    | nil=>rfl
    | cons _ _=>simp at h
   | cons p x ih=>intro y h;cases y with
    | nil=>simp at h
    | cons q y=>
     simp only [List.map_cons,List.cons.injEq,Lit.int.injEq,true_and]at h
     rw [h.1,ih h.2]
  exact inj h2
 simp [e,this]
theorem xu{px:List Int}(h:jo px): jo (fG px):=by
 refine⟨by simp [fG],fun v hv=>?_⟩;obtain⟨j,hj,rfl⟩:=List.mem_map.1 hv;have hj:=aX.1 hj;unfold jW;split
 ·omega
 have hl:=h.1;have:px.getD j 0=px[j]:=by simp [List.getD,show j<px.length by omega]
 rw [this];exact h.2 _ (List.getElem_mem _)
theorem Du{px:List Int}{j:Nat}(hj:j<256): (fG px)[j]?=some (jW px j):=by rw [fG,aP,List.getElem?_range hj];rfl
theorem Qy{j n:Nat}(hj:j<n): (List.replicate n (0:Int))[j]?=some 0:=by rw [List.getElem?_replicate,aG hj]
theorem Dv{px:List Int}: oO px=true↔fG px=List.replicate 256 0:=by
 unfold oO;rw [aZ];constructor
 ·intro h;apply List.ext_getElem?;intro j;by_cases hj:j<256
  ·have:=h (j / 4) (aX.2 (by omega));have h0:al px (j / 4)=0:=(by simpa using this);rw [Du hj,Qy hj,jW,aG h0]
  rw [bC (by rw [fG,aJ,List.length_range];omega),bC (by rw [List.length_replicate];omega)]
 intro h i hi;have hi:=aX.1 hi;have h1:(fG px)[i*4+3]?=some 0:=by rw [h];exact Qy (by omega)
 rw [Du (by omega)]at h1;simp only [jW,show (i*4+3) / 4=i by omega,Option.some.injEq]at h1;by_cases h0:al px i=0
 ·simp [h0]
 rw [aF h0]at h1;exact absurd h1 h0
theorem KX:tv (List.replicate 256 0)=.agg zeroCells66:=by kernel_rfl
theorem DZ(px:List Int)(h:jo px)(w:World):
  Calls prog 185 #[tv px] w fun e w'=>e=.returned (.bool (oO px))∧bH [] w w':=by
 have hC:=BV px h.1;have hE:=GZ (xu h) (b:=List.replicate 256 0) ⟨by simp,fun v hv=>by rw [(List.mem_replicate.1 hv).2];omega⟩;have hd:decide (fG px=List.replicate 256 0)=oO px:=by
  cases e:oO px with
  | true=>exact aC (Dv.1 e)
  | false=>exact ak fun h2=>by rw [Dv.2 h2]at e;cases e
 rw [hd,KX]at hE;clear hd;generalize htc:fG px=tc at *;generalize hz:oO px=z at *;unfold tv at *;have hsz:(⟨px.map (Value.int .u8)⟩:Array Value).size=256:=by show (px.map _).length=256;rw [aJ,h.1]
 generalize (⟨px.map (Value.int .u8)⟩:Array Value)=cs at *;generalize (⟨tc.map (Value.int .u8)⟩:Array Value)=cc at *;have hl0:(loadVar 66 ⟨w,0,none⟩).run prog (w.alloc (.cells cs 66))=.ok (.agg cs) (w.alloc (.cells cs 66)):=run_loadVar_new w 66 cs 64 64 underlying66 (by rw [iE,hsz]);have hbl:∀w,(Instr.build 66 #[]).run prog w=.ok (.agg zeroCells66) w:=fun w=>by rw [SX,QQ]
 have hbe:∀w,(binOp .eql 66 (.agg cc) (.agg zeroCells66)).run prog w=.ok (.bool z) w:=fun w=>by have:=hE w;simp [binOp,Op.equal,show Op.maxDepth=10000 from rfl,this,Result.andThen]
 have HC:=lh hC;clear hC htc hz hE hsz;go_enter func185,ntmps185;go_wp2_with (first
  | (refine fD rfl 66 (.tmp 1) rfl rfl hl0 ?_)
  | (go_at_call 204;refine (HC.o _).mono ?_;rintro e w1 ⟨rfl,ht⟩))
 go_ret;exact⟨rfl,((tR w).alloc _).trans ht⟩
theorem dM(x:Int)(m:Nat)(hm:m<4611686018427387904): 0≤bits .and .i64 x m∧bits .and .i64 x m≤m:=by
 have h1:(BitVec.ofInt 64 (m:Int)).toNat=m:=by rw [BitVec.toNat_ofInt];omega
 have h2:(BitVec.ofInt 64 x &&& BitVec.ofInt 64 (m:Int)).toNat≤m:=by rw [BitVec.toNat_and];exact aK Nat.and_le_right (by omega)
 have h3:bits .and .i64 x m=((BitVec.ofInt 64 x &&& BitVec.ofInt 64 (m:Int)).toNat:Int):=by show IntKind.i64.wrap ((BitVec.ofInt 64 x &&& BitVec.ofInt 64 (m:Int)).toNat:Int)=_;generalize (BitVec.ofInt 64 x &&& BitVec.ofInt 64 (m:Int)).toNat=q at *;simp [IntKind.wrap,IntKind.bits,IntKind.signed];omega
 omega
theorem MB(x y:Int)(w:World): Calls prog 57 #[x,y] w fun e w'=>e=.returned (.agg #[(1:Int),(0:Int),x,(0:Int),(1:Int),y,(1:Int)])∧bH [] w w':=by
 go_enter func57,ntmps57;go_wp2_with fail
 exact ag (v:=.agg #[(1:Int),(0:Int),x,(0:Int),(1:Int),y,(1:Int)]) (by simp [results,results57,go_sem]) rfl ⟨rfl,(bH.refl _ _).alloc _⟩
theorem NY(x:Int)(w:World): Calls prog 69 #[x] w fun e w'=>(∃r g b a,e=.returned (.agg #[.int .u8 r,.int .u8 g,.int .u8 b,.int .u8 a]))∧bH [] w w':=by
 go_enter func69,ntmps69;go_wp2_with fail
 ·exact ag (v:=.agg #[.int .u8 (x % 256),.int .u8 (x % 4294967296 / 256 % 256),.int .u8 (x % 4294967296 / 65536 % 256),.int .u8 255]) (by simp [results,results69,go_sem]) rfl ⟨⟨_,_,_,_,rfl⟩,((bH.refl _ _).alloc _).alloc _⟩
 ·exact ag (v:=.agg #[.int .u8 (x % 256),.int .u8 (x % 4294967296 / 256 % 256),.int .u8 (x % 4294967296 / 65536 % 256),.int .u8 0]) (by simp [results,results69,go_sem]) rfl ⟨⟨_,_,_,_,rfl⟩,((bH.refl _ _).alloc _).alloc _⟩
 exact ag (v:=.agg #[.int .u8 (x % 256),.int .u8 (x % 4294967296 / 256 % 256),.int .u8 (x % 4294967296 / 65536 % 256),.int .u8 (x % 4294967296 / 16777216)]) (by simp [results,results69,go_sem]) rfl ⟨⟨_,_,_,_,rfl⟩,((bH.refl _ _).alloc _).alloc _⟩
theorem SS(x y:Int)(hx:-4611686018427387904≤x∧x≤4611686018427387904)(hy:-4611686018427387904≤y∧y≤4611686018427387904)(w:World): Calls prog 58 #[x,y] w fun e w'=>e=.returned (.agg #[.int .i64 (iq x 8),.int .i64 (iq y 8)])∧bH [] w w':=by
 obtain⟨f,hf⟩:∃f:Int→Int,∀z,f z=iq z 8:=⟨fun z=>iq z 8,fun _=>rfl⟩;have hF:∀z,z=x∨z=y→∀u,Calls prog 99 #[z,(8:Int)] u fun e w'=>e=.returned (.int .i64 (f z))∧w'=u:=fun z hz u=>
  (wY z 8 (by rcases hz with rfl | rfl;exact hx.1;exact hy.1) (by rcases hz with rfl | rfl;exact hx.2;exact hy.2) u).mono (fun e w' h=>⟨by rw [hf];exact h.1,h.2.symm⟩)
 rw [←hf,←hf];have HF:=lh hF;clear hx hy hF hf;go_enter func58,ntmps58;go_wp2_with (go_at_call 99;refine (HF.o _ (by first | exact .inl rfl | exact .inr rfl) _).mono ?_;rintro e w1 ⟨rfl,hw⟩;rw [hw];clear hw)
 exact ag (v:=.agg #[.int .i64 (f x),.int .i64 (f y)]) (by simp [results,results58,go_sem]) rfl ⟨rfl,(bH.refl _ _).alloc _⟩
theorem fC(z:Int)(h0:-4611686018427387904≤z)(h1:z≤4611686018427387904): wrap64 z=z:=by unfold wrap64;omega
theorem DY(n:Int)(w:World): Calls prog 66 #[n] w fun e w'=>(∃p:Af,p.ok=true∧e=.returned p.v)∧bH [] w w':=by
 have hSh:=MB;obtain⟨c,ec⟩:∃c,bits BinOp.and IntKind.i64 (n / 4) 7=c:=⟨_,rfl⟩;obtain⟨d,ed⟩:∃d,bits BinOp.and IntKind.i64 (n / 32) 7=d:=⟨_,rfl⟩;obtain⟨s,es⟩:∃s,bits BinOp.and IntKind.i64 n 7=s:=⟨_,rfl⟩;have hc:=dM (n / 4) 7 (by omega);have hd:=dM (n / 32) 7 (by omega);rw [show ((7:Nat):Int)=7 from rfl,ec]at hc;rw [show ((7:Nat):Int)=7 from rfl,ed]at hd;have wc:wrap64 (c - 3)=c - 3:=fC _ (by omega) (by omega);have wd:wrap64 (d - 3)=d - 3:=fC _ (by omega) (by omega);have HB:Hid ((-3≤c - 3∧c - 3≤4)∧-3≤d - 3∧d - 3≤4):=lh (by omega);have HSH:=lh hSh;obtain⟨W,hW⟩:∃W,W=w.alloc (.cells #[(0:Int),(0:Int),(0:Int),(0:Int),(0:Int),(0:Int),(0:Int)] 80):=⟨_,rfl⟩;have T0:bH [] w W:=hW ▸ (tR w).alloc _;have hWs:W.heap.size=w.heap.size+1:=by rw [hW];simp
 obtain⟨z0,z1,z2,z3,z4,z5,z6⟩:=Qh (Rf hW);have zf:∀i,W.frozen? ⟨w,i,none⟩=false:=fun i=>by rw [hW];simp [go_sem]
 clear hSh hc hd;have hs:s=1∨s=2∨s=3∨(s≠1∧s≠2∧s≠3):=by omega
 rcases hs with rfl | rfl | rfl | ⟨h1,h2,h3⟩
 ·go_enter func66,ntmps66;go_upto_region 1 with (fail)
  rw [←hW];clear hW;go_upto_region 2 with (go_at_call 57;refine (HSH.o _ _ _).mono ?_;rintro e w1 ⟨rfl,ht1⟩)
  generalize c - 3=c at *;generalize d - 3=d at *;obtain⟨W1,hW1⟩:∃W1,W1=w1.alloc (.cells #[(1:Int),(0:Int),c,(0:Int),(1:Int),d,(1:Int)] 80):=⟨_,rfl⟩;have TX:bH [] W W1:=hW1 ▸ ht1.alloc _;have hw1:=ht1.size;obtain⟨p0,p1,p2,p3,p4,p5,p6⟩:=Qh (Rf hW1);have pf:∀i,W1.frozen? ⟨w1,i,none⟩=false:=fun i=>by rw [hW1];simp [go_sem]
  rw [←hW1];clear hW1 ht1;have hne:¬w1.heap.size=w.heap.size:=by omega
  have hne2:¬w.heap.size=w1.heap.size:=by omega
  have hbs:w.heap.size≤w1.heap.size:=by omega
  generalize w1.heap.size=b9 at *;obtain⟨hc,hf⟩:=bY TX;have y0:=tq hc z0;have y1:=tq hc z1;have y2:=tq hc z2;have y3:=tq hc z3;have y4:=tq hc z4;have y5:=tq hc z5;have y6:=tq hc z6;go_wp2_with fail
  have hTT:=(((((((((T0.trans TX).setCell (a:=⟨b9,0,none⟩) (2:Int) (.inr (by dsimp only;omega))).setCell (a:=⟨b9,4,none⟩) (2:Int) (.inr (by dsimp only;omega))).setCell (a:=⟨w,0,none⟩) (2:Int) (.inr (by dsimp only;omega))).setCell (a:=⟨w,1,none⟩) (0:Int) (.inr (by dsimp only;omega))).setCell (a:=⟨w,2,none⟩) c (.inr (by dsimp only;omega))).setCell (a:=⟨w,3,none⟩) (0:Int) (.inr (by dsimp only;omega))).setCell (a:=⟨w,4,none⟩) (2:Int) (.inr (by dsimp only;omega))).setCell (a:=⟨w,5,none⟩) d (.inr (by dsimp only;omega))).setCell (a:=⟨w,6,none⟩) (1:Int) (.inr (by dsimp only;omega));refine ag (v:=.agg #[(2:Int),(0:Int),c,(0:Int),(2:Int),d,(1:Int)]) (by simp [results,results66,go_sem,y0,y1,y2,y3,y4,y5,y6]) rfl ⟨⟨⟨2,0,c,0,2,d,1⟩,?_,rfl⟩,hTT⟩;obtain⟨⟨a1,a2⟩,a3,a4⟩:=HB.o;simp [Af.ok,Af.small,Af.shift,Af.det,lm];omega
 ·go_enter func66,ntmps66;go_upto_region 1 with (fail)
  rw [←hW];clear hW;go_upto_region 2 with (go_at_call 57;refine (HSH.o _ _ _).mono ?_;rintro e w1 ⟨rfl,ht1⟩)
  generalize c - 3=c at *;generalize d - 3=d at *;obtain⟨W1,hW1⟩:∃W1,W1=w1.alloc (.cells #[(1:Int),(0:Int),c,(0:Int),(1:Int),d,(1:Int)] 80):=⟨_,rfl⟩;have TX:bH [] W W1:=hW1 ▸ ht1.alloc _;have hw1:=ht1.size;obtain⟨p0,p1,p2,p3,p4,p5,p6⟩:=Qh (Rf hW1);have pf:∀i,W1.frozen? ⟨w1,i,none⟩=false:=fun i=>by rw [hW1];simp [go_sem]
  rw [←hW1];clear hW1 ht1;have hne:¬w1.heap.size=w.heap.size:=by omega
  have hne2:¬w.heap.size=w1.heap.size:=by omega
  have hbs:w.heap.size≤w1.heap.size:=by omega
  generalize w1.heap.size=b9 at *;obtain⟨hc,hf⟩:=bY TX;have y0:=tq hc z0;have y1:=tq hc z1;have y2:=tq hc z2;have y3:=tq hc z3;have y4:=tq hc z4;have y5:=tq hc z5;have y6:=tq hc z6;go_wp2_with fail
  have hTT:=((((((((T0.trans TX).setCell (a:=⟨b9,6,none⟩) (2:Int) (.inr (by dsimp only;omega))).setCell (a:=⟨w,0,none⟩) (1:Int) (.inr (by dsimp only;omega))).setCell (a:=⟨w,1,none⟩) (0:Int) (.inr (by dsimp only;omega))).setCell (a:=⟨w,2,none⟩) c (.inr (by dsimp only;omega))).setCell (a:=⟨w,3,none⟩) (0:Int) (.inr (by dsimp only;omega))).setCell (a:=⟨w,4,none⟩) (1:Int) (.inr (by dsimp only;omega))).setCell (a:=⟨w,5,none⟩) d (.inr (by dsimp only;omega))).setCell (a:=⟨w,6,none⟩) (2:Int) (.inr (by dsimp only;omega));refine ag (v:=.agg #[(1:Int),(0:Int),c,(0:Int),(1:Int),d,(2:Int)]) (by simp [results,results66,go_sem,y0,y1,y2,y3,y4,y5,y6]) rfl ⟨⟨⟨1,0,c,0,1,d,2⟩,?_,rfl⟩,hTT⟩;obtain⟨⟨a1,a2⟩,a3,a4⟩:=HB.o;simp [Af.ok,Af.small,Af.shift,Af.det,lm];omega
 ·go_enter func66,ntmps66;go_upto_region 1 with (fail)
  rw [←hW];clear hW;go_upto_region 2 with (go_at_call 57;refine (HSH.o _ _ _).mono ?_;rintro e w1 ⟨rfl,ht1⟩)
  generalize c - 3=c at *;generalize d - 3=d at *;obtain⟨W1,hW1⟩:∃W1,W1=w1.alloc (.cells #[(1:Int),(0:Int),c,(0:Int),(1:Int),d,(1:Int)] 80):=⟨_,rfl⟩;have TX:bH [] W W1:=hW1 ▸ ht1.alloc _;have hw1:=ht1.size;obtain⟨p0,p1,p2,p3,p4,p5,p6⟩:=Qh (Rf hW1);have pf:∀i,W1.frozen? ⟨w1,i,none⟩=false:=fun i=>by rw [hW1];simp [go_sem]
  rw [←hW1];clear hW1 ht1;have hne:¬w1.heap.size=w.heap.size:=by omega
  have hne2:¬w.heap.size=w1.heap.size:=by omega
  have hbs:w.heap.size≤w1.heap.size:=by omega
  generalize w1.heap.size=b9 at *;obtain⟨hc,hf⟩:=bY TX;have y0:=tq hc z0;have y1:=tq hc z1;have y2:=tq hc z2;have y3:=tq hc z3;have y4:=tq hc z4;have y5:=tq hc z5;have y6:=tq hc z6;go_wp2_with fail
  have hTT:=(((((((((((T0.trans TX).setCell (a:=⟨b9,0,none⟩) (0:Int) (.inr (by dsimp only;omega))).setCell (a:=⟨b9,1,none⟩) (.int .i64 (-1)) (.inr (by dsimp only;omega))).setCell (a:=⟨b9,3,none⟩) (1:Int) (.inr (by dsimp only;omega))).setCell (a:=⟨b9,4,none⟩) (0:Int) (.inr (by dsimp only;omega))).setCell (a:=⟨w,0,none⟩) (0:Int) (.inr (by dsimp only;omega))).setCell (a:=⟨w,1,none⟩) (.int .i64 (-1)) (.inr (by dsimp only;omega))).setCell (a:=⟨w,2,none⟩) c (.inr (by dsimp only;omega))).setCell (a:=⟨w,3,none⟩) (1:Int) (.inr (by dsimp only;omega))).setCell (a:=⟨w,4,none⟩) (0:Int) (.inr (by dsimp only;omega))).setCell (a:=⟨w,5,none⟩) d (.inr (by dsimp only;omega))).setCell (a:=⟨w,6,none⟩) (1:Int) (.inr (by dsimp only;omega));refine ag (v:=.agg #[(0:Int),.int .i64 (-1),c,(1:Int),(0:Int),d,(1:Int)]) (by simp [results,results66,go_sem,y0,y1,y2,y3,y4,y5,y6]) rfl ⟨⟨⟨0,(-1),c,1,0,d,1⟩,?_,rfl⟩,hTT⟩;obtain⟨⟨a1,a2⟩,a3,a4⟩:=HB.o;simp [Af.ok,Af.small,Af.shift,Af.det,lm];omega
 have k1:(s == 1)=false:=by simpa using h1
 have k2:(s == 2)=false:=by simpa using h2
 have k3:(s == 3)=false:=by simpa using h3
 go_enter func66,ntmps66;go_upto_region 1 with (fail)
 rw [←hW];clear hW;go_upto_region 2 with (go_at_call 57;refine (HSH.o _ _ _).mono ?_;rintro e w1 ⟨rfl,ht1⟩)
 generalize c - 3=c at *;generalize d - 3=d at *;obtain⟨W1,hW1⟩:∃W1,W1=w1.alloc (.cells #[(1:Int),(0:Int),c,(0:Int),(1:Int),d,(1:Int)] 80):=⟨_,rfl⟩;have TX:bH [] W W1:=hW1 ▸ ht1.alloc _;have hw1:=ht1.size;obtain⟨p0,p1,p2,p3,p4,p5,p6⟩:=Qh (Rf hW1);have pf:∀i,W1.frozen? ⟨w1,i,none⟩=false:=fun i=>by rw [hW1];simp [go_sem]
 rw [←hW1];clear hW1 ht1;have hne:¬w1.heap.size=w.heap.size:=by omega
 have hne2:¬w.heap.size=w1.heap.size:=by omega
 have hbs:w.heap.size≤w1.heap.size:=by omega
 generalize w1.heap.size=b9 at *;obtain⟨hc,hf⟩:=bY TX;have y0:=tq hc z0;have y1:=tq hc z1;have y2:=tq hc z2;have y3:=tq hc z3;have y4:=tq hc z4;have y5:=tq hc z5;have y6:=tq hc z6;go_wp2_with fail
 have hTT:=(((((((T0.trans TX).setCell (a:=⟨w,0,none⟩) (1:Int) (.inr (by dsimp only;omega))).setCell (a:=⟨w,1,none⟩) (0:Int) (.inr (by dsimp only;omega))).setCell (a:=⟨w,2,none⟩) c (.inr (by dsimp only;omega))).setCell (a:=⟨w,3,none⟩) (0:Int) (.inr (by dsimp only;omega))).setCell (a:=⟨w,4,none⟩) (1:Int) (.inr (by dsimp only;omega))).setCell (a:=⟨w,5,none⟩) d (.inr (by dsimp only;omega))).setCell (a:=⟨w,6,none⟩) (1:Int) (.inr (by dsimp only;omega));refine ag (v:=.agg #[(1:Int),(0:Int),c,(0:Int),(1:Int),d,(1:Int)]) (by simp [results,results66,go_sem,y0,y1,y2,y3,y4,y5,y6]) rfl ⟨⟨⟨1,0,c,0,1,d,1⟩,?_,rfl⟩,hTT⟩;obtain⟨⟨a1,a2⟩,a3,a4⟩:=HB.o;simp [Af.ok,Af.small,Af.shift,Af.det,lm];omega
end Go.Proofs.YtbpklgllihhgpaaGreat
