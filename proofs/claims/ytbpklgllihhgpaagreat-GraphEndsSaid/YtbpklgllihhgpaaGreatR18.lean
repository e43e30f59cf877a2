import Derived.Deep.MidRow
import Derived.DeepKeys
import Derived.Test.YtbpklgllihhgpaaGreatR17
set_option maxRecDepth 100000
set_option maxHeartbeats 16000000
namespace Go.Proofs.YtbpklgllihhgpaaGreat
open Tryz Go.RowKit Go.Den
def cleanAt(px:List Int)(j:Nat): Int:=if al px (j / 4)=0 then 0 else px.getD j 0
def tclean(px:List Int): List Int:=(List.range 256).map (cleanAt px)
def mix(px:List Int)(k:Nat): List Value:=(List.range 256).map fun j=>.int .u8 (if j<4*k then cleanAt px j else px.getD j 0)
theorem mix_len(px:List Int)(k:Nat): (mix px k).length=256:=by simp [mix]
theorem mix_zero(px:List Int)(hl:px.length=256): mix px 0=px.map (Value.int .u8):=by
 apply List.ext_getElem?;intro j;by_cases h:j<256
 ·simp [mix,h,hl,List.getD]
 simp [mix,h,hl]
theorem mix_end(px:List Int): mix px 64=(tclean px).map (Value.int .u8):=by unfold mix tclean;rw [List.map_map];apply List.map_congr_left;intro j hj;have:=List.mem_range.1 hj;simp [this]
theorem mix_at(px:List Int)(k j:Nat)(hj:j<256): (mix px k)[j]?=some (.int .u8 (if j<4*k then cleanAt px j else px.getD j 0)):=by simp [mix,hj]
theorem mix_step(px:List Int)(k:Nat)(hk:k<64)(a b c d:Int)(ha:cleanAt px (4*k)=a)(hb:cleanAt px (4*k+1)=b)(hc:cleanAt px (4*k+2)=c)(hd:cleanAt px (4*k+3)=d):
  (mix px k).take (4*k) ++ [.int .u8 a,.int .u8 b,.int .u8 c,.int .u8 d] ++ (mix px k).drop (4*k+4)=mix px (k+1):=by
 have hlen:=mix_len px k;apply List.ext_getElem?;intro j;by_cases h0:j<256
 ·rw [mix_at px (k+1) j h0];by_cases h1:j<4*k
  ·rw [List.append_assoc,List.getElem?_append_left (by simp [hlen];omega),List.getElem?_take_of_lt h1,mix_at px k j h0,if_pos h1,if_pos (by omega)]
  by_cases h2:j<4*k+4
  ·rw [if_pos (by omega)];rw [List.getElem?_append_left (by simp [hlen];omega),List.getElem?_append_right (by simp;omega)];have e:((mix px k).take (4*k)).length=4*k:=(by simp [hlen];omega);rw [e];have hj:j=4*k∨j=4*k+1∨j=4*k+2∨j=4*k+3:=(by omega);rcases hj with rfl | rfl | rfl | rfl
   ·rw [Nat.sub_self,ha];rfl
   ·rw [Nat.add_sub_cancel_left,hb];rfl
   ·rw [Nat.add_sub_cancel_left,hc];rfl
   rw [Nat.add_sub_cancel_left,hd];rfl
  rw [List.getElem?_append_right (by simp [hlen];omega),List.getElem?_drop];have e:((mix px k).take (4*k) ++ [Value.int .u8 a,.int .u8 b,.int .u8 c,.int .u8 d]).length=4*k+4:=by simp [hlen];omega
  rw [e,show 4*k+4+(j - (4*k+4))=j by omega,mix_at px k j h0,if_neg h1,if_neg (by omega)]
 have:(mix px (k+1))[j]?=none:=by rw [List.getElem?_eq_none_iff,mix_len];omega
 rw [this,List.getElem?_eq_none_iff];simp [hlen];omega
theorem pix_store{w:World}{g i:Nat}{p L L':List Value}{t:TypeId}(hg:w.heap[g]?=some (.cells ⟨L⟩ t (0,0)))(hL:L.length=256)(hp:p.length=4)(h1:∀v∈p,v.oneCell'=true)(hi:i<64)(hr:L.take (4*i) ++ p ++ L.drop (4*i+4)=L'):
  (Instr.storeAt 64 (.pointer (some ⟨g,i*4,none⟩)) (.agg ⟨p⟩)).run prog w=.ok () (w.setRow g ⟨L'⟩):=by
 have hsz:(prog.info? 64).map (·.size)=some 4:=by kernel_rfl
 have hst:=run_storeCells_at (P:=prog) g (4*i) t p 0 ⟨L⟩ w hg (by show 4*i+0+p.length≤L.length;omega) h1;have hrow:((⟨L⟩:Array Value).toList.take (4*i+0) ++ p ++ (⟨L⟩:Array Value).toList.drop (4*i+0+p.length)).toArray=⟨L'⟩:=by rw [hp];show ((L.take (4*i+0) ++ p ++ L.drop (4*i+0+4)).toArray:Array Value)=⟨L'⟩;rw [Nat.add_zero,hr]
 rw [hrow]at hst;rw [Nat.mul_comm i 4];simp only [Instr.storeAt,Instr.sureAddr,Sem.run_bind,Sem.run_pure,Result.andThen];unfold storeVar;have hc:(Value.agg ⟨p⟩).cells=⟨p⟩:=rfl;rw [Sem.run_bind,run_sizeOf hsz];simp only [Result.andThen,hc];rw [if_neg (by show ¬(p.length≠4);omega)];exact hst
theorem pix_load{w:World}{g i:Nat}{px:List Int}{k:Nat}{t:TypeId}(hg:w.heap[g]?=some (.cells ⟨mix px k⟩ t (0,0)))(hi:i<64)(hk:k≤i):
  w.rangeAt g (i*4) [.int .u8 (px.getD (i*4) 0),.int .u8 (px.getD (i*4+1) 0),.int .u8 (px.getD (i*4+2) 0),.int .u8 (al px i)]:=by
 intro j v hv;rw [cell_of_row w g _ ⟨mix px k⟩ t (0,0) hg];have h4:j<4:=by have:=(List.getElem?_eq_some_iff.1 hv).1;simpa using this
 have e:(⟨mix px k⟩:Array Value)[i*4+j]?=(mix px k)[i*4+j]?:=by simp
 rw [e,mix_at px k _ (by omega),if_neg (by omega),←hv];have hj:j=0∨j=1∨j=2∨j=3:=by omega
 rcases hj with rfl | rfl | rfl | rfl <;> rfl
theorem ref_pclean(r g b a:Int)(w:World): Calls prog 68 #[.agg #[.int .u8 r,.int .u8 g,.int .u8 b,.int .u8 a]] w fun e w'=>
  e=.returned (.agg #[.int .u8 (if a=0 then 0 else r),.int .u8 (if a=0 then 0 else g),.int .u8 (if a=0 then 0 else b),.int .u8 (if a=0 then 0 else a)])∧Turn [] w w':=by
 by_cases h:a=0
 ·subst h;have TT:=((tR w).alloc (.cells #[.int .u8 r,.int .u8 g,.int .u8 b,.int .u8 0] 64)).alloc (.cells #[.int .u8 0,.int .u8 0,.int .u8 0,.int .u8 0] 64);simp only [if_true];go_enter func68,ntmps68;go_wp2_with fail
  refine bodyPost_ret (v:=.agg #[.int .u8 0,.int .u8 0,.int .u8 0,.int .u8 0]) (by simp [results,results68,go_sem]) rfl ⟨rfl,TT⟩
 simp only [h,if_false];have TT:=((tR w).alloc (.cells #[.int .u8 r,.int .u8 g,.int .u8 b,.int .u8 a] 64)).alloc (.cells #[.int .u8 r,.int .u8 g,.int .u8 b,.int .u8 a] 64);go_enter func68,ntmps68;go_wp2_with fail
 refine bodyPost_ret (v:=.agg #[.int .u8 r,.int .u8 g,.int .u8 b,.int .u8 a]) (by simp [results,results68,go_sem]) rfl ⟨rfl,TT⟩
theorem wpList_load_var{P:Program}{ops:Array Oper}{rest:List Oper}{o:Oper}{a:Act}{w:World}{Q:Exit→Act→World→Prop}(hg:o.guard=none)(t:TypeId)(x:Operand)(ho:o.op=.load t x){g:Nat}{v:Value}
  (hx:a.eval x=.pointer (some ⟨g,0,none⟩)) (hr:(loadVar t ⟨g,0,none⟩).run P w=.ok v w) (h:wpList P ops Q rest (a.put o.dst v) w):wpList P ops Q (o :: rest) a w:=by
 refine wpList_plain hg fun K hK=>?_;unfold Oper.wp;have e:(Instr.loadAt t (.pointer (some ⟨g,0,none⟩))).run P w=.ok v w:=hr;simp only [execOp,ho,hx,Sem.run_bind,e,Result.andThen];exact hK _ _ h
structure CleanW(w:World)(px:List Int)(k:Nat)(wr:World): Prop where
 row:wr.heap[w.heap.size]?=some (.cells ⟨mix px k⟩ 66 (0,0))
 res:wr.heap[w.heap.size+1]?=some (.cells zeroCells66 66 (0,0))
 tn:Turn [] w wr
theorem ref_clean(px:List Int)(hl:px.length=256)(w:World):
  Calls prog 154 #[tv px] w fun e w'=>e=.returned (tv (tclean px))∧Turn [] w w':=by
 have ha1:∀u:World,(Instr.alloc 66 true (.tuple #[])).run prog u=.ok (.pointer (some ⟨u,0,none⟩)) (u.alloc (.cells zeroCells66 66)):=fun u=>by have:=alloc66 u;rwa [z66]at this
 have hW0:CleanW w px 0 ((w.alloc (.cells ⟨px.map (Value.int .u8)⟩ 66)).alloc (.cells zeroCells66 66)):=by
  have s1:∀(u:World) (o:Obj),(u.alloc o).heap.size=u.heap.size+1:=fun u o=>by show (u.heap.push o).size=_;simp
  refine⟨?_,?_,((tR w).alloc _).alloc _⟩
  ·rw [(MapKept.heap_alloc _ _).2 _ (by rw [s1];omega),mix_zero px hl];exact (MapKept.heap_alloc _ _).1
  rw [←s1 w];exact (MapKept.heap_alloc _ _).1
 have HP:=lh ref_pclean;unfold tv;generalize (⟨px.map (Value.int .u8)⟩:Array Value)=cs at *;go_enter func154,ntmps154;go_wp2_with fail
 go_loopw [3] (fun s3 wr=>∃k:Nat,k≤64∧s3=k∧CleanW w px k wr) (fun s3 _=>64 - (intOf s3).toNat);case atStart=>exact⟨0,by omega,rfl,hW0⟩
 obtain⟨k,hk,rfl,hF⟩:=hrel;clear hW0 ha1;by_cases hlt:k<64
 ·have hR:=pix_load hF.row hlt (Nat.le_refl k);have hS:∀w1,Turn [] wr w1→(Instr.storeAt 64 (.pointer (some ⟨w,k*4,none⟩)) (.agg #[.int .u8 (if al px k=0 then 0 else px.getD (k*4) 0),.int .u8 (if al px k=0 then 0 else px.getD (k*4+1) 0),.int .u8 (if al px k=0 then 0 else px.getD (k*4+2) 0),.int .u8 (if al px k=0 then 0 else al px k)])).run prog w1=.ok () (w1.setRow w.heap.size ⟨mix px (k+1)⟩):=by intro w1 T1;have h1:w1.heap[w.heap.size]?=some (.cells ⟨mix px k⟩ 66 (0,0)):=(by rw [T1.old _ (by have:=(Array.getElem?_eq_some_iff.1 hF.row).1;exact this) (by simp)];exact hF.row);refine pix_store (L:=mix px k) h1 (mix_len px k) rfl (by simp [Value.oneCell']) hlt ?_;refine mix_step px k hlt _ _ _ _ ?_ ?_ ?_ ?_ <;> simp only [cleanAt,al] <;> (try rw [show (4*k) / 4=k by omega]) <;> (try rw [show (4*k+1) / 4=k by omega]) <;> (try rw [show (4*k+2) / 4=k by omega]) <;> (try rw [show (4*k+3) / 4=k by omega]) <;> rw [Nat.mul_comm 4 k]
  have HF:=lh hF;have HS:=lh hS;clear hF hS;generalize hz:al px k=z at *;clear hz;generalize px.getD (k*4) 0=z0 at *;generalize px.getD (k*4+1) 0=z1 at *;generalize px.getD (k*4+2) 0=z2 at *;go_wp2_with (first
   | (refine wpList_load_mid rfl 64 (.tmp 10) rfl _ _ rfl _ _ hR underlying64 rfl (by kernel_rfl) ?_)
   | (go_at_call 68;refine (HP.out _ _ _ _ _).mono ?_;rintro e w1 ⟨rfl,ht⟩)
   | (refine wpList_store_run rfl 64 (.tmp 13) (.tmp 12) rfl rfl rfl (HS.out _ ht) ?_))
  have hF:=HF.out;have q:∀g,g≠w.heap.size→(w1.setRow w.heap.size ⟨mix px (k+1)⟩).heap[g]?=w1.heap[g]?:=by intro g hg;simp only [World.setRow,Array.getElem?_modify,Ne.symm hg,if_false]
  have o1:∀g,g<wr.heap.size→w1.heap[g]?=wr.heap[g]?:=fun g hg=>ht.old _ hg (by simp);have l1:=(Array.getElem?_eq_some_iff.1 hF.res).1;have hF':CleanW w px (k+1) (w1.setRow w.heap.size ⟨mix px (k+1)⟩):=by
   refine⟨?_,?_,(hF.tn.trans ht).setRow _ (.inr (by omega))⟩
   ·have h1:=(o1 w.heap.size (by omega)).trans hF.row;simp only [World.setRow,Array.getElem?_modify,if_true,h1];rfl
   rw [q _ (by omega),o1 _ l1];exact hF.res
  exact⟨⟨k+1,by omega,by go_num,hF'⟩,by simp [intOf];omega⟩
 obtain rfl:k=64:=by omega
 have hl2:=run_loadVar_row (P:=prog) wr w.heap.size 66 66 ⟨mix px 64⟩ (0,0) _ hF.row underlying66 rfl (by
  rw [info66];show some 256=some (mix px 64).length;rw [mix_len])
 have hst:=store_row (ty:=66) (cells:=⟨mix px 64⟩) hF.res (by
  rw [info66];show some 256=some (mix px 64).length;rw [mix_len]) (by
  rw [←z66,sizeZ66];show 256=(mix px 64).length;rw [mix_len]) (by simp [mix,Value.oneCell'])
 have hr2:(wr.setRow (w.heap.size+1) ⟨mix px 64⟩).heap[w.heap.size+1]?=some (.cells ⟨mix px 64⟩ 66 (0,0)):=by simp only [World.setRow,Array.getElem?_modify,if_true,hF.res];rfl
 have hl3:=run_loadVar_row (P:=prog) _ (w.heap.size+1) 66 66 ⟨mix px 64⟩ (0,0) _ hr2 underlying66 rfl (by
  rw [info66];show some 256=some (mix px 64).length;rw [mix_len])
 have hT:Turn [] w (wr.setRow (w.heap.size+1) ⟨mix px 64⟩):=hF.tn.setRow _ (.inr (by omega));have HT:=lh hT;have HE:=lh (mix_end px);clear hT hr2 hF hk hlt;generalize mix px 64=FT at *;go_wp2_with (first
  | (refine wpList_load_var rfl 66 (.tmp 1) rfl rfl hl2 ?_)
  | (refine wpList_store_run rfl 66 (.tmp 2) (.tmp 14) rfl rfl rfl hst ?_))
 go_frame;refine bodyPost_ret (v:=.agg ⟨FT⟩) ?_ rfl ⟨by rw [HE.out],HT.out⟩;simp [results,results154,asAddr,hl3]
def pixN(px:List Int)(i:Nat): List Value:=[.int .u8 (px.getD (i*4) 0),.int .u8 (px.getD (i*4+1) 0),.int .u8 (px.getD (i*4+2) 0),.int .u8 (px.getD (i*4+3) 0)]
theorem pix_range{w:World}{g:Nat}{px:List Int}{t:TypeId}(hl:px.length=256)(hg:w.heap[g]?=some (.cells ⟨px.map (Value.int .u8)⟩ t (0,0)))(i:Nat)(hi:i<64):
  w.rangeAt g (i*4) [.int .u8 (px.getD (i*4) 0),.int .u8 (px.getD (i*4+1) 0),.int .u8 (px.getD (i*4+2) 0),.int .u8 (px.getD (i*4+3) 0)]:=by
 rw [←mix_zero px hl]at hg;exact pix_load hg hi (Nat.zero_le i)
def pixEq(a b:List Int)(i:Nat): Bool:=a.getD (i*4) 0 == b.getD (i*4) 0 && a.getD (i*4+1) 0 == b.getD (i*4+1) 0 && a.getD (i*4+2) 0 == b.getD (i*4+2) 0 && a.getD (i*4+3) 0 == b.getD (i*4+3) 0
def tsame(a b:List Int): Bool:=(List.range 64).all (pixEq a b)
theorem tsame_iff{a b:List Int}(ha:a.length=256)(hb:b.length=256): tsame a b=true↔a=b:=by
 constructor
 ·intro h;have h:=List.all_eq_true.1 h;apply List.ext_getElem?;intro j;by_cases hj:j<256
  ·have:=h (j / 4) (List.mem_range.2 (by omega));simp only [pixEq,Bool.and_eq_true,beq_iff_eq]at this;have hm:j=j / 4*4∨j=j / 4*4+1∨j=j / 4*4+2∨j=j / 4*4+3:=(by omega);have e:a.getD j 0=b.getD j 0:=by
    rcases hm with h | h | h | h <;> rw [h]
    ·exact this.1.1.1
    ·exact this.1.1.2
    ·exact this.1.2
    exact this.2
   simpa [List.getD,ha,hb,hj]using e
  rw [List.getElem?_eq_none (by omega),List.getElem?_eq_none (by omega)]
 rintro rfl;exact List.all_eq_true.2 fun i _=>by simp [pixEq]
theorem ref_same(a b:List Int)(ha:a.length=256)(hb:b.length=256)(w:World):
  Calls prog 153 #[tv a,tv b] w fun e w'=>e=.returned (.bool (tsame a b))∧Turn [] w w':=by
 have s1:∀(u:World) (o:Obj),(u.alloc o).heap.size=u.heap.size+1:=fun u o=>by show (u.heap.push o).size=_;simp
 have hA:∀i,i<64→((w.alloc (.cells ⟨a.map (Value.int .u8)⟩ 66)).alloc (.cells ⟨b.map (Value.int .u8)⟩ 66)).rangeAt w.heap.size (i*4) (pixN a i):=fun i hi=>by refine pix_range ha (t:=66) ?_ i hi;rw [(MapKept.heap_alloc _ _).2 _ (by rw [s1];omega)];exact (MapKept.heap_alloc _ _).1
 have hB:∀i,i<64→((w.alloc (.cells ⟨a.map (Value.int .u8)⟩ 66)).alloc (.cells ⟨b.map (Value.int .u8)⟩ 66)).rangeAt (w.heap.size+1) (i*4) (pixN b i):=fun i hi=>by refine pix_range hb (t:=66) ?_ i hi;rw [←s1 w];exact (MapKept.heap_alloc _ _).1
 have T:=((tR w).alloc (.cells ⟨a.map (Value.int .u8)⟩ 66)).alloc (.cells ⟨b.map (Value.int .u8)⟩ 66);unfold tv;generalize (⟨a.map (Value.int .u8)⟩:Array Value)=ca at *;generalize (⟨b.map (Value.int .u8)⟩:Array Value)=cb at *;have HA:=lh hA;have HB:=lh hB;clear hA hB s1;go_enter func153,ntmps153;go_wp2_with fail
 generalize hW:(w.alloc (.cells ca 66)).alloc (.cells cb 66)=W at *;clear hW;go_loopw [5] (fun s5 wr=>∃k:Nat,k≤64∧s5=k∧(∃q,wr=W.drewN q)∧∀i,i<k→pixEq a b i=true) (fun s5 _=>64 - (intOf s5).toNat);case atStart=>exact⟨0,by omega,rfl,⟨0,rfl⟩,fun i hi=>absurd hi (Nat.not_lt_zero i)⟩
 obtain⟨k,hk,rfl,⟨q,rfl⟩,hall⟩:=hrel;have HALL:=lh hall;clear hall;by_cases hlt:k<64
 ·have rA:=HA.out k hlt;have rB:=HB.out k hlt;simp only [pixN]at rA rB;have hE:pixEq a b k=(a.getD (k*4) 0 == b.getD (k*4) 0 && a.getD (k*4+1) 0 == b.getD (k*4+1) 0 && a.getD (k*4+2) 0 == b.getD (k*4+2) 0 && a.getD (k*4+3) 0 == b.getD (k*4+3) 0):=rfl;have HE:=lh hE;clear hE;generalize a.getD (k*4) 0=a0 at *;generalize a.getD (k*4+1) 0=a1 at *;generalize a.getD (k*4+2) 0=a2 at *;generalize a.getD (k*4+3) 0=a3 at *;generalize b.getD (k*4) 0=b0 at *;generalize b.getD (k*4+1) 0=b1 at *;generalize b.getD (k*4+2) 0=b2 at *;generalize b.getD (k*4+3) 0=b3 at *;have p0:W.cell? ⟨w,k*4,none⟩=some (.int .u8 a0):=by simpa using rA 0 _ rfl
  have p1:W.cell? ⟨w,k*4+1,none⟩=some (.int .u8 a1):=rA 1 _ rfl;have p2:W.cell? ⟨w,k*4+2,none⟩=some (.int .u8 a2):=rA 2 _ rfl;have p3:W.cell? ⟨w,k*4+3,none⟩=some (.int .u8 a3):=rA 3 _ rfl;have q0:W.cell? ⟨w.heap.size+1,k*4,none⟩=some (.int .u8 b0):=by simpa using rB 0 _ rfl
  have q1:W.cell? ⟨w.heap.size+1,k*4+1,none⟩=some (.int .u8 b1):=rB 1 _ rfl;have q2:W.cell? ⟨w.heap.size+1,k*4+2,none⟩=some (.int .u8 b2):=rB 2 _ rfl;have q3:W.cell? ⟨w.heap.size+1,k*4+3,none⟩=some (.int .u8 b3):=rB 3 _ rfl;clear rA rB;have c0:(0:Int)≤(k:Int):=by omega
  have c1:(k:Int)<64:=by omega
  by_cases h0:a0=b0
  ·subst h0;by_cases h1:a1=b1
   ·subst h1;by_cases h2:a2=b2
    ·subst h2;by_cases h3:a3=b3
     ·subst h3;(go_wp2_with fail);go_quiet (fail)
      (go_wp2_with fail);exact⟨⟨k+1,by omega,by go_num,⟨_,rfl⟩,fun i hi=>by
       by_cases h:i<k
       ·exact HALL.out i h
       obtain rfl:i=k:=(by omega);rw [HE.out];simp⟩,by simp [intOf];omega⟩
     (go_wp2_with fail);go_quiet (fail)
     (go_wp2_with fail);go_ret;have:tsame a b=false:=List.all_eq_false.2 ⟨k,List.mem_range.2 hlt,by rw [HE.out];simp;omega⟩;exact⟨by rw [this];rfl,(T.drawn _).drawn _⟩
    (go_wp2_with fail);go_quiet (fail)
    (go_wp2_with fail);go_ret;have:tsame a b=false:=List.all_eq_false.2 ⟨k,List.mem_range.2 hlt,by rw [HE.out];simp;omega⟩;exact⟨by rw [this];rfl,(T.drawn _).drawn _⟩
   (go_wp2_with fail);go_quiet (fail)
   (go_wp2_with fail);go_ret;have:tsame a b=false:=List.all_eq_false.2 ⟨k,List.mem_range.2 hlt,by rw [HE.out];simp;omega⟩;exact⟨by rw [this];rfl,(T.drawn _).drawn _⟩
  go_wp2_with fail
  go_quiet (fail)
  go_wp2_with fail
  go_ret;have:tsame a b=false:=List.all_eq_false.2 ⟨k,List.mem_range.2 hlt,by rw [HE.out];simp;omega⟩;exact⟨by rw [this];rfl,(T.drawn _).drawn _⟩
 obtain rfl:k=64:=by omega
 go_wp2_with fail
 go_ret;have:tsame a b=true:=List.all_eq_true.2 fun i hi=>HALL.out i (List.mem_range.1 hi);exact⟨by rw [this];rfl,T.drawn _⟩
theorem pix_clean(r g b a:Int)(w:World): Calls prog 214 #[.agg #[.int .u8 r,.int .u8 g,.int .u8 b,.int .u8 a]] w fun e w'=>
  e=.returned (.agg #[.int .u8 (if a=0 then 0 else r),.int .u8 (if a=0 then 0 else g),.int .u8 (if a=0 then 0 else b),.int .u8 (if a=0 then 0 else a)])∧Turn [] w w':=by
 by_cases h:a=0
 ·subst h;have TT:=((tR w).alloc (.cells #[.int .u8 r,.int .u8 g,.int .u8 b,.int .u8 0] 64)).alloc (.cells #[.int .u8 0,.int .u8 0,.int .u8 0,.int .u8 0] 64);simp only [if_true];go_enter func214,ntmps214;go_wp2_with fail
  refine bodyPost_ret (v:=.agg #[.int .u8 0,.int .u8 0,.int .u8 0,.int .u8 0]) (by simp [results,results214,go_sem]) rfl ⟨rfl,TT⟩
 simp only [h,if_false];have TT:=((tR w).alloc (.cells #[.int .u8 r,.int .u8 g,.int .u8 b,.int .u8 a] 64)).alloc (.cells #[.int .u8 r,.int .u8 g,.int .u8 b,.int .u8 a] 64);go_enter func214,ntmps214;go_wp2_with fail
 refine bodyPost_ret (v:=.agg #[.int .u8 r,.int .u8 g,.int .u8 b,.int .u8 a]) (by simp [results,results214,go_sem]) rfl ⟨rfl,TT⟩
theorem run_index_tile(cs p:Array Value)(i:Nat)(hi:i<64)(h:cs.extract (i*4) (i*4+4)=p)(w:World): (Instr.index 66 (.agg cs) i).run prog w=.ok (.agg p) w:=by
 have hsz:(prog.info? 64).map (·.size)=some 4:=by kernel_rfl
 have h1:(0:Int)≤(i:Int)∧(i:Int)<((64:Nat):Int):=by omega
 have h2:(isAgg 64).run prog w=.ok true w:=by kernel_rfl
 simp only [Instr.index,asIntOf,Sem.run_bind,Sem.run_pure,Result.andThen,run_underlying underlying66,if_pos h1,run_sizeOf hsz,part,h2,Int.toNat_natCast];simp only [if_true,Sem.run_bind,run_sizeOf hsz,Sem.run_pure,Result.andThen,h]
theorem tile_clean(px:List Int)(hl:px.length=256)(w:World):
  Calls prog 204 #[tv px] w fun e w'=>e=.returned (tv (tclean px))∧Turn [] w w':=by
 have ha1:∀u:World,(Instr.alloc 66 true (.tuple #[])).run prog u=.ok (.pointer (some ⟨u,0,none⟩)) (u.alloc (.cells zeroCells66 66)):=fun u=>by have:=alloc66 u;rwa [z66]at this
 have hW0:CleanW w px 0 ((w.alloc (.cells ⟨px.map (Value.int .u8)⟩ 66)).alloc (.cells zeroCells66 66)):=by
  have s1:∀(u:World) (o:Obj),(u.alloc o).heap.size=u.heap.size+1:=fun u o=>by show (u.heap.push o).size=_;simp
  refine⟨?_,?_,((tR w).alloc _).alloc _⟩
  ·rw [(MapKept.heap_alloc _ _).2 _ (by rw [s1];omega),mix_zero px hl];exact (MapKept.heap_alloc _ _).1
  rw [←s1 w];exact (MapKept.heap_alloc _ _).1
 have hl0:=run_loadVar_row (P:=prog) _ w.heap.size 66 66 ⟨mix px 0⟩ (0,0) _ hW0.row underlying66 rfl (by
  rw [info66];show some 256=some (mix px 0).length;rw [mix_len])
 rw [mix_zero px hl]at hl0;have HP:=lh pix_clean;unfold tv;have hcs:∀i,i<64→(⟨px.map (Value.int .u8)⟩:Array Value).extract (i*4) (i*4+4)=#[.int .u8 (px.getD (i*4) 0),.int .u8 (px.getD (i*4+1) 0),.int .u8 (px.getD (i*4+2) 0),.int .u8 (al px i)]:=by
  intro i hi;apply Array.ext';simp only [Array.toList_extract,List.extract_eq_take_drop];apply List.ext_getElem?;intro j;by_cases hj:j<4
  ·have h4:j=0∨j=1∨j=2∨j=3:=(by omega);have hd:∀q,q<256→px[q]?=some (px.getD q 0):=fun q hq=>by simp [List.getD,hl,hq]
   rw [List.getElem?_take_of_lt (by omega),List.getElem?_drop,List.getElem?_map,hd _ (by omega)];rcases h4 with rfl | rfl | rfl | rfl <;> rfl
  rw [List.getElem?_eq_none (by simp;omega),List.getElem?_eq_none (by simp;omega)]
 have HCS:=lh hcs;clear hcs;generalize (⟨px.map (Value.int .u8)⟩:Array Value)=cs at *;go_enter func204,ntmps204;go_wp2_with (refine wpList_load_var rfl 66 (.tmp 1) rfl rfl hl0 ?_)
 go_loopw [6] (fun s6 wr=>∃k:Nat,k≤64∧s6=k∧CleanW w px k wr) (fun s6 _=>64 - (intOf s6).toNat);case atStart=>exact⟨0,by omega,rfl,hW0⟩
 obtain⟨k,hk,rfl,hF⟩:=hrel;clear hW0 ha1 hl0;by_cases hlt:k<64
 ·have hI:=run_index_tile cs _ k hlt (HCS.out k hlt);have hR:=pix_load hF.row hlt (Nat.le_refl k);have hS:∀w1,Turn [] wr w1→(Instr.storeAt 64 (.pointer (some ⟨w,k*4,none⟩)) (.agg #[.int .u8 (if al px k=0 then 0 else px.getD (k*4) 0),.int .u8 (if al px k=0 then 0 else px.getD (k*4+1) 0),.int .u8 (if al px k=0 then 0 else px.getD (k*4+2) 0),.int .u8 (if al px k=0 then 0 else al px k)])).run prog w1=.ok () (w1.setRow w.heap.size ⟨mix px (k+1)⟩):=by intro w1 T1;have h1:w1.heap[w.heap.size]?=some (.cells ⟨mix px k⟩ 66 (0,0)):=(by rw [T1.old _ (by have:=(Array.getElem?_eq_some_iff.1 hF.row).1;exact this) (by simp)];exact hF.row);refine pix_store (L:=mix px k) h1 (mix_len px k) rfl (by simp [Value.oneCell']) hlt ?_;refine mix_step px k hlt _ _ _ _ ?_ ?_ ?_ ?_ <;> simp only [cleanAt,al] <;> (try rw [show (4*k) / 4=k by omega]) <;> (try rw [show (4*k+1) / 4=k by omega]) <;> (try rw [show (4*k+2) / 4=k by omega]) <;> (try rw [show (4*k+3) / 4=k by omega]) <;> rw [Nat.mul_comm 4 k]
  have HF:=lh hF;have HS:=lh hS;clear hF hS;generalize hz:al px k=z at *;clear hz;generalize px.getD (k*4) 0=z0 at *;generalize px.getD (k*4+1) 0=z1 at *;generalize px.getD (k*4+2) 0=z2 at *;go_wp2_with (first
   | (go_at_call 214;refine (HP.out _ _ _ _ _).mono ?_;rintro e w1 ⟨rfl,ht⟩)
   | (refine wpList_store_run rfl 64 (.tmp 13) (.tmp 12) rfl rfl rfl (HS.out _ (((tR wr).alloc _).trans ht)) ?_))
  have hF:=HF.out;have q:∀g,g≠w.heap.size→(w1.setRow w.heap.size ⟨mix px (k+1)⟩).heap[g]?=w1.heap[g]?:=by intro g hg;simp only [World.setRow,Array.getElem?_modify,Ne.symm hg,if_false]
  have ht:=(((tR wr).alloc (.cells #[.int .u8 z0,.int .u8 z1,.int .u8 z2,.int .u8 z] 64)).trans ht);have o1:∀g,g<wr.heap.size→w1.heap[g]?=wr.heap[g]?:=fun g hg=>ht.old _ hg (by simp);have l1:=(Array.getElem?_eq_some_iff.1 hF.res).1;have hF':CleanW w px (k+1) (w1.setRow w.heap.size ⟨mix px (k+1)⟩):=by
   refine⟨?_,?_,(hF.tn.trans ht).setRow _ (.inr (by omega))⟩
   ·have h1:=(o1 w.heap.size (by omega)).trans hF.row;simp only [World.setRow,Array.getElem?_modify,if_true,h1];rfl
   rw [q _ (by omega),o1 _ l1];exact hF.res
  exact⟨⟨k+1,by omega,by go_num,hF'⟩,by simp [intOf];omega⟩
 obtain rfl:k=64:=by omega
 have hl2:=run_loadVar_row (P:=prog) wr w.heap.size 66 66 ⟨mix px 64⟩ (0,0) _ hF.row underlying66 rfl (by
  rw [info66];show some 256=some (mix px 64).length;rw [mix_len])
 have hst:=store_row (ty:=66) (cells:=⟨mix px 64⟩) hF.res (by
  rw [info66];show some 256=some (mix px 64).length;rw [mix_len]) (by
  rw [←z66,sizeZ66];show 256=(mix px 64).length;rw [mix_len]) (by simp [mix,Value.oneCell'])
 have hr2:(wr.setRow (w.heap.size+1) ⟨mix px 64⟩).heap[w.heap.size+1]?=some (.cells ⟨mix px 64⟩ 66 (0,0)):=by simp only [World.setRow,Array.getElem?_modify,if_true,hF.res];rfl
 have hl3:=run_loadVar_row (P:=prog) _ (w.heap.size+1) 66 66 ⟨mix px 64⟩ (0,0) _ hr2 underlying66 rfl (by
  rw [info66];show some 256=some (mix px 64).length;rw [mix_len])
 have hT:Turn [] w (wr.setRow (w.heap.size+1) ⟨mix px 64⟩):=hF.tn.setRow _ (.inr (by omega));have HT:=lh hT;have HE:=lh (mix_end px);clear hT hr2 hF hk hlt;generalize mix px 64=FT at *;go_wp2_with (first
  | (refine wpList_load_var rfl 66 (.tmp 1) rfl rfl hl2 ?_)
  | (refine wpList_store_run rfl 66 (.tmp 2) (.tmp 15) rfl rfl rfl hst ?_))
 go_frame;refine bodyPost_ret (v:=.agg ⟨FT⟩) ?_ rfl ⟨by rw [HE.out],HT.out⟩;simp [results,results204,asAddr,hl3]
def okPx(px:List Int): Prop:=px.length=256∧∀v∈px,0≤v∧v≤255
theorem chunk_flat{A:Type}(L:List A): ∀n,((List.range n).map fun i=>(L.drop (i*4)).take 4).flatten=L.take (n*4)
 | 0=>by simp
 | n+1=>by rw [List.range_succ,List.map_append,List.flatten_append,chunk_flat L n];simp only [List.map_cons,List.map_nil,List.flatten_cons,List.flatten_nil,List.append_nil];rw [show (n+1)*4=n*4+4 by omega,List.take_add]
theorem mapM_exact{A B:Type}{f:A→Option B}{g:A→B}: ∀{l:List A},(∀i∈l,f i=some (g i))→l.mapM f=some (l.map g)
 | [],_=>rfl
 | a :: l,h=>by rw [List.mapM_cons,h a (by simp),mapM_exact fun i hi=>h i (by simp [hi])];rfl
theorem tcells_tile:prog.cellsOf 66=256:=by kernel_rfl
theorem tcells_pix:prog.cellsOf 64=4:=by kernel_rfl
theorem tcells_u8:prog.cellsOf 5=1:=by kernel_rfl
theorem tkey_tile:prog.keyTypeAt 10 66=true:=by kernel_rfl
theorem tlits_u8{x:Int}(h:0≤x∧x≤255): prog.keyLits 1 5 [.int .u8 x]=some [.int .u8 x]:=by have hwf:(Lit.int .u8 x).wf=true:=WalkArith.wf_u8 (by omega);simp [Program.keyLits,underlying5,hwf]
theorem tlits_pix{c:List Int}(hl:c.length=4)(h:∀v∈c,0≤v∧v≤255): prog.keyLits 2 64 (c.map (Value.int .u8))=some (c.map (Lit.int .u8)):=by
 match c,hl with
 | [a,b,d,e],_=>
  have ha:=tlits_u8 (h a (by simp));have hb:=tlits_u8 (h b (by simp));have hd:=tlits_u8 (h d (by simp));have he:=tlits_u8 (h e (by simp));unfold Program.keyLits;simp [underlying64,tcells_pix,tcells_u8,ha,hb,hd,he]
theorem tlits_tile{px:List Int}(h:okPx px): prog.keyLits 3 66 (px.map (Value.int .u8))=some (px.map (Lit.int .u8)):=by
 have hm:=mapM_exact (f:=fun i=>prog.keyLits 2 64 (((px.map (Value.int .u8)).drop (i*prog.cellsOf 64)).take (prog.cellsOf 64)))
  (g:=fun i=>((px.map (Lit.int .u8)).drop (i*4)).take 4) (l:=List.range 64) fun i hi=>by
  have hi:=List.mem_range.1 hi
  rw [tcells_pix,←List.map_drop,←List.map_take,tlits_pix (by simp [h.1];omega) (fun v hv=>h.2 v (List.mem_of_mem_drop (List.mem_of_mem_take hv))),List.map_take,List.map_drop]
 unfold Program.keyLits;simp only [underlying66,tcells_tile,List.length_map,h.1,if_true];rw [hm];have hz:((List.range 64).map fun i=>((px.map (Lit.int .u8)).drop (i*4)).take 4).flatten=px.map (Lit.int .u8):=by rw [chunk_flat (px.map (Lit.int .u8)) 64,List.take_of_length_le (by rw [List.length_map,h.1];exact Nat.le_refl _)]
 exact congrArg some hz
theorem tile_cmp{a b:List Int}(ha:okPx a)(hb:okPx b)(w:World): (Op.equalIn 10000 66 (tv a) (tv b)).run prog w=.ok (decide (a=b)) w:=by
 have hf:∀{px:List Int},okPx px→(tv px).formed prog 66=true:=fun {px} h=>by simp [tv,Value.formed,underlying66,tcells_tile,h.1]
 have hc:∀px:List Int,(tv px).cells.toList=px.map (Value.int .u8):=fun px=>by simp [tv,Value.cells]
 obtain⟨r,hr,hiff⟩:=run_equalIn_deep (P:=prog) 9990 10 66 tkey_tile w 3 3 (tv a) (tv b) _ _ (hf ha) (hf hb) (by rw [hc];exact tlits_tile ha) (by rw [hc];exact tlits_tile hb);suffices hh:r=decide (a=b) by rw [hr,hh]
 clear hr;by_cases e:a=b
 ·subst e;rw [hiff.2 rfl];simp
 have:r≠true:=fun h=>by
  have h2:=hiff.1 h;apply e;have inj:∀{x y:List Int},x.map (Lit.int .u8)=y.map (Lit.int .u8)→x=y:=by
   intro x;induction x with
   | nil=>intro y h;cases y with
    | nil=>rfl
    | cons _ _=>simp at h
   | cons p x ih=>intro y h;cases y with
    | nil=>simp at h
    | cons q y=>
     simp only [List.map_cons,List.cons.injEq,Lit.int.injEq,true_and]at h
     rw [h.1,ih h.2]
  exact inj h2
 simp [e,this]
theorem tclean_ok{px:List Int}(h:okPx px): okPx (tclean px):=by
 refine⟨by simp [tclean],fun v hv=>?_⟩;obtain⟨j,hj,rfl⟩:=List.mem_map.1 hv;have hj:=List.mem_range.1 hj;unfold cleanAt;split
 ·omega
 have hl:=h.1;have:px.getD j 0=px[j]:=by simp [List.getD,show j<px.length by omega]
 rw [this];exact h.2 _ (List.getElem_mem _)
theorem tclean_at{px:List Int}{j:Nat}(hj:j<256): (tclean px)[j]?=some (cleanAt px j):=by rw [tclean,List.getElem?_map,List.getElem?_range hj];rfl
theorem rep_at{j n:Nat}(hj:j<n): (List.replicate n (0:Int))[j]?=some 0:=by rw [List.getElem?_replicate,if_pos hj]
theorem tzero_iff{px:List Int}: tzero px=true↔tclean px=List.replicate 256 0:=by
 unfold tzero;rw [List.all_eq_true];constructor
 ·intro h;apply List.ext_getElem?;intro j;by_cases hj:j<256
  ·have:=h (j / 4) (List.mem_range.2 (by omega));have h0:al px (j / 4)=0:=(by simpa using this);rw [tclean_at hj,rep_at hj,cleanAt,if_pos h0]
  rw [List.getElem?_eq_none (by rw [tclean,List.length_map,List.length_range];omega),List.getElem?_eq_none (by rw [List.length_replicate];omega)]
 intro h i hi;have hi:=List.mem_range.1 hi;have h1:(tclean px)[i*4+3]?=some 0:=by rw [h];exact rep_at (by omega)
 rw [tclean_at (by omega)]at h1;simp only [cleanAt,show (i*4+3) / 4=i by omega,Option.some.injEq]at h1;by_cases h0:al px i=0
 ·simp [h0]
 rw [if_neg h0]at h1;exact absurd h1 h0
theorem zero_tv:tv (List.replicate 256 0)=.agg zeroCells66:=by kernel_rfl
theorem tile_zero(px:List Int)(h:okPx px)(w:World):
  Calls prog 185 #[tv px] w fun e w'=>e=.returned (.bool (tzero px))∧Turn [] w w':=by
 have hC:=tile_clean px h.1;have hE:=tile_cmp (tclean_ok h) (b:=List.replicate 256 0) ⟨by simp,fun v hv=>by rw [(List.mem_replicate.1 hv).2];omega⟩;have hd:decide (tclean px=List.replicate 256 0)=tzero px:=by
  cases e:tzero px with
  | true=>exact decide_eq_true (tzero_iff.1 e)
  | false=>exact decide_eq_false fun h2=>by rw [tzero_iff.2 h2]at e;cases e
 rw [hd,zero_tv]at hE;clear hd;generalize htc:tclean px=tc at *;generalize hz:tzero px=z at *;unfold tv at *;have hsz:(⟨px.map (Value.int .u8)⟩:Array Value).size=256:=by show (px.map _).length=256;rw [List.length_map,h.1]
 generalize (⟨px.map (Value.int .u8)⟩:Array Value)=cs at *;generalize (⟨tc.map (Value.int .u8)⟩:Array Value)=cc at *;have hl0:(loadVar 66 ⟨w,0,none⟩).run prog (w.alloc (.cells cs 66))=.ok (.agg cs) (w.alloc (.cells cs 66)):=run_loadVar_new w 66 cs 64 64 underlying66 (by rw [info66,hsz]);have hbl:∀w,(Instr.build 66 #[]).run prog w=.ok (.agg zeroCells66) w:=fun w=>by rw [build66,z66]
 have hbe:∀w,(binOp .eql 66 (.agg cc) (.agg zeroCells66)).run prog w=.ok (.bool z) w:=fun w=>by have:=hE w;simp [binOp,Op.equal,show Op.maxDepth=10000 from rfl,this,Result.andThen]
 have HC:=lh hC;clear hC htc hz hE hsz;go_enter func185,ntmps185;go_wp2_with (first
  | (refine wpList_load_var rfl 66 (.tmp 1) rfl rfl hl0 ?_)
  | (go_at_call 204;refine (HC.out _).mono ?_;rintro e w1 ⟨rfl,ht⟩))
 go_ret;exact⟨rfl,((tR w).alloc _).trans ht⟩
theorem bits_and_bd(x:Int)(m:Nat)(hm:m<4611686018427387904): 0≤bits .and .i64 x m∧bits .and .i64 x m≤m:=by
 have h1:(BitVec.ofInt 64 (m:Int)).toNat=m:=by rw [BitVec.toNat_ofInt];omega
 have h2:(BitVec.ofInt 64 x &&& BitVec.ofInt 64 (m:Int)).toNat≤m:=by rw [BitVec.toNat_and];exact Nat.le_trans Nat.and_le_right (by omega)
 have h3:bits .and .i64 x m=((BitVec.ofInt 64 x &&& BitVec.ofInt 64 (m:Int)).toNat:Int):=by show IntKind.i64.wrap ((BitVec.ofInt 64 x &&& BitVec.ofInt 64 (m:Int)).toNat:Int)=_;generalize (BitVec.ofInt 64 x &&& BitVec.ofInt 64 (m:Int)).toNat=q at *;simp [IntKind.wrap,IntKind.bits,IntKind.signed];omega
 omega
theorem ref_shift(x y:Int)(w:World): Calls prog 57 #[x,y] w fun e w'=>e=.returned (.agg #[(1:Int),(0:Int),x,(0:Int),(1:Int),y,(1:Int)])∧Turn [] w w':=by
 go_enter func57,ntmps57;go_wp2_with fail
 exact bodyPost_ret (v:=.agg #[(1:Int),(0:Int),x,(0:Int),(1:Int),y,(1:Int)]) (by simp [results,results57,go_sem]) rfl ⟨rfl,(Turn.refl _ _).alloc _⟩
theorem ref_pmade(x:Int)(w:World): Calls prog 69 #[x] w fun e w'=>(∃r g b a,e=.returned (.agg #[.int .u8 r,.int .u8 g,.int .u8 b,.int .u8 a]))∧Turn [] w w':=by
 go_enter func69,ntmps69;go_wp2_with fail
 ·exact bodyPost_ret (v:=.agg #[.int .u8 (x % 256),.int .u8 (x % 4294967296 / 256 % 256),.int .u8 (x % 4294967296 / 65536 % 256),.int .u8 255]) (by simp [results,results69,go_sem]) rfl ⟨⟨_,_,_,_,rfl⟩,((Turn.refl _ _).alloc _).alloc _⟩
 ·exact bodyPost_ret (v:=.agg #[.int .u8 (x % 256),.int .u8 (x % 4294967296 / 256 % 256),.int .u8 (x % 4294967296 / 65536 % 256),.int .u8 0]) (by simp [results,results69,go_sem]) rfl ⟨⟨_,_,_,_,rfl⟩,((Turn.refl _ _).alloc _).alloc _⟩
 exact bodyPost_ret (v:=.agg #[.int .u8 (x % 256),.int .u8 (x % 4294967296 / 256 % 256),.int .u8 (x % 4294967296 / 65536 % 256),.int .u8 (x % 4294967296 / 16777216)]) (by simp [results,results69,go_sem]) rfl ⟨⟨_,_,_,_,rfl⟩,((Turn.refl _ _).alloc _).alloc _⟩
theorem ref_pos(x y:Int)(hx:-4611686018427387904≤x∧x≤4611686018427387904)(hy:-4611686018427387904≤y∧y≤4611686018427387904)(w:World): Calls prog 58 #[x,y] w fun e w'=>e=.returned (.agg #[.int .i64 (floorM x 8),.int .i64 (floorM y 8)])∧Turn [] w w':=by
 obtain⟨f,hf⟩:∃f:Int→Int,∀z,f z=floorM z 8:=⟨fun z=>floorM z 8,fun _=>rfl⟩;have hF:∀z,z=x∨z=y→∀u,Calls prog 99 #[z,(8:Int)] u fun e w'=>e=.returned (.int .i64 (f z))∧w'=u:=fun z hz u=>
  (ref_floor z 8 (by rcases hz with rfl | rfl;exact hx.1;exact hy.1) (by rcases hz with rfl | rfl;exact hx.2;exact hy.2) u).mono (fun e w' h=>⟨by rw [hf];exact h.1,h.2.symm⟩)
 rw [←hf,←hf];have HF:=lh hF;clear hx hy hF hf;go_enter func58,ntmps58;go_wp2_with (go_at_call 99;refine (HF.out _ (by first | exact .inl rfl | exact .inr rfl) _).mono ?_;rintro e w1 ⟨rfl,hw⟩;rw [hw];clear hw)
 exact bodyPost_ret (v:=.agg #[.int .i64 (f x),.int .i64 (f y)]) (by simp [results,results58,go_sem]) rfl ⟨rfl,(Turn.refl _ _).alloc _⟩
theorem wrap_small(z:Int)(h0:-4611686018427387904≤z)(h1:z≤4611686018427387904): wrap64 z=z:=by unfold wrap64;omega
theorem ref_place(n:Int)(w:World): Calls prog 66 #[n] w fun e w'=>(∃p:Af,p.ok=true∧e=.returned p.v)∧Turn [] w w':=by
 have hSh:=ref_shift;obtain⟨c,ec⟩:∃c,bits BinOp.and IntKind.i64 (n / 4) 7=c:=⟨_,rfl⟩;obtain⟨d,ed⟩:∃d,bits BinOp.and IntKind.i64 (n / 32) 7=d:=⟨_,rfl⟩;obtain⟨s,es⟩:∃s,bits BinOp.and IntKind.i64 n 7=s:=⟨_,rfl⟩;have hc:=bits_and_bd (n / 4) 7 (by omega);have hd:=bits_and_bd (n / 32) 7 (by omega);rw [show ((7:Nat):Int)=7 from rfl,ec]at hc;rw [show ((7:Nat):Int)=7 from rfl,ed]at hd;have wc:wrap64 (c - 3)=c - 3:=wrap_small _ (by omega) (by omega);have wd:wrap64 (d - 3)=d - 3:=wrap_small _ (by omega) (by omega);have HB:Hid ((-3≤c - 3∧c - 3≤4)∧-3≤d - 3∧d - 3≤4):=lh (by omega);have HSH:=lh hSh;obtain⟨W,hW⟩:∃W,W=w.alloc (.cells #[(0:Int),(0:Int),(0:Int),(0:Int),(0:Int),(0:Int),(0:Int)] 80):=⟨_,rfl⟩;have T0:Turn [] w W:=hW ▸ (tR w).alloc _;have hWs:W.heap.size=w.heap.size+1:=by rw [hW];simp
 obtain⟨z0,z1,z2,z3,z4,z5,z6⟩:=cs7 (al1 hW);have zf:∀i,W.frozen? ⟨w,i,none⟩=false:=fun i=>by rw [hW];simp [go_sem]
 clear hSh hc hd;have hs:s=1∨s=2∨s=3∨(s≠1∧s≠2∧s≠3):=by omega
 rcases hs with rfl | rfl | rfl | ⟨h1,h2,h3⟩
 ·go_enter func66,ntmps66;go_upto_region 1 with (fail)
  rw [←hW];clear hW;go_upto_region 2 with (go_at_call 57;refine (HSH.out _ _ _).mono ?_;rintro e w1 ⟨rfl,ht1⟩)
  generalize c - 3=c at *;generalize d - 3=d at *;obtain⟨W1,hW1⟩:∃W1,W1=w1.alloc (.cells #[(1:Int),(0:Int),c,(0:Int),(1:Int),d,(1:Int)] 80):=⟨_,rfl⟩;have TX:Turn [] W W1:=hW1 ▸ ht1.alloc _;have hw1:=ht1.size;obtain⟨p0,p1,p2,p3,p4,p5,p6⟩:=cs7 (al1 hW1);have pf:∀i,W1.frozen? ⟨w1,i,none⟩=false:=fun i=>by rw [hW1];simp [go_sem]
  rw [←hW1];clear hW1 ht1;have hne:¬w1.heap.size=w.heap.size:=by omega
  have hne2:¬w.heap.size=w1.heap.size:=by omega
  have hbs:w.heap.size≤w1.heap.size:=by omega
  generalize w1.heap.size=b9 at *;obtain⟨hc,hf⟩:=tcell TX;have y0:=tq hc z0;have y1:=tq hc z1;have y2:=tq hc z2;have y3:=tq hc z3;have y4:=tq hc z4;have y5:=tq hc z5;have y6:=tq hc z6;go_wp2_with fail
  have hTT:=(((((((((T0.trans TX).setCell (a:=⟨b9,0,none⟩) (2:Int) (.inr (by dsimp only;omega))).setCell (a:=⟨b9,4,none⟩) (2:Int) (.inr (by dsimp only;omega))).setCell (a:=⟨w,0,none⟩) (2:Int) (.inr (by dsimp only;omega))).setCell (a:=⟨w,1,none⟩) (0:Int) (.inr (by dsimp only;omega))).setCell (a:=⟨w,2,none⟩) c (.inr (by dsimp only;omega))).setCell (a:=⟨w,3,none⟩) (0:Int) (.inr (by dsimp only;omega))).setCell (a:=⟨w,4,none⟩) (2:Int) (.inr (by dsimp only;omega))).setCell (a:=⟨w,5,none⟩) d (.inr (by dsimp only;omega))).setCell (a:=⟨w,6,none⟩) (1:Int) (.inr (by dsimp only;omega));refine bodyPost_ret (v:=.agg #[(2:Int),(0:Int),c,(0:Int),(2:Int),d,(1:Int)]) (by simp [results,results66,go_sem,y0,y1,y2,y3,y4,y5,y6]) rfl ⟨⟨⟨2,0,c,0,2,d,1⟩,?_,rfl⟩,hTT⟩;obtain⟨⟨a1,a2⟩,a3,a4⟩:=HB.out;simp [Af.ok,Af.small,Af.shift,Af.det,inB];omega
 ·go_enter func66,ntmps66;go_upto_region 1 with (fail)
  rw [←hW];clear hW;go_upto_region 2 with (go_at_call 57;refine (HSH.out _ _ _).mono ?_;rintro e w1 ⟨rfl,ht1⟩)
  generalize c - 3=c at *;generalize d - 3=d at *;obtain⟨W1,hW1⟩:∃W1,W1=w1.alloc (.cells #[(1:Int),(0:Int),c,(0:Int),(1:Int),d,(1:Int)] 80):=⟨_,rfl⟩;have TX:Turn [] W W1:=hW1 ▸ ht1.alloc _;have hw1:=ht1.size;obtain⟨p0,p1,p2,p3,p4,p5,p6⟩:=cs7 (al1 hW1);have pf:∀i,W1.frozen? ⟨w1,i,none⟩=false:=fun i=>by rw [hW1];simp [go_sem]
  rw [←hW1];clear hW1 ht1;have hne:¬w1.heap.size=w.heap.size:=by omega
  have hne2:¬w.heap.size=w1.heap.size:=by omega
  have hbs:w.heap.size≤w1.heap.size:=by omega
  generalize w1.heap.size=b9 at *;obtain⟨hc,hf⟩:=tcell TX;have y0:=tq hc z0;have y1:=tq hc z1;have y2:=tq hc z2;have y3:=tq hc z3;have y4:=tq hc z4;have y5:=tq hc z5;have y6:=tq hc z6;go_wp2_with fail
  have hTT:=((((((((T0.trans TX).setCell (a:=⟨b9,6,none⟩) (2:Int) (.inr (by dsimp only;omega))).setCell (a:=⟨w,0,none⟩) (1:Int) (.inr (by dsimp only;omega))).setCell (a:=⟨w,1,none⟩) (0:Int) (.inr (by dsimp only;omega))).setCell (a:=⟨w,2,none⟩) c (.inr (by dsimp only;omega))).setCell (a:=⟨w,3,none⟩) (0:Int) (.inr (by dsimp only;omega))).setCell (a:=⟨w,4,none⟩) (1:Int) (.inr (by dsimp only;omega))).setCell (a:=⟨w,5,none⟩) d (.inr (by dsimp only;omega))).setCell (a:=⟨w,6,none⟩) (2:Int) (.inr (by dsimp only;omega));refine bodyPost_ret (v:=.agg #[(1:Int),(0:Int),c,(0:Int),(1:Int),d,(2:Int)]) (by simp [results,results66,go_sem,y0,y1,y2,y3,y4,y5,y6]) rfl ⟨⟨⟨1,0,c,0,1,d,2⟩,?_,rfl⟩,hTT⟩;obtain⟨⟨a1,a2⟩,a3,a4⟩:=HB.out;simp [Af.ok,Af.small,Af.shift,Af.det,inB];omega
 ·go_enter func66,ntmps66;go_upto_region 1 with (fail)
  rw [←hW];clear hW;go_upto_region 2 with (go_at_call 57;refine (HSH.out _ _ _).mono ?_;rintro e w1 ⟨rfl,ht1⟩)
  generalize c - 3=c at *;generalize d - 3=d at *;obtain⟨W1,hW1⟩:∃W1,W1=w1.alloc (.cells #[(1:Int),(0:Int),c,(0:Int),(1:Int),d,(1:Int)] 80):=⟨_,rfl⟩;have TX:Turn [] W W1:=hW1 ▸ ht1.alloc _;have hw1:=ht1.size;obtain⟨p0,p1,p2,p3,p4,p5,p6⟩:=cs7 (al1 hW1);have pf:∀i,W1.frozen? ⟨w1,i,none⟩=false:=fun i=>by rw [hW1];simp [go_sem]
  rw [←hW1];clear hW1 ht1;have hne:¬w1.heap.size=w.heap.size:=by omega
  have hne2:¬w.heap.size=w1.heap.size:=by omega
  have hbs:w.heap.size≤w1.heap.size:=by omega
  generalize w1.heap.size=b9 at *;obtain⟨hc,hf⟩:=tcell TX;have y0:=tq hc z0;have y1:=tq hc z1;have y2:=tq hc z2;have y3:=tq hc z3;have y4:=tq hc z4;have y5:=tq hc z5;have y6:=tq hc z6;go_wp2_with fail
  have hTT:=(((((((((((T0.trans TX).setCell (a:=⟨b9,0,none⟩) (0:Int) (.inr (by dsimp only;omega))).setCell (a:=⟨b9,1,none⟩) (.int .i64 (-1)) (.inr (by dsimp only;omega))).setCell (a:=⟨b9,3,none⟩) (1:Int) (.inr (by dsimp only;omega))).setCell (a:=⟨b9,4,none⟩) (0:Int) (.inr (by dsimp only;omega))).setCell (a:=⟨w,0,none⟩) (0:Int) (.inr (by dsimp only;omega))).setCell (a:=⟨w,1,none⟩) (.int .i64 (-1)) (.inr (by dsimp only;omega))).setCell (a:=⟨w,2,none⟩) c (.inr (by dsimp only;omega))).setCell (a:=⟨w,3,none⟩) (1:Int) (.inr (by dsimp only;omega))).setCell (a:=⟨w,4,none⟩) (0:Int) (.inr (by dsimp only;omega))).setCell (a:=⟨w,5,none⟩) d (.inr (by dsimp only;omega))).setCell (a:=⟨w,6,none⟩) (1:Int) (.inr (by dsimp only;omega));refine bodyPost_ret (v:=.agg #[(0:Int),.int .i64 (-1),c,(1:Int),(0:Int),d,(1:Int)]) (by simp [results,results66,go_sem,y0,y1,y2,y3,y4,y5,y6]) rfl ⟨⟨⟨0,(-1),c,1,0,d,1⟩,?_,rfl⟩,hTT⟩;obtain⟨⟨a1,a2⟩,a3,a4⟩:=HB.out;simp [Af.ok,Af.small,Af.shift,Af.det,inB];omega
 have k1:(s == 1)=false:=by simpa using h1
 have k2:(s == 2)=false:=by simpa using h2
 have k3:(s == 3)=false:=by simpa using h3
 go_enter func66,ntmps66;go_upto_region 1 with (fail)
 rw [←hW];clear hW;go_upto_region 2 with (go_at_call 57;refine (HSH.out _ _ _).mono ?_;rintro e w1 ⟨rfl,ht1⟩)
 generalize c - 3=c at *;generalize d - 3=d at *;obtain⟨W1,hW1⟩:∃W1,W1=w1.alloc (.cells #[(1:Int),(0:Int),c,(0:Int),(1:Int),d,(1:Int)] 80):=⟨_,rfl⟩;have TX:Turn [] W W1:=hW1 ▸ ht1.alloc _;have hw1:=ht1.size;obtain⟨p0,p1,p2,p3,p4,p5,p6⟩:=cs7 (al1 hW1);have pf:∀i,W1.frozen? ⟨w1,i,none⟩=false:=fun i=>by rw [hW1];simp [go_sem]
 rw [←hW1];clear hW1 ht1;have hne:¬w1.heap.size=w.heap.size:=by omega
 have hne2:¬w.heap.size=w1.heap.size:=by omega
 have hbs:w.heap.size≤w1.heap.size:=by omega
 generalize w1.heap.size=b9 at *;obtain⟨hc,hf⟩:=tcell TX;have y0:=tq hc z0;have y1:=tq hc z1;have y2:=tq hc z2;have y3:=tq hc z3;have y4:=tq hc z4;have y5:=tq hc z5;have y6:=tq hc z6;go_wp2_with fail
 have hTT:=(((((((T0.trans TX).setCell (a:=⟨w,0,none⟩) (1:Int) (.inr (by dsimp only;omega))).setCell (a:=⟨w,1,none⟩) (0:Int) (.inr (by dsimp only;omega))).setCell (a:=⟨w,2,none⟩) c (.inr (by dsimp only;omega))).setCell (a:=⟨w,3,none⟩) (0:Int) (.inr (by dsimp only;omega))).setCell (a:=⟨w,4,none⟩) (1:Int) (.inr (by dsimp only;omega))).setCell (a:=⟨w,5,none⟩) d (.inr (by dsimp only;omega))).setCell (a:=⟨w,6,none⟩) (1:Int) (.inr (by dsimp only;omega));refine bodyPost_ret (v:=.agg #[(1:Int),(0:Int),c,(0:Int),(1:Int),d,(1:Int)]) (by simp [results,results66,go_sem,y0,y1,y2,y3,y4,y5,y6]) rfl ⟨⟨⟨1,0,c,0,1,d,1⟩,?_,rfl⟩,hTT⟩;obtain⟨⟨a1,a2⟩,a3,a4⟩:=HB.out;simp [Af.ok,Af.small,Af.shift,Af.det,inB];omega
end Go.Proofs.YtbpklgllihhgpaaGreat
