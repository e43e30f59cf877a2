import Derived.Test.YtbpklgllihhgpaaGreatA27
set_option maxRecDepth 100000
set_option maxHeartbeats 16000000
namespace Go.Proofs.YtbpklgllihhgpaaGreat
open Tryz Go.RowKit Go.Den
theorem Tc(k:Int)(h0:-65536≤k)(h1:k≤65536)(w:World): Calls prog 208 #[k] w fun e w'=>e=.returned (.bool false)∧w'=w:=by
 have e1:decide (k < -65536)=false:=ak (by omega);have e2:decide (65536<k)=false:=ak (by omega);go_enter func208,ntmps208;go_wp2_with fail
 go_ret;exact⟨by first | rfl | (simp;done),rfl⟩
def VS(n:Int)(z:Int): Prop:=-n≤z∧z≤n
theorem MR(ks:List Int)(hb:∀z∈ks,VS 65536 z)(g o n cap:Nat)(hn:n=ks.length)(hl:n≤100)(w:World)(hA:∀j,j<n→w.cell? ⟨g,o+j,none⟩=some (.int .i64 (ks.getD j 0))):
  Calls prog 201 #[.slice (some ⟨g,o,none⟩) n cap,.func (.func 208) #[] #[]] w fun e w'=>e=.returned (.int .i64 (-1))∧w'=w:=by
 have hall:∀j,j<n→VS 65536 (ks.getD j 0):=by
  intro j hj;have:ks.getD j 0∈ks:=by simp [List.getD,show j<ks.length by omega]
  exact hb _ this
 have HA:=lh hA;have HALL:=lh hall;clear hA hall hb hn;go_enter func201,ntmps201;go_wp2_with fail
 go_loop [8] (fun s8=>∃k:Nat,k≤n∧s8=k) (fun s8=>n - (intOf s8).toNat);case atStart=>exact⟨0,by omega,rfl⟩
 obtain⟨k,hk,rfl⟩:=hrel;by_cases hlt:k<n
 ·have hcell:=HA.o k hlt;have hq:=Tc _ (HALL.o k hlt).1 (HALL.o k hlt).2;generalize ks.getD k 0=z at *;have HQ:=lh hq;clear hq;go_wp2_with (first
   | (go_at_call 208;refine (HQ.o _).mono ?_;rintro e w1 ⟨rfl,rfl⟩)
   | fail)
  go_round;case rel=>exact⟨k+1,by omega,by go_num⟩
  simp [intOf];omega
 obtain rfl:k=n:=by omega
 go_wp2_with fail
 go_ret;exact⟨rfl,rfl⟩
theorem Et(ks:List Int)(hb:∀z∈ks,VS 65536 z)(g o n cap:Nat)(hn:n=ks.length)(hl:n≤100)(w:World)(hA:∀j,j<n→w.cell? ⟨g,o+j,none⟩=some (.int .i64 (ks.getD j 0))):
  Calls prog 180 #[.slice (some ⟨g,o,none⟩) n cap,.func (.func 208) #[] #[]] w fun e w'=>e=.returned (.bool false)∧w'=w:=by
 have HI:=lh (MR ks hb g o n cap hn hl w hA);clear hA hb hn;go_enter func180,ntmps180;go_wp2_with (go_at_call 201;refine HI.o.mono ?_;rintro e w1 ⟨rfl,rfl⟩)
 go_ret;exact⟨by first | rfl | (simp;done),rfl⟩
theorem Ak(m:List Int)(hm:m.length=9)(hb:∀z∈m,VS 65536 z)(w:World):
  Calls prog 193 #[.agg ⟨m.map (Value.int .i64)⟩] w fun e w'=>e=.returned (.bool true)∧bH [] w w':=by
 match m,hm with
 | [a0,a1,a2,a3,a4,a5,a6,a7,a8],_=>
  have hc:=fun (u:World) (ty:TypeId)=>Et [a0,a1,a2,a3,a4,a5,a6,a7,a8] hb u.heap.size 0 9 9 rfl (by decide) (u.alloc (.cells #[a0,a1,a2,a3,a4,a5,a6,a7,a8] ty)) (fun j hj=>by
   rw [aA _ _ _ #[a0,a1,a2,a3,a4,a5,a6,a7,a8] ty (0,0) (heap_alloc_new u _),Nat.zero_add];match j,hj with
   | 0,_=>rfl
   | 1,_=>rfl
   | 2,_=>rfl
   | 3,_=>rfl
   | 4,_=>rfl
   | 5,_=>rfl
   | 6,_=>rfl
   | 7,_=>rfl
   | 8,_=>rfl)
  have HC:=lh hc;clear hc hb;simp only [List.map_cons,List.map_nil];go_enter func193,ntmps193;go_wp2_with (go_at_call 180;refine (HC.o _ _).mono ?_;rintro e w1 ⟨rfl,rfl⟩)
  go_ret;exact⟨by first | rfl | (simp;done),(tR w).alloc _⟩
theorem GN(p:List Int×List Int)(h:p∈uQ)(w:World):
  Calls prog 194 #[.agg ⟨p.2.map (Value.int .i64)⟩,.agg ⟨p.1.map (Value.int .i64)⟩] w fun e w'=>e=.returned (.bool true)∧bH [] w w':=by
 simp only [uQ,aS,aW,or_false]at h;rcases h with rfl | rfl | rfl | rfl <;> exact sS nV rfl rfl (by kernel_rfl) w
theorem WL.within{t f:List Int}(h:WL t f)(ht:t.length=9)(hf:f.length=9): (∀z∈t,VS 65536 z)∧∀z∈f,VS 65536 z:=by
 refine⟨fun z hz=>?_,fun z hz=>?_⟩
 ·obtain⟨i,hi,rfl⟩:=List.mem_iff_getElem.1 hz;have:=h.ent i (by omega);simp only [List.getD,aB hi,Option.getD_some]at this;exact⟨this.1,this.2.1⟩
 obtain⟨i,hi,rfl⟩:=List.mem_iff_getElem.1 hz;have:=h.ent i (by omega);simp only [List.getD,aB hi,Option.getD_some]at this;exact⟨this.2.2.1,this.2.2.2⟩
theorem OM:(prog.info? 97).map (·.size)=some 9:=by kernel_rfl
theorem OI:(prog.info? 99).map (·.size)=some 21:=by kernel_rfl
theorem Ai{w:World}{g o:Nat}{l:List Value}(h:w.rangeAt g o l)(a b c:List Value)(hl:l=a ++ b ++ c): w.rangeAt g (o+a.length) b:=by intro j v hv;have hj:=(ah.1 hv).1;have:=h (a.length+j) v (by rw [hl,List.append_assoc,bG (by omega),Nat.add_sub_cancel_left,bD hj];exact hv);rw [Nat.add_assoc];exact this
theorem oZ{P:Program}{ops:Array Oper}{rest:List Oper}{o:Oper}{a:Act}{w w':World}{Q:Exit→Act→World→Prop}{v:Value}(hg:Region.wanted o (yielded ops a.tmps)=true)(hr:(execOp a.eval o).run P w=.ok (.value v) w')(h:wpList P ops Q rest (a.put o.dst v) w'): wpList P ops Q (o :: rest) a w:=
 wpList_step fun K hK=>by rw [aG hg];unfold Oper.wp;rw [hr];exact hK _ _ h
theorem uF{P:Program}{o:Oper}{a:Act}{w:World}{t:TypeId}{x i:Operand}{p q v:Value}(ho:o.op=.index t x i)(hx:a.eval x=p)(hi:a.eval i=q)(hr:(Instr.index t p q).run P w=.ok v w): (execOp a.eval o).run P w=.ok (.value v) w:=by simp only [execOp,ho,hx,hi,Sem.run_bind,hr,Result.andThen,Sem.run_pure]
theorem WU(a b c:Value)(u:World): (Instr.index 96 (.agg #[a,b,c]) (.int .i64 (0:Nat))).run prog u=.ok a u:=by kernel_rfl
theorem Xa(a b c:Value)(u:World): (Instr.index 96 (.agg #[a,b,c]) (.int .i64 (1:Nat))).run prog u=.ok b u:=by kernel_rfl
theorem WZ(a b c:Value)(u:World): (Instr.index 96 (.agg #[a,b,c]) (.int .i64 (2:Nat))).run prog u=.ok c u:=by kernel_rfl
theorem LZ(s:eF)(hg:s.Good)(w:World)(h:s.At w): Calls prog 163 #[.agg ⟨s.row⟩] w fun e w'=>e=.returned (.bool true)∧bH [] w w':=by
 have hM:=hg.near.within h.h1 h.h2;obtain⟨W,hW⟩:∃W,W=w.alloc (.cells ⟨s.row⟩ 99):=⟨_,rfl⟩;have T0:bH [] w W:=hW ▸ (tR w).alloc _;have hp:=su s w 99;rw [←hW]at hp;have hWs:W.heap.size=w.heap.size+1:=by rw [hW];simp
 have c0:=kQ hp 0 (.slice s.a0 s.n0 s.c0) rfl;have c1:=kQ hp 1 (.slice s.a1 s.n1 s.c1) rfl;have c2:=kQ hp 2 (.slice s.a2 s.n2 s.c2) rfl;have rT:=Ai hp [.slice s.a0 s.n0 s.c0,.slice s.a1 s.n1 s.c1,.slice s.a2 s.n2 s.c2] (s.mTo.map (Value.int .i64)) (s.mFr.map (Value.int .i64)) (by simp [eF.row]);have rF:=Ai hp ([.slice s.a0 s.n0 s.c0,.slice s.a1 s.n1 s.c1,.slice s.a2 s.n2 s.c2] ++ s.mTo.map (Value.int .i64)) (s.mFr.map (Value.int .i64)) [] (by simp [eF.row]);rw [show 0+[Value.slice s.a0 s.n0 s.c0,Value.slice s.a1 s.n1 s.c1,Value.slice s.a2 s.n2 s.c2].length=3 from rfl]at rT;rw [show 0+([Value.slice s.a0 s.n0 s.c0,Value.slice s.a1 s.n1 s.c1,Value.slice s.a2 s.n2 s.c2] ++ s.mTo.map (Value.int .i64)).length=12 by simp [h.h1]]at rF;have lT:∀u,bH [] W u→(Instr.loadAt 97 (.pointer (some ⟨w,3,none⟩))).run prog u=.ok (.agg ⟨s.mTo.map (Value.int .i64)⟩) u:=fun u t=>run_loadAt_mid _ w.heap.size 3 97 (s.mTo.map (Value.int .i64)) _ (fJ t rT) underlying97 rfl (by rw [aJ,h.h1];exact OM);have lF:∀u,bH [] W u→(Instr.loadAt 97 (.pointer (some ⟨w,12,none⟩))).run prog u=.ok (.agg ⟨s.mFr.map (Value.int .i64)⟩) u:=fun u t=>run_loadAt_mid _ w.heap.size 12 97 (s.mFr.map (Value.int .i64)) _ (fJ t rF) underlying97 rfl (by rw [aJ,h.h2];exact OM);have h0:=fun u (t:bH [] w u)=>oK s.l0 hg.l0 s.a0 s.n0 s.c0 u (h.l0.turn t);have h1:=fun u (t:bH [] w u)=>oK s.l1 hg.l1 s.a1 s.n1 s.c1 u (h.l1.turn t);have h2:=fun u (t:bH [] w u)=>oK s.l2 hg.l2 s.a2 s.n2 s.c2 u (h.l2.turn t);have hwT:=fun u=>Ak s.mTo h.h1 hM.1 u;have hwF:=fun u=>Ak s.mFr h.h2 hM.2 u;have hin:=fun u=>GN (s.mTo,s.mFr) hg.mat u;dsimp only at hin;generalize s.row=row at *;generalize s.mTo.map (Value.int .i64)=mt at *;generalize s.mFr.map (Value.int .i64)=mf at *;have H0:=lh h0;have H1:=lh h1;have H2:=lh h2;have LT:=lh lT;have LF:=lh lF;have HWT:=lh hwT;have HWF:=lh hwF;have HIN:=lh hin;clear h0 h1 h2 hM hp h hg lT lF rT rF hwT hwF hin;go_enter func163,ntmps163;go_upto_region 1 with (fail)
 rw [←hW];clear hW;go_wp2_with fail
 go_loopw [7] (fun s7 wr=>∃k:Nat,k≤3∧s7=k∧bH [] W wr) (fun s7 _=>3 - (intOf s7).toNat);case atStart=>exact⟨0,by omega,rfl,tR W⟩
 obtain⟨k,hk,rfl,TT⟩:=hrel;by_cases hlt:k<3
 ·rcases (by omega:k=0∨k=1∨k=2)with rfl | rfl | rfl;all_goals
   (go_upto_region 3 with fail);apply wp_region_lit;first
    | refine bQ (o:=⟨some 9,_,_,_,_,_⟩) rfl (uF (x:=.tmp 6) (i:=.tmp 7) rfl rfl rfl (WU _ _ _ _)) ?_
    | refine bQ (o:=⟨some 9,_,_,_,_,_⟩) rfl (uF (x:=.tmp 6) (i:=.tmp 7) rfl rfl rfl (Xa _ _ _ _)) ?_
    | refine bQ (o:=⟨some 9,_,_,_,_,_⟩) rfl (uF (x:=.tmp 6) (i:=.tmp 7) rfl rfl rfl (WZ _ _ _ _)) ?_
   (try go_frame);go_wp2_with (first
    | (go_at_call 181;(with_reducible refine (H0.o _ (T0.trans TT)).mono ?_);rintro e w1 ⟨rfl,ht⟩;have TT:=TT.trans ht)
    | (go_at_call 181;(with_reducible refine (H1.o _ (T0.trans TT)).mono ?_);rintro e w1 ⟨rfl,ht⟩;have TT:=TT.trans ht)
    | (go_at_call 181;(with_reducible refine (H2.o _ (T0.trans TT)).mono ?_);rintro e w1 ⟨rfl,ht⟩;have TT:=TT.trans ht))
   go_roundw;case rel=>first | exact⟨1,by omega,rfl,TT⟩ | exact⟨2,by omega,rfl,TT⟩ | exact⟨3,by omega,rfl,TT⟩
   case measure=>simp [intOf]
 obtain rfl:k=3:=by omega
 have S0:=TT;go_wp2_with (first
  | (refine bQ (o:=⟨some 15,_,_,_,_,_⟩) rfl (dw (p:=.pointer (some ⟨w,3,none⟩)) (v:=.agg ⟨mt⟩) rfl rfl (LT.out _ S0)) ?_;try go_frame)
  | (go_at_call 193;(with_reducible refine (HWT.o _).mono ?_);rintro e w2 ⟨rfl,ht⟩;have S1:=S0.trans ht)
  | (refine oZ (o:=⟨some 19,_,_,_,_,_⟩) rfl (dw (p:=.pointer (some ⟨w,12,none⟩)) (v:=.agg ⟨mf⟩) rfl rfl (LF.out _ S1)) ?_;try go_frame)
  | (go_at_call 193;(with_reducible refine (HWF.o _).mono ?_);rintro e w3 ⟨rfl,ht⟩;have S2:=S1.trans ht)
  | (refine oZ (o:=⟨some 24,_,_,_,_,_⟩) rfl (dw (p:=.pointer (some ⟨w,12,none⟩)) (v:=.agg ⟨mf⟩) rfl rfl (LF.out _ S2)) ?_;try go_frame)
  | (refine oZ (o:=⟨some 26,_,_,_,_,_⟩) rfl (dw (p:=.pointer (some ⟨w,3,none⟩)) (v:=.agg ⟨mt⟩) rfl rfl (LT.out _ S2)) ?_;try go_frame)
  | (go_at_call 194;(with_reducible refine (HIN.o _).mono ?_);rintro e w4 ⟨rfl,ht⟩;have S3:=S2.trans ht))
 go_ret;exact⟨rfl,T0.trans S3⟩
theorem Dx{s:eF}{w:World}(h:s.At w): s.row.length=21:=by simp [eF.row,h.h1,h.h2]
theorem Ue(s:eF)(hg:s.Good)(w:World)(h:s.At w): Calls prog 162 #[.agg ⟨s.row⟩] w fun e w'=>e=.returned (.bool false)∧bH [] w w':=by
 obtain⟨W,hW⟩:∃W,W=w.alloc (.cells ⟨s.row⟩ 99):=⟨_,rfl⟩;have T0:bH [] w W:=hW ▸ (tR w).alloc _;have hp:=su s w 99;rw [←hW]at hp;have hl:=run_loadAt_mid (P:=prog) W w.heap.size 0 99 s.row _ hp underlying99 rfl (by rw [Dx h];exact OI);have HL:=lh hl;have HV:=lh (LZ s hg W (h.turn T0));clear hl hp h hg;generalize s.row=row at *;go_enter func162,ntmps162;go_upto_region 1 with (fail)
 rw [←hW];clear hW;go_wp2_with (first
  | (refine bQ (o:=⟨some 3,_,_,_,_,_⟩) rfl (dw (p:=.pointer (some ⟨w,0,none⟩)) (v:=.agg ⟨row⟩) rfl rfl HL.o) ?_;try go_frame)
  | (go_at_call 163;refine HV.o.mono ?_;rintro e w1 ⟨rfl,ht⟩))
 go_ret;exact⟨by first | rfl | (simp;done),T0.trans ht⟩
theorem L9(ss:List eF)(hg:∀s∈ss,s.Good)(A:Option Addr)(n cap:Nat)(hn:n≤100)(w:World)(h:mD w A n ss):
  Calls prog 195 #[.slice A n cap,.func (.func 162) #[] #[]] w fun e w'=>e=.returned (.int .i64 (-1))∧bH [] w w':=by
 have hA:∀k,k<n→∃(s:eF) (g o:Nat),A=some ⟨g,o,none⟩∧(∀u,bH [] w u→(Instr.loadAt 99 (.pointer (some ⟨g,o+k*21,none⟩))).run prog u=.ok (.agg ⟨s.row⟩) u)∧
   ∀u,bH [] w u→Calls prog 162 #[.agg ⟨s.row⟩] u fun e w'=>e=.returned (.bool false)∧bH [] u w':=by
  intro k hk;have hkl:k<ss.length:=by rw [←h.1];exact hk
  obtain⟨hs,g,o,e,hr⟩:=h.2 k ss[k] (aB hkl);refine⟨ss[k],g,o,e,fun u t=>?_,fun u t=>Ue ss[k] (hg _ (List.getElem_mem hkl)) u (hs.turn t)⟩;exact run_loadAt_mid (P:=prog) u g (o+k*21) 99 ss[k].row _ (fJ t hr) underlying99 rfl (by rw [Dx hs];exact OI)
 have HA:=lh hA;clear hA h hg;go_enter func195,ntmps195;go_wp2_with fail
 go_loopw [8] (fun s8 wr=>∃k:Nat,k≤n∧s8=k∧bH [] w wr) (fun s8 _=>n - (intOf s8).toNat);case atStart=>exact⟨0,by omega,rfl,bH.refl _ _⟩
 obtain⟨k,hk,rfl,T⟩:=hrel;by_cases hlt:k<n
 ·obtain⟨s,g,o,rfl,hl,hc⟩:=HA.o k hlt;have HL:=lh (hl _ T);have HC:=lh (hc _ T);have HT:=lh T;clear hl hc T;have b0:(0:Int)≤(k:Int):=by omega
  have b1:(k:Int)<(n:Int):=by omega
  generalize s.row=row at *;go_wp2_with (first
   | (refine bQ (o:=⟨some 15,_,_,_,_,_⟩) rfl (dw (p:=.pointer (some ⟨g,o+k*21,none⟩)) (v:=.agg ⟨row⟩) rfl rfl HL.o) ?_;try go_frame)
   | (go_at_call 162;refine HC.o.mono ?_;rintro e w1 ⟨rfl,ht⟩))
  go_roundw;case rel=>exact⟨k+1,by omega,by go_num,HT.o.trans ht⟩
  simp [intOf];omega
 obtain rfl:k=n:=by omega
 have HT:=lh T;clear T;go_wp2_with fail
 go_ret;exact⟨rfl,HT.o⟩
theorem Fh(ss:List eF)(hg:∀s∈ss,s.Good)(A:Option Addr)(n cap:Nat)(hn:n≤100)(w:World)(h:mD w A n ss):
  Calls prog 164 #[.slice A n cap,.func (.func 162) #[] #[]] w fun e w'=>e=.returned (.bool false)∧bH [] w w':=by
 have HI:=lh (L9 ss hg A n cap hn w h);clear h hg;go_enter func164,ntmps164;go_wp2_with (go_at_call 195;refine HI.o.mono ?_;rintro e w1 ⟨rfl,ht⟩)
 go_ret;exact⟨by first | rfl | (simp;done),ht⟩
end Go.Proofs.YtbpklgllihhgpaaGreat
