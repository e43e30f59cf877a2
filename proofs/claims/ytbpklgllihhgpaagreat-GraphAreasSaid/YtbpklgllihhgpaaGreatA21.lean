import Derived.Deep.RegionHeld3
import Derived.Test.YtbpklgllihhgpaaGreatA18
import Derived.Test.YtbpklgllihhgpaaGreatA20
set_option maxRecDepth 100000
set_option maxHeartbeats 16000000
namespace Go.Proofs.YtbpklgllihhgpaaGreat
open Tryz Go.RowKit Go.Den
structure dC where
 x:Int
 y:Int
 px:List Int
def dC.row(t:dC): List Value:=t.x :: t.y :: t.px.map (Value.int .u8)
def dB(w:World)(A:Option Addr)(n:Nat)(ts:List dC): Prop:=n=ts.length∧∀j t,ts[j]?=some t→jo t.px∧∃g o,A=some ⟨g,o,none⟩∧w.rangeAt g (o+j*258) t.row
theorem fJ{w w':World}(T:bH [] w w'){g o:Nat}{l:List Value}(h:w.rangeAt g o l): w'.rangeAt g o l:=by intro j v hv;have:=h j v hv;rw [(bY T).1 _ _ (ai this)];exact this
theorem dB.turn{w w':World}{A:Option Addr}{n:Nat}{ts:List dC}(h:dB w A n ts)(T:bH [] w w'): dB w' A n ts:=by refine⟨h.1,fun j t ht=>?_⟩;obtain⟨h1,g,o,h2,h3⟩:=h.2 j t ht;exact⟨h1,g,o,h2,fJ T h3⟩
theorem dB.get{w:World}{A:Option Addr}{n:Nat}{ts:List dC}(h:dB w A n ts)(h1:1≤n): ∃g o,A=some ⟨g,o,none⟩∧∀w',bH [] w w'→∀j t,ts[j]?=some t→jo t.px∧w'.rangeAt g (o+j*258) t.row:=by
 have hl:0<ts.length:=by have:=h.1;omega
 obtain⟨_,g,o,rfl,_⟩:=h.2 0 ts[0] (by simp [hl]);refine⟨g,o,rfl,fun w' T j t hj=>?_⟩;obtain⟨a,g',o',e,b⟩:=h.2 j t hj;injection e with e;injection e with e1 e2 e3;subst e1;subst e2;exact⟨a,fJ T b⟩
def xB(t:dC): Bool:=decide (-8192≤t.x) && decide (t.x≤8191) && decide (-8192≤t.y) && decide (t.y≤8191)
def QS(a b:dC): Bool:=decide (a.y<b.y) || decide (a.y=b.y) && decide (a.x<b.x)
def kF(t:dC): Bool:=xB t && !oO t.px && vZ (fG t.px) t.px
def nS(ts:List dC)(i:Nat): Bool:=match ts[i]? with
 | some t=>kF t && (match i with | 0=>true | k+1=>(match ts[k]? with | some s=>QS s t | none=>false))
 | none=>false
def eu(ts:List dC): Bool:=decide (ts.length≤1024) && (List.range ts.length).all (nS ts)
set_option linter.unusedSimpArgs false in
theorem BL(x y:Int)(w:World): Calls prog 101 #[.agg #[x,y]] w fun e w'=>e=.returned (.bool (decide (-8192≤x) && decide (x≤8191) && decide (-8192≤y) && decide (y≤8191)))∧bH [] w w':=by
 by_cases h1:-8192≤x
 ·by_cases h2:x≤8191
  ·by_cases h3:-8192≤y
   ·by_cases h4:y≤8191
    ·go_enter func101,ntmps101;(go_wp2_with fail);go_ret;exact⟨by simp [h1,h2,h3,h4],(bH.refl _ _).alloc _⟩
    go_enter func101,ntmps101;(go_wp2_with fail);go_ret;exact⟨by simp;omega,(bH.refl _ _).alloc _⟩
   go_enter func101,ntmps101;(go_wp2_with fail);go_ret;exact⟨by simp;omega,(bH.refl _ _).alloc _⟩
  go_enter func101,ntmps101;go_wp2_with fail
  go_ret;exact⟨by simp;omega,(bH.refl _ _).alloc _⟩
 go_enter func101,ntmps101;go_wp2_with fail
 go_ret;exact⟨by simp;omega,(bH.refl _ _).alloc _⟩
set_option linter.unusedSimpArgs false in
theorem Iy(ax ay bx by':Int)(w:World): Calls prog 155 #[.agg #[ax,ay],.agg #[bx,by']] w fun e w'=>e=.returned (.bool (decide (ay<by') || decide (ay=by') && decide (ax<bx)))∧bH [] w w':=by
 by_cases h1:ay<by'
 ·go_enter func155,ntmps155;go_wp2_with fail
  go_ret;exact⟨by simp [h1],((bH.refl _ _).alloc _).alloc _⟩
 by_cases h2:ay=by'
 ·subst h2;by_cases h3:ax<bx
  ·go_enter func155,ntmps155;(go_wp2_with fail);go_ret;exact⟨by simp [h3],((bH.refl _ _).alloc _).alloc _⟩
  go_enter func155,ntmps155;go_wp2_with fail
  go_ret;exact⟨by simp;omega,((bH.refl _ _).alloc _).alloc _⟩
 go_enter func155,ntmps155;go_wp2_with fail
 go_ret;exact⟨by simp;omega,((bH.refl _ _).alloc _).alloc _⟩
theorem qP{P:Program}{ops:Array Oper}{rest:List Oper}{o:Oper}{a:Act}{w:World}{Q:Exit→Act→World→Prop}(hg:o.guard=none)(t:TypeId)(x:Operand)(ho:o.op=.load t x){p v:Value}
  (hx:a.eval x=p) (hr:(Instr.loadAt t p).run P w=.ok v w) (h:wpList P ops Q rest (a.put o.dst v) w):wpList P ops Q (o :: rest) a w:=by
 refine wpList_plain hg fun K hK=>?_;unfold Oper.wp;simp only [execOp,ho,hx,Sem.run_bind,hr,Result.andThen];exact hK _ _ h
theorem dw{P:Program}{o:Oper}{a:Act}{w:World}{t:TypeId}{x:Operand}{p v:Value}(ho:o.op=.load t x)(hx:a.eval x=p)(hr:(Instr.loadAt t p).run P w=.ok v w): (execOp a.eval o).run P w=.ok (.value v) w:=by simp only [execOp,ho,hx,Sem.run_bind,hr,Result.andThen,Sem.run_pure]
theorem oV:(prog.info? 171).map (fun i=>(i.zero,i.size))=some (some (.agg zeroCells171),258):=by kernel_rfl
structure WI(w:World)(A:Option Addr)(n cap:Nat)(wr:World): Prop where
 t:bH [] w wr
 c:wr.cell? ⟨w,0,none⟩=some (.slice A n cap)
def vU(ts:List dC)(i:Nat): Prop:=nS ts i=true
theorem CZ{ts:List dC}{k:Nat}(hk:k<ts.length)(h:¬vU ts k): eu ts=false:=by unfold eu;rw [List.all_eq_false.2 ⟨k,aX.2 hk,h⟩,Bool.and_false]
theorem Jq{ts:List dC}(h1:ts.length≤1024)(h:∀k,k<ts.length→vU ts k): eu ts=true:=by unfold eu;rw [aZ.2 fun k hk=>h k (aX.1 hk),aC h1];rfl
theorem qi(ts:List dC)(A:Option Addr)(n cap:Nat)(w:World)(h:dB w A n ts):
  Calls prog 100 #[.agg #[.slice A n cap]] w fun e w'=>e=.returned (.bool (eu ts))∧bH [] w w':=by
 have hn:=h.1;by_cases hbig:1024<n
 ·have:eu ts=false:=by unfold eu;rw [ak (by omega)];rfl
  rw [this];have d1:decide (1024<(n:Int))=true:=aC (by omega);clear this hn h;go_enter func100,ntmps100;go_wp2_with fail
  go_ret;exact⟨rfl,(bH.refl _ _).alloc _⟩
 have d1:decide (1024<(n:Int))=false:=ak (by omega);have hA:1≤n→∃g o,A=some ⟨g,o,none⟩∧∀w',bH [] w w'→∀j t,ts[j]?=some t→jo t.px∧w'.rangeAt g (o+j*258) t.row:=fun h1=>h.get h1;have HA:=lh hA;have HN:=lh hn;clear hA hn h;go_enter func100,ntmps100;go_wp2_with fail
 have hz:zeroCells171.size=258:=by kernel_rfl
 have T0:bH [] _ _:=(tR w).alloc (.cells #[.slice A n cap] 87);go_loopw [3] (fun s3 wr=>∃k:Nat,k≤n∧s3=k∧WI w A n cap wr∧∀i,i<k→vU ts i) (fun s3 _=>n - (intOf s3).toNat);case atStart=>
  exact⟨0,by omega,rfl,⟨T0,by simp [go_sem]⟩,fun i hi=>absurd hi (aU i)⟩
 clear T0;obtain⟨k,hk,rfl,hF,hall⟩:=hrel;have HALL:=lh hall;clear hall;by_cases hlt:k<n
 ·obtain⟨g,o,rfl,hA⟩:=HA.o (by omega);have hts:k<ts.length:=by have:=HN.o;omega
  obtain⟨t,ht⟩:∃t,ts[k]?=some t:=⟨ts[k],by simp [hts]⟩;obtain⟨ok,hR⟩:=hA wr hF.t k t ht;have hlen:t.row.length=258:=by simp [dC.row,ok.1]
  have hone:(⟨t.row⟩:Array Value).all (·.oneCell')=true:=all_oneCell_toArray (cs:=t.row) (fun v hv=>by
   rcases aS.1 hv with rfl | hv
   ·rfl
   rcases aS.1 hv with rfl | hv
   ·rfl
   obtain⟨x,_,rfl⟩:=List.mem_map.1 hv;rfl)
  have hc0:=hF.c;have haT:(Instr.alloc 171 true (.tuple #[])).run prog wr=.ok (.pointer (some ⟨wr,0,none⟩)) (wr.alloc (.cells zeroCells171 171)):=by unfold Instr.alloc;rw [Sem.run_bind,(zero_of_info oV).1];rfl
  have hiT:(prog.info? 171).map (·.size)=some t.row.length:=by rw [hlen];exact (zero_of_info oV).2
  have hst:(Instr.storeAt 171 (.pointer (some ⟨wr,0,none⟩)) (.agg ⟨t.row⟩)).run prog (wr.alloc (.cells zeroCells171 171))=.ok () (wr.alloc (.cells ⟨t.row⟩ 171)):=
   run_storeAt_new wr 171 zeroCells171 ⟨t.row⟩ hiT (by rw [hz];exact hlen.symm) hone
  have HF:=lh hF;have HAA:=lh hA;have HT:=lh ht;have b0:(0:Int)≤(k:Int):=by omega
  have b1:(k:Int)<(n:Int):=by omega
  clear hF hA ht hone hlen hz;generalize hrow:t.row=row at *;go_upto_region 7 with (first
   | (refine wpList_load_mid rfl 171 _ rfl _ _ rfl _ _ hR underlying171 rfl hiT ?_)
   | (refine bU rfl 171 _ _ rfl rfl rfl hst ?_))
  have r0:(wr.alloc (.cells ⟨row⟩ 171)).cell? ⟨wr,0,none⟩=some (.int .i64 t.x):=by rw [aA _ _ _ _ 171 (0,0) (heap_alloc_new wr _),←hrow];rfl
  have r1:(wr.alloc (.cells ⟨row⟩ 171)).cell? ⟨wr,1,none⟩=some (.int .i64 t.y):=by rw [aA _ _ _ _ 171 (0,0) (heap_alloc_new wr _),←hrow];rfl
  have r2:(wr.alloc (.cells ⟨row⟩ 171)).rangeAt wr.heap.size 2 (t.px.map (Value.int .u8)):=by intro j v hv;rw [aA _ _ _ _ 171 (0,0) (heap_alloc_new wr _),←hrow,Nat.add_comm 2 j,←hv];show (t.row.toArray)[j+2]?=_;rw [List.getElem?_toArray];rfl
  have hlx:(t.px.map (Value.int .u8)).length=256:=by rw [aJ,ok.1]
  have rc:(wr.alloc (.cells ⟨row⟩ 171)).cell? ⟨w,0,none⟩=some (.slice (some ⟨g,o,none⟩) n cap):=by rw [(bY ((tR wr).alloc _)).1 _ _ (ai hc0)];exact hc0
  have T2:=HF.o.t.alloc (.cells ⟨row⟩ 171);clear hst haT hiT hR hc0;generalize wr.alloc (.cells ⟨row⟩ 171)=W2 at *;generalize wr.heap.size=b at *;have HZe:=lh (GV t.px ok.1);have HCl:=lh (D9 t.px ok.1);have HSa:=lh (Qv (fG t.px) t.px (by simp [fG]) ok.1);have HIn:=lh (BL t.x t.y);have hi66:(prog.info? 66).map (·.size)=some (t.px.map (Value.int .u8)).length:=by rw [hlx,iE]
  have hld:∀w',bH [] W2 w'→(Instr.loadAt 66 (.pointer (some ⟨b,2,none⟩))).run prog w'=.ok (tv t.px) w':=fun w' T=>run_loadAt_mid w' b 2 66 _ _ (fJ T r2) underlying66 rfl hi66;have HL:=lh hld;have HI66:=lh hi66;clear hi66 hlx hld;generalize hz2:oO t.px=z at *;generalize hsm2:vZ (fG t.px) t.px=sm at *;have HZ2:=lh hz2;have HSM:=lh hsm2;clear hz2 hsm2;unfold tv at *;generalize t.px.map (Value.int .u8)=cl at *;generalize (fG t.px).map (Value.int .u8)=cc at *;go_upto_region 8 with (first
   | (refine qP rfl 66 _ rfl rfl (HL.o _ (tR W2)) ?_)
   | (go_at_call 152;refine (HZe.o _).mono ?_;rintro e w1 ⟨rfl,ht1⟩))
  refine cu.start (fun u=>bH [] W2 u) 6 (by kernel_rfl) ?_;have hS:bH [] W2 w1.drew:=ht1.drawn 1;clear ht1;generalize w1.drew=Y at *;refine tk 0 (.pointer (some ⟨b,2,none⟩)) ?_ (hy:=fun w hw=>by go_simp);go_frame;refine tk 1 (.agg ⟨cl⟩) ?_ rfl (hy:=fun w hw=>dw rfl rfl (HL.o w hw));go_frame;refine tk 3 (.pointer (some ⟨b,2,none⟩)) ?_ (hy:=fun w hw=>by go_simp);go_frame;refine tk 4 (.agg ⟨cl⟩) ?_ rfl (hy:=fun w hw=>dw rfl rfl (HL.o w hw));go_frame;refine eH 2 fun K hK=>?_;go_simp;refine (HCl.o _).mono ?_;rintro e w2 ⟨rfl,ht2⟩;refine hK _ _ (fun _=>hS.trans ht2) ?_;clear hK K;try go_frame
  refine eH 5 fun K hK=>?_;go_simp;refine (HSa.o _).mono ?_;rintro e w3 ⟨rfl,ht3⟩;have T3:bH [] W2 w3:=(hS.trans ht2).trans ht3;clear hS ht2 ht3;refine hK _ _ (fun _=>T3) ?_;clear hK K;try go_frame
  refine eH 6 fun K hK=>?_;go_simp;refine hK _ _ (fun _=>T3) ?_;clear hK K;try go_frame
  refine Wy ?_;have c0:∀w',bH [] W2 w'→w'.cell? ⟨b,0,none⟩=some (.int .i64 t.x):=fun w' T=>by rw [(bY T).1 _ _ (ai r0)];exact r0
  have c1:∀w',bH [] W2 w'→w'.cell? ⟨b,1,none⟩=some (.int .i64 t.y):=fun w' T=>by rw [(bY T).1 _ _ (ai r1)];exact r1
  have c2:∀w',bH [] W2 w'→w'.cell? ⟨w,0,none⟩=some (.slice (some ⟨g,o,none⟩) n cap):=fun w' T=>by rw [(bY T).1 _ _ (ai rc)];exact rc
  have hgood:kF t=((decide (-8192≤t.x) && decide (t.x≤8191) && decide (-8192≤t.y) && decide (t.y≤8191)) && !z && sm):=by unfold kF xB;rw [HZ2.o,HSM.o]
  have HG:=lh hgood;have HX:=lh c0;have HY:=lh c1;have HR:=lh c2;clear r0 r1 r2 rc HCl HSa HZe HL HI66 hgood c0 c1 c2;have hno:kF t=false→eu ts=false:=fun h=>CZ hts (by unfold vU nS;rw [HT.o];simp [h]);have HNO:=lh hno;clear hno hts;generalize (decide (-8192≤t.x) && decide (t.x≤8191) && decide (-8192≤t.y) && decide (t.y≤8191))=it at *;generalize hxe:t.x=x at *;generalize hye:t.y=y at *;have HXE:=lh hxe;have HYE:=lh hye;clear hxe hye;go_upto_region 9 with (fail)
  cases k with
  | zero=>
   have hyes:kF t=true→vU ts 0:=fun h=>by unfold vU nS;rw [HT.o];simp [h]
   have HYES:=lh hyes;clear hyes;refine cu.start (fun w'=>bH [] W2 w') 27 (by kernel_rfl) ?_;have hS:=T3.drawn 1;change bH [] W2 w3.drew at hS;generalize w3.drew=Y at *;refine tk 0 (.pointer (some ⟨b,0,none⟩)) ?_;go_frame;refine tk 1 (.agg #[x,y]) ?_ (hy:=fun w' hw=>by have e0:=HX.o _ hw;have e1:=HY.o _ hw;have e2:=HR.o _ hw;go_simp);go_frame;refine eH 2 fun K hK=>?_;go_simp;refine (HIn.o _).mono ?_;rintro e w4 ⟨rfl,ht4⟩;have hS:=hS.trans ht4;clear ht4;refine hK _ _ (fun _=>hS) ?_;clear hK K;(try go_frame);cases it;refine tk 3 (.bool true) ?_;go_frame;refine tk 4 (.bool true) ?_;go_frame;refine je 5 ?_;go_frame;refine tk 6 (.bool true) ?_;go_frame;refine tk 7 (.bool true) ?_;go_frame;refine je 8 ?_;go_frame;refine je 9 ?_;go_frame;refine tk 10 (.bool true) ?_;go_frame;refine tk 11 (.bool true) ?_;go_frame;rotate_left;refine tk 3 (.bool false) ?_;go_frame;refine tk 4 (.bool false) ?_;go_frame;cases z;rotate_left;refine tk 5 (.bool true) ?_;go_frame;refine tk 6 (.bool true) ?_;go_frame;refine tk 7 (.bool true) ?_;go_frame;refine je 8 ?_;go_frame;refine je 9 ?_;go_frame;refine tk 10 (.bool true) ?_;go_frame;refine tk 11 (.bool true) ?_;go_frame;rotate_left;rotate_left;refine tk 5 (.bool false) ?_;go_frame;refine tk 6 (.bool false) ?_;go_frame;refine tk 7 (.bool false) ?_;go_frame;cases sm;refine tk 8 (.bool false) ?_;go_frame;refine tk 9 (.bool true) ?_;go_frame;refine tk 10 (.bool true) ?_;go_frame;refine tk 11 (.bool true) ?_;go_frame;rotate_left;refine tk 8 (.bool true) ?_;go_frame;refine tk 9 (.bool false) ?_;go_frame;refine tk 10 (.bool false) ?_;go_frame;refine tk 11 (.bool false) ?_;go_frame;refine tk 12 ((0:Int)) ?_;go_frame;refine tk 13 (.bool false) ?_;go_frame;refine tk 14 (.bool false) ?_;go_frame
   ·refine je 15 ?_;go_frame;refine je 16 ?_;go_frame;refine je 17 ?_;go_frame;refine je 18 ?_;go_frame;refine je 19 ?_;go_frame;refine je 20 ?_;go_frame;refine je 21 ?_;go_frame;refine je 22 ?_;go_frame;refine je 23 ?_;go_frame;refine je 24 ?_;go_frame;refine je 25 ?_;go_frame;refine tk 26 (.bool false) ?_;go_frame;refine iZ fun K hK=>?_;go_simp;refine hK _ _ ?_;clear hK K;(try go_frame);(go_wp2_with fail);exact⟨⟨1,by omega,by go_num,⟨T2.trans hS,HR.o _ hS⟩,fun i hi=>by
     by_cases h:i<0
     ·exact HALL.o i h
     obtain rfl:i=0:=(by omega);exact HYES.o (by rw [HG.o];rfl)⟩,by simp [intOf];omega⟩
   all_goals
    refine je 12 ?_;go_frame;refine je 13 ?_;go_frame;refine je 14 ?_;go_frame;refine je 15 ?_;go_frame;refine je 16 ?_;go_frame;refine je 17 ?_;go_frame;refine je 18 ?_;go_frame;refine je 19 ?_;go_frame;refine je 20 ?_;go_frame;refine je 21 ?_;go_frame;refine je 22 ?_;go_frame;refine je 23 ?_;go_frame;refine je 24 ?_;go_frame;refine je 25 ?_;go_frame;refine je 26 ?_;go_frame;refine iZ fun K hK=>?_;go_simp;refine hK _ _ ?_;clear hK K;(try go_frame);(go_wp2_with fail);go_ret;exact⟨by rw [HNO.o (by rw [HG.o];rfl)];rfl,T2.trans hS⟩
  | succ m=>
   have hts:m+1<ts.length:=(by have:=HN.o;omega);obtain⟨p,hp⟩:∃p,ts[m]?=some p:=⟨ts[m]'(by omega),aB (by omega)⟩;have hP:∀w',bH [] W2 w'→w'.cell? ⟨g,o+m*258,none⟩=some (.int .i64 p.x):=fun w' T=>by simpa using (HAA.o w' (T2.trans T) m p hp).2 0 _ rfl
   have hQ:∀w',bH [] W2 w'→w'.cell? ⟨g,o+m*258+1,none⟩=some (.int .i64 p.y):=fun w' T=>(HAA.o w' (T2.trans T) m p hp).2 1 _ rfl;have hL:=Iy p.x p.y x y;have hl2:QS p t=(decide (p.y<y) || decide (p.y=y) && decide (p.x<x)):=(by rw [←HXE.o,←HYE.o];rfl);generalize hls:(decide (p.y<y) || decide (p.y=y) && decide (p.x<x))=ls at *;have hyes:kF t=true→ls=true→vU ts (m+1):=fun h h2=>by unfold vU nS;rw [HT.o];simp [h,hp,hl2,h2]
   have hnl:ls=false→eu ts=false:=fun h=>CZ hts (by unfold vU nS;rw [HT.o];simp [hp,hl2,h]);have HYES:=lh hyes;have HNL:=lh hnl;have HP:=lh hP;have HQ:=lh hQ;have HLe:=lh hL;generalize p.x=px at *;generalize p.y=py at *;clear hyes hnl hP hQ hL hl2 hls hp hts;have b2:(0:Int)≤(m:Int):=(by omega);have b3:(m:Int)<(n:Int):=(by omega);have wm:IntKind.i64.wrap (m:Int)=m:=IntWalk.i64_in _ ⟨by omega,by omega⟩;have d2:decide ((0:Int)<((m:Int)+1))=true:=aC (by omega);refine cu.start (fun w'=>bH [] W2 w') 27 (by kernel_rfl) ?_;have hS:=T3.drawn 1;change bH [] W2 w3.drew at hS;generalize w3.drew=Y at *;refine tk 0 (.pointer (some ⟨b,0,none⟩)) ?_;go_frame;refine tk 1 (.agg #[x,y]) ?_ (hy:=fun w' hw=>by have e0:=HX.o _ hw;have e1:=HY.o _ hw;have e2:=HR.o _ hw;go_simp);go_frame;refine eH 2 fun K hK=>?_;go_simp;refine (HIn.o _).mono ?_;rintro e w4 ⟨rfl,ht4⟩;have hS:=hS.trans ht4;clear ht4;refine hK _ _ (fun _=>hS) ?_;clear hK K;(try go_frame);cases it;refine tk 3 (.bool true) ?_;go_frame;refine tk 4 (.bool true) ?_;go_frame;refine je 5 ?_;go_frame;refine tk 6 (.bool true) ?_;go_frame;refine tk 7 (.bool true) ?_;go_frame;refine je 8 ?_;go_frame;refine je 9 ?_;go_frame;refine tk 10 (.bool true) ?_;go_frame;refine tk 11 (.bool true) ?_;go_frame;rotate_left;refine tk 3 (.bool false) ?_;go_frame;refine tk 4 (.bool false) ?_;go_frame;cases z;rotate_left;refine tk 5 (.bool true) ?_;go_frame;refine tk 6 (.bool true) ?_;go_frame;refine tk 7 (.bool true) ?_;go_frame;refine je 8 ?_;go_frame;refine je 9 ?_;go_frame;refine tk 10 (.bool true) ?_;go_frame;refine tk 11 (.bool true) ?_;go_frame;rotate_left;rotate_left;refine tk 5 (.bool false) ?_;go_frame;refine tk 6 (.bool false) ?_;go_frame;refine tk 7 (.bool false) ?_;go_frame;cases sm;refine tk 8 (.bool false) ?_;go_frame;refine tk 9 (.bool true) ?_;go_frame;refine tk 10 (.bool true) ?_;go_frame;refine tk 11 (.bool true) ?_;go_frame;rotate_left;refine tk 8 (.bool true) ?_;go_frame;refine tk 9 (.bool false) ?_;go_frame;refine tk 10 (.bool false) ?_;go_frame;refine tk 11 (.bool false) ?_;go_frame;refine tk 12 (.int .i64 ((m:Int)+1)) ?_;go_frame;refine tk 13 (.bool true) ?_;go_frame;refine tk 14 (.bool true) ?_;go_frame;refine tk 15 (.pointer (some ⟨w,0,none⟩)) ?_;go_frame;refine tk 16 (.slice (some ⟨g,o,none⟩) n cap) ?_ (hy:=fun w' hw=>by have e0:=HX.o _ hw;have e1:=HY.o _ hw;have e2:=HR.o _ hw;go_simp);go_frame;refine tk 17 (.int .i64 ((m:Int)+1)) ?_;go_frame;refine tk 18 ((m:Int)) ?_;go_frame;refine tk 19 (.pointer (some ⟨g,o+m*258,none⟩)) ?_;go_frame;refine tk 20 (.pointer (some ⟨g,o+m*258,none⟩)) ?_;go_frame;refine tk 21 (.agg #[px,py]) ?_ (hy:=fun w' hw=>by have e0:=HP.o _ hw;have e1:=HQ.o _ hw;go_simp);go_frame;refine tk 22 (.pointer (some ⟨b,0,none⟩)) ?_;go_frame;refine tk 23 (.agg #[x,y]) ?_ (hy:=fun w' hw=>by have e0:=HX.o _ hw;have e1:=HY.o _ hw;have e2:=HR.o _ hw;go_simp);go_frame;refine eH 24 fun K hK=>?_;go_simp;refine (HLe.o _).mono ?_;rintro e w5 ⟨rfl,ht5⟩;have hS:=hS.trans ht5;clear ht5;refine hK _ _ (fun _=>hS) ?_;clear hK K;(try go_frame);cases ls
   ·refine tk 25 (.bool true) ?_;go_frame;refine tk 26 (.bool true) ?_;go_frame;refine iZ fun K hK=>?_;go_simp;refine hK _ _ ?_;clear hK K;(try go_frame);(go_wp2_with fail);go_ret;exact⟨by rw [HNL.o (by first | rfl | trivial)];rfl,T2.trans hS⟩
   ·refine tk 25 (.bool false) ?_;go_frame;refine tk 26 (.bool false) ?_;go_frame;refine iZ fun K hK=>?_;go_simp;refine hK _ _ ?_;clear hK K;(try go_frame);(go_wp2_with fail);exact⟨⟨m+2,by omega,by go_num,⟨T2.trans hS,HR.o _ hS⟩,fun i hi=>by
     by_cases h:i<m+1
     ·exact HALL.o i h
     obtain rfl:i=m+1:=(by omega);exact HYES.o (by rw [HG.o];rfl) rfl⟩,by simp [intOf];omega⟩
   all_goals
    refine je 12 ?_;go_frame;refine je 13 ?_;go_frame;refine je 14 ?_;go_frame;refine je 15 ?_;go_frame;refine je 16 ?_;go_frame;refine je 17 ?_;go_frame;refine je 18 ?_;go_frame;refine je 19 ?_;go_frame;refine je 20 ?_;go_frame;refine je 21 ?_;go_frame;refine je 22 ?_;go_frame;refine je 23 ?_;go_frame;refine je 24 ?_;go_frame;refine je 25 ?_;go_frame;refine je 26 ?_;go_frame;refine iZ fun K hK=>?_;go_simp;refine hK _ _ ?_;clear hK K;(try go_frame);(go_wp2_with fail);go_ret;exact⟨by rw [HNO.o (by rw [HG.o];rfl)];rfl,T2.trans hS⟩
 obtain rfl:k=n:=by omega
 have hT:=hF.t;have hc0:=hF.c;go_wp2_with fail
 go_ret;exact⟨by rw [Jq (by have:=HN.o;omega) (fun i hi=>HALL.o i (by have:=HN.o;omega))];rfl,hT⟩
theorem Ls(x y:Int)(w:World): Calls prog 216 #[x,y] w fun e w'=>e=.returned (.int .i64 (if x<y then -1 else if y<x then 1 else 0))∧w'=w:=by
 have H:=lh LD;by_cases h1:x<y
 ·have hd:decide (x<y)=true:=aC h1;rw [aG h1];go_enter func216,ntmps216;go_wp2_with (go_at_call 220;refine (H.o _ _).mono ?_;rintro e w1 ⟨rfl,rfl⟩)
  go_ret;exact⟨rfl,rfl⟩
 have hd:decide (x<y)=false:=ak h1;rw [aF h1];by_cases h2:y<x
 ·have hd2:decide (y<x)=true:=aC h2;rw [aG h2];go_enter func216,ntmps216;go_wp2_with (go_at_call 220;refine (H.o _ _).mono ?_;rintro e w1 ⟨rfl,rfl⟩)
  go_ret;exact⟨rfl,rfl⟩
 have hd2:decide (y<x)=false:=ak h2;rw [aF h2];go_enter func216,ntmps216;go_wp2_with (go_at_call 220;refine (H.o _ _).mono ?_;rintro e w1 ⟨rfl,rfl⟩)
 go_ret;exact⟨rfl,rfl⟩
theorem Vg(c d:Int)(g:Nat)(w:World)(h0:w.cell? ⟨g,0,none⟩=some (.int .i64 c))(h1:w.cell? ⟨g,1,none⟩=some (.int .i64 d)):
  Calls prog 215 #[.slice (some ⟨g,0,none⟩) 2 2] w fun e w'=>e=.returned (.int .i64 (if c=0 then d else c))∧w'=w:=by
 go_enter func215,ntmps215;go_wp2_with fail
 go_loop [8] (fun s8=>∃k:Nat,k≤2∧s8=k∧(1≤k→c=0)∧(2≤k→d=0)) (fun s8=>2 - (intOf s8).toNat);case atStart=>exact⟨0,by omega,rfl,fun h=>by omega,fun h=>by omega⟩
 obtain⟨k,hk,rfl,hc,hd⟩:=hrel;have h3:k=0∨k=1∨k=2:=by omega
 rcases h3 with rfl | rfl | rfl
 ·by_cases hz:c=0
  ·subst hz;clear hc hd hk;(go_wp2_with fail);go_round;case rel=>exact⟨1,by omega,by go_num,fun _=>by first | rfl | trivial,fun h=>by omega⟩
   simp [intOf]
  clear hc hd hk;go_wp2_with fail
  go_ret;exact⟨by first | rfl | (rw [aF hz];rfl),rfl⟩
 ·have hz:=hc (by omega);subst hz;by_cases hz:d=0
  ·subst hz;clear hc hd hk;(go_wp2_with fail);go_round;case rel=>exact⟨2,by omega,by go_num,fun _=>by first | rfl | trivial,fun _=>by first | rfl | trivial⟩
   simp [intOf]
  clear hc hd hk;go_wp2_with fail
  go_ret;exact⟨by simp,rfl⟩
 have hz:=hc (by omega);have hz2:=hd (by omega);subst hz hz2;clear hc hd hk;go_wp2_with fail
 go_ret;exact⟨by simp,rfl⟩
theorem J7(c d:Int)(u:World)(g:Nat)(hg:g=u.heap.size):
  Calls prog 215 #[.slice (some ⟨g,0,none⟩) 2 2] (u.alloc (.cells #[c,d] 3)) fun e w'=>e=.returned (.int .i64 (if c=0 then d else c))∧w'=u.alloc (.cells #[c,d] 3):=by
 subst hg;exact Vg c d _ _ (by simp [go_sem]) (by simp [go_sem])
theorem Kw(ax ay bx by':Int)(h:(decide (ay<by') || decide (ay=by') && decide (ax<bx))=true)(w:World):
  Calls prog 206 #[.agg #[ax,ay],.agg #[bx,by']] w fun e w'=>e=.returned (.int .i64 (-1))∧bH [] w w':=by
 have h1:=Ls ay by';have h2:=Ls ax bx;have hr:(if (if ay<by' then (-1:Int) else if by'<ay then 1 else 0)=0 then (if ax<bx then (-1:Int) else if bx<ax then 1 else 0) else (if ay<by' then (-1:Int) else if by'<ay then 1 else 0))=-1:=by
  by_cases a:ay<by'
  ·simp [a]
  simp [a]at h;obtain⟨rfl,b⟩:=h;simp [b]
 generalize (if ay<by' then (-1:Int) else if by'<ay then 1 else 0)=c at *;generalize (if ax<bx then (-1:Int) else if bx<ax then 1 else 0)=d at *;have ho:=fun u g hg=>J7 c d u g hg;rw [hr]at ho;have H1:=lh h1;have H2:=lh h2;have HO:=lh ho;clear h1 h2 ho hr h;have T0:=((tR w).alloc (.cells #[ax,ay] 133)).alloc (.cells #[bx,by'] 133);have c0:((w.alloc (.cells #[ax,ay] 133)).alloc (.cells #[bx,by'] 133)).cell? ⟨w,0,none⟩=some (.int .i64 ax):=by simp [go_sem]
 have c1:((w.alloc (.cells #[ax,ay] 133)).alloc (.cells #[bx,by'] 133)).cell? ⟨w,1,none⟩=some (.int .i64 ay):=by simp [go_sem]
 have c2:((w.alloc (.cells #[ax,ay] 133)).alloc (.cells #[bx,by'] 133)).cell? ⟨w.heap.size+1,0,none⟩=some (.int .i64 bx):=by simp [go_sem]
 have c3:((w.alloc (.cells #[ax,ay] 133)).alloc (.cells #[bx,by'] 133)).cell? ⟨w.heap.size+1,1,none⟩=some (.int .i64 by'):=by simp [go_sem]
 go_enter func206,ntmps206;go_wp2_with fail
 generalize (w.alloc (.cells #[ax,ay] 133)).alloc (.cells #[bx,by'] 133)=W at *;have C0:Hid (∀w',bH [] W w'→w'.cell? ⟨w,0,none⟩=some (.int .i64 ax)):=lh fun w' T=>by rw [(bY T).1 _ _ (ai c0)];exact c0
 have C1:Hid (∀w',bH [] W w'→w'.cell? ⟨w,1,none⟩=some (.int .i64 ay)):=lh fun w' T=>by rw [(bY T).1 _ _ (ai c1)];exact c1
 have C2:Hid (∀w',bH [] W w'→w'.cell? ⟨w.heap.size+1,0,none⟩=some (.int .i64 bx)):=lh fun w' T=>by rw [(bY T).1 _ _ (ai c2)];exact c2
 have C3:Hid (∀w',bH [] W w'→w'.cell? ⟨w.heap.size+1,1,none⟩=some (.int .i64 by')):=lh fun w' T=>by rw [(bY T).1 _ _ (ai c3)];exact c3
 clear c0 c1 c2 c3;refine cu.start (fun w'=>bH [] W w') 12 (by kernel_rfl) ?_;have hS:=(tR W).drawn 1;change bH [] W W.drew at hS;generalize W.drew=Y at *;refine tk 0 (.pointer (some ⟨w,1,none⟩)) ?_;go_frame;refine tk 1 ay ?_ (hy:=fun w' hw=>by have e0:=C0.out _ hw;have e1:=C1.out _ hw;have e2:=C2.out _ hw;have e3:=C3.out _ hw;go_simp);go_frame;refine tk 2 (.pointer (some ⟨w.heap.size+1,1,none⟩)) ?_;go_frame;refine tk 3 by' ?_ (hy:=fun w' hw=>by have e0:=C0.out _ hw;have e1:=C1.out _ hw;have e2:=C2.out _ hw;have e3:=C3.out _ hw;go_simp);go_frame;refine tk 5 (.pointer (some ⟨w,0,none⟩)) ?_;go_frame;refine tk 6 ax ?_ (hy:=fun w' hw=>by have e0:=C0.out _ hw;have e1:=C1.out _ hw;have e2:=C2.out _ hw;have e3:=C3.out _ hw;go_simp);go_frame;refine tk 7 (.pointer (some ⟨w.heap.size+1,0,none⟩)) ?_;go_frame;refine tk 8 bx ?_ (hy:=fun w' hw=>by have e0:=C0.out _ hw;have e1:=C1.out _ hw;have e2:=C2.out _ hw;have e3:=C3.out _ hw;go_simp);go_frame;refine eH 4 fun K hK=>?_;go_simp;refine (H1.o _).mono ?_;rintro e w1 ⟨rfl,rfl⟩;refine hK _ _ (fun _=>hS) ?_;clear hK K;try go_frame
 refine eH 9 fun K hK=>?_;go_simp;refine (H2.o _).mono ?_;rintro e w1 ⟨rfl,rfl⟩;refine hK _ _ (fun _=>hS) ?_;clear hK K;try go_frame
 refine eH 10 fun K hK=>?_;go_simp;refine hK _ _ (fun _=>hS.alloc _) ?_;clear hK K;try go_frame
 refine eH 11 fun K hK=>?_;go_simp;refine (HO.o _ _ rfl).mono ?_;rintro e w1 ⟨rfl,rfl⟩;refine hK _ _ (fun _=>hS.alloc _) ?_;clear hK K;try go_frame
 refine iZ fun K hK=>?_;go_simp;refine hK _ _ ?_;clear hK K;try go_frame
 go_wp2_with fail
 go_ret;exact⟨rfl,T0.trans (hS.alloc _)⟩
set_option linter.unusedSimpArgs false in
theorem Gt(x y:Int)(h1:-8192≤x)(h2:x≤8191)(h3:-8192≤y)(h4:y≤8191)(w:World): Calls prog 205 #[.agg #[x,y]] w fun e w'=>e=.returned (.bool true)∧bH [] w w':=by
 go_enter func205,ntmps205;go_wp2_with fail
 go_ret;exact⟨by simp [h1,h2,h3,h4],(bH.refl _ _).alloc _⟩
theorem rU(ts:List dC)(hb:eu ts=true)(A:Option Addr)(n cap:Nat)(w:World)(h:dB w A n ts):
  Calls prog 186 #[.agg #[.slice A n cap]] w fun e w'=>e=.returned (.bool true)∧bH [] w w':=by
 have hn:=h.1;unfold eu at hb;rw [az]at hb;have hlen:=of_decide_eq_true hb.1;have hall:=aZ.1 hb.2;have hbig:¬1024<n:=by omega
 have d1:decide (1024<(n:Int))=false:=ak (by omega);have hA:1≤n→∃g o,A=some ⟨g,o,none⟩∧∀w',bH [] w w'→∀j t,ts[j]?=some t→jo t.px∧w'.rangeAt g (o+j*258) t.row:=fun h1=>h.get h1;have HALL:Hid (∀k,k<ts.length→nS ts k=true):=lh fun k hk=>hall k (aX.2 hk);have HA:=lh hA;have HN:=lh hn;clear hA hn h hall hb hlen;have T0:bH [] _ _:=(tR w).alloc (.cells #[.slice A n cap] 87);go_enter func186,ntmps186;go_wp2_with fail
 go_loopw [12] (fun s12 wr=>∃k:Nat,k≤n∧s12=k∧bH [] w wr∧wr.cell? ⟨w,0,none⟩=some (.slice A n cap)) (fun s12 _=>n - (intOf s12).toNat);case atStart=>exact⟨0,by omega,rfl,T0,by simp [go_sem]⟩
 clear T0;obtain⟨k,hk,rfl,hFt,hFc⟩:=hrel;by_cases hlt:k<n
 ·obtain⟨g,o,rfl,hA⟩:=HA.o (by omega);have hts:k<ts.length:=by have:=HN.o;omega
  obtain⟨t,ht⟩:∃t,ts[k]?=some t:=⟨ts[k],by simp [hts]⟩;have hok:=HALL.o k hts;have HOK:=lh hok;have hgood:kF t=true:=by unfold nS at hok;rw [ht]at hok;simp only [az]at hok;exact hok.1
  clear hok;unfold kF at hgood;simp only [az,Bool.not_eq_true']at hgood;obtain⟨⟨hin,hzero⟩,hclean⟩:=hgood;obtain⟨ok,hR⟩:=hA wr hFt k t ht;have hcl:fG t.px=t.px:=(Md (by simp [fG]) ok.1).1 hclean;have hlen:t.row.length=258:=by simp [dC.row,ok.1]
  have hone:(⟨t.row⟩:Array Value).all (·.oneCell')=true:=all_oneCell_toArray (cs:=t.row) (fun v hv=>by
   rcases aS.1 hv with rfl | hv
   ·rfl
   rcases aS.1 hv with rfl | hv
   ·rfl
   obtain⟨x,_,rfl⟩:=List.mem_map.1 hv;rfl)
  have hc0:=hFc;have haT:(Instr.alloc 171 true (.tuple #[])).run prog wr=.ok (.pointer (some ⟨wr,0,none⟩)) (wr.alloc (.cells zeroCells171 171)):=by unfold Instr.alloc;rw [Sem.run_bind,(zero_of_info oV).1];rfl
  have hiT:(prog.info? 171).map (·.size)=some t.row.length:=by rw [hlen];exact (zero_of_info oV).2
  have hst:(Instr.storeAt 171 (.pointer (some ⟨wr,0,none⟩)) (.agg ⟨t.row⟩)).run prog (wr.alloc (.cells zeroCells171 171))=.ok () (wr.alloc (.cells ⟨t.row⟩ 171)):=
   run_storeAt_new wr 171 zeroCells171 ⟨t.row⟩ hiT (by rw [show zeroCells171.size=258 by kernel_rfl];exact hlen.symm) hone
  have HF:=lh hFt;have HAA:=lh hA;have HT:=lh ht;have b0:(0:Int)≤(k:Int):=by omega
  have b1:(k:Int)<(n:Int):=by omega
  clear hA ht hone hlen;generalize hrow:t.row=row at *;go_upto_region 6 with (first
   | (refine wpList_load_mid rfl 171 _ rfl _ _ rfl _ _ hR underlying171 rfl hiT ?_)
   | (refine bU rfl 171 _ _ rfl rfl rfl hst ?_))
  have r0:(wr.alloc (.cells ⟨row⟩ 171)).cell? ⟨wr,0,none⟩=some (.int .i64 t.x):=by rw [aA _ _ _ _ 171 (0,0) (heap_alloc_new wr _),←hrow];rfl
  have r1:(wr.alloc (.cells ⟨row⟩ 171)).cell? ⟨wr,1,none⟩=some (.int .i64 t.y):=by rw [aA _ _ _ _ 171 (0,0) (heap_alloc_new wr _),←hrow];rfl
  have r2:(wr.alloc (.cells ⟨row⟩ 171)).rangeAt wr.heap.size 2 (t.px.map (Value.int .u8)):=by intro j v hv;rw [aA _ _ _ _ 171 (0,0) (heap_alloc_new wr _),←hrow,Nat.add_comm 2 j,←hv];show (t.row.toArray)[j+2]?=_;rw [List.getElem?_toArray];rfl
  have hlx:(t.px.map (Value.int .u8)).length=256:=by rw [aJ,ok.1]
  have rc:(wr.alloc (.cells ⟨row⟩ 171)).cell? ⟨w,0,none⟩=some (.slice (some ⟨g,o,none⟩) n cap):=by rw [(bY ((tR wr).alloc _)).1 _ _ (ai hc0)];exact hc0
  have T2:=HF.o.alloc (.cells ⟨row⟩ 171);clear hst haT hiT hR hc0;generalize wr.alloc (.cells ⟨row⟩ 171)=W2 at *;generalize wr.heap.size=b at *;have hze:=DZ t.px ok;rw [hzero]at hze;have hclc:=BV t.px ok.1;rw [hcl]at hclc;unfold xB at hin;simp only [az,decide_eq_true_eq]at hin;have hInn:=Gt t.x t.y hin.1.1.1 hin.1.1.2 hin.1.2 hin.2;have hne:∀w,(binOp .neq 66 (tv t.px) (tv t.px)).run prog w=.ok (.bool false) w:=fun w=>by have:=GZ ok ok w;unfold tv at this ⊢;simp [binOp,Op.equal,show Op.maxDepth=10000 from rfl,this,Result.andThen]
  have HZe:=lh hze;have HCl:=lh hclc;have HIn:=lh hInn;have HNE:=lh hne;have hi66:(prog.info? 66).map (·.size)=some (t.px.map (Value.int .u8)).length:=by rw [hlx,iE]
  have hld:∀w',bH [] W2 w'→(Instr.loadAt 66 (.pointer (some ⟨b,2,none⟩))).run prog w'=.ok (tv t.px) w':=fun w' T=>run_loadAt_mid w' b 2 66 _ _ (fJ T r2) underlying66 rfl hi66;have HL:=lh hld;clear hi66 hlx hld hze hclc hInn hne hzero hclean hcl hin;unfold tv at *;have c0:∀w',bH [] W2 w'→w'.cell? ⟨b,0,none⟩=some (.int .i64 t.x):=fun w' T=>by rw [(bY T).1 _ _ (ai r0)];exact r0
  have c1:∀w',bH [] W2 w'→w'.cell? ⟨b,1,none⟩=some (.int .i64 t.y):=fun w' T=>by rw [(bY T).1 _ _ (ai r1)];exact r1
  have c2:∀w',bH [] W2 w'→w'.cell? ⟨w,0,none⟩=some (.slice (some ⟨g,o,none⟩) n cap):=fun w' T=>by rw [(bY T).1 _ _ (ai rc)];exact rc
  have HX:=lh c0;have HY:=lh c1;have HR:=lh c2;clear r0 r1 r2 rc c0 c1 c2;generalize t.px.map (Value.int .u8)=cl at *;generalize hxe:t.x=x at *;generalize hye:t.y=y at *;have HXE:=lh hxe;have HYE:=lh hye;clear hxe hye hFc hFt;cases k with
  | zero=>
   refine cu.start (fun w'=>bH [] W2 w') 33 (by kernel_rfl) ?_;have hS:=(tR W2).drawn 1;change bH [] W2 W2.drew at hS;generalize W2.drew=Y at *;refine tk 0 (.pointer (some ⟨b,0,none⟩)) ?_;go_frame;refine tk 1 (.agg #[x,y]) ?_ (hy:=fun w' hw=>by have e0:=HX.o _ hw;have e1:=HY.o _ hw;have e2:=HR.o _ hw;go_simp);go_frame;refine eH 2 fun K hK=>?_;go_simp;refine (HIn.o _).mono ?_;rintro e w3 ⟨rfl,hw3⟩;have hS:=hS.trans hw3;clear hw3;refine hK _ _ (fun _=>hS) ?_;clear hK K;(try go_frame);refine tk 3 (.bool false) ?_;go_frame;refine tk 4 (.bool false) ?_;go_frame;refine tk 5 (.pointer (some ⟨b,2,none⟩)) ?_;go_frame;refine tk 6 (.agg ⟨cl⟩) ?_ rfl (hy:=fun w' hw=>dw rfl rfl (HL.o w' hw));go_frame;refine eH 7 fun K hK=>?_;go_simp;refine (HZe.o _).mono ?_;rintro e w4 ⟨rfl,hw4⟩;have hS:=hS.trans hw4;clear hw4;refine hK _ _ (fun _=>hS) ?_;clear hK K;(try go_frame);refine tk 8 (.bool false) ?_;go_frame;refine tk 9 (.bool false) ?_;go_frame;refine tk 10 (.pointer (some ⟨b,2,none⟩)) ?_;go_frame;refine tk 11 (.agg ⟨cl⟩) ?_ rfl (hy:=fun w' hw=>dw rfl rfl (HL.o w' hw));go_frame;refine tk 13 (.pointer (some ⟨b,2,none⟩)) ?_;go_frame;refine tk 14 (.agg ⟨cl⟩) ?_ rfl (hy:=fun w' hw=>dw rfl rfl (HL.o w' hw));go_frame;refine eH 12 fun K hK=>?_;go_simp;refine (HCl.o _).mono ?_;rintro e w5 ⟨rfl,hw5⟩;have hS:=hS.trans hw5;clear hw5;refine hK _ _ (fun _=>hS) ?_;clear hK K;(try go_frame);refine tk 15 (.bool false) ?_ (hy:=fun w' hw=>by have e0:=HNE.o;go_simp);go_frame;refine tk 16 (.bool false) ?_;go_frame;refine tk 17 (.bool false) ?_;go_frame;refine tk 18 ((0:Int)) ?_;go_frame;refine tk 19 (.bool false) ?_;go_frame;refine tk 20 (.bool false) ?_;go_frame;refine je 21 ?_;go_frame;refine je 22 ?_;go_frame;refine je 23 ?_;go_frame;refine je 24 ?_;go_frame;refine je 25 ?_;go_frame;refine je 26 ?_;go_frame;refine je 27 ?_;go_frame;refine je 28 ?_;go_frame;refine je 29 ?_;go_frame;refine je 30 ?_;go_frame;refine je 31 ?_;go_frame;refine tk 32 (.bool false) ?_;go_frame;refine iZ fun K hK=>?_;go_simp;refine hK _ _ ?_;clear hK K;(try go_frame);(go_wp2_with fail);exact⟨⟨1,by omega,by go_num,T2.trans hS,HR.o _ hS⟩,by simp [intOf];omega⟩
  | succ m=>
   obtain⟨p,hp⟩:∃p,ts[m]?=some p:=⟨ts[m]'(by omega),aB (by omega)⟩;have hP:∀w',bH [] W2 w'→w'.cell? ⟨g,o+m*258,none⟩=some (.int .i64 p.x):=fun w' T=>by simpa using (HAA.o w' (T2.trans T) m p hp).2 0 _ rfl
   have hQ:∀w',bH [] W2 w'→w'.cell? ⟨g,o+m*258+1,none⟩=some (.int .i64 p.y):=fun w' T=>(HAA.o w' (T2.trans T) m p hp).2 1 _ rfl;have hl2:QS p t=true:=(by have:=HOK.o;unfold nS at this;rw [HT.o]at this;simp only [az,hp]at this;exact this.2);have hL:=Kw p.x p.y x y (by rw [←HXE.o,←HYE.o];exact hl2);have HP:=lh hP;have HQ:=lh hQ;have HLe:=lh hL;generalize p.x=px at *;generalize p.y=py at *;clear hP hQ hL hl2 hp;have b2:(0:Int)≤(m:Int):=(by omega);have b3:(m:Int)<(n:Int):=(by omega);have wm:IntKind.i64.wrap (m:Int)=m:=IntWalk.i64_in _ ⟨by omega,by omega⟩;have d2:decide ((0:Int)<((m:Int)+1))=true:=aC (by omega);refine cu.start (fun w'=>bH [] W2 w') 33 (by kernel_rfl) ?_;have hS:=(tR W2).drawn 1;change bH [] W2 W2.drew at hS;generalize W2.drew=Y at *;refine tk 0 (.pointer (some ⟨b,0,none⟩)) ?_;go_frame;refine tk 1 (.agg #[x,y]) ?_ (hy:=fun w' hw=>by have e0:=HX.o _ hw;have e1:=HY.o _ hw;have e2:=HR.o _ hw;go_simp);go_frame;refine eH 2 fun K hK=>?_;go_simp;refine (HIn.o _).mono ?_;rintro e w3 ⟨rfl,hw3⟩;have hS:=hS.trans hw3;clear hw3;refine hK _ _ (fun _=>hS) ?_;clear hK K;(try go_frame);refine tk 3 (.bool false) ?_;go_frame;refine tk 4 (.bool false) ?_;go_frame;refine tk 5 (.pointer (some ⟨b,2,none⟩)) ?_;go_frame;refine tk 6 (.agg ⟨cl⟩) ?_ rfl (hy:=fun w' hw=>dw rfl rfl (HL.o w' hw));go_frame;refine eH 7 fun K hK=>?_;go_simp;refine (HZe.o _).mono ?_;rintro e w4 ⟨rfl,hw4⟩;have hS:=hS.trans hw4;clear hw4;refine hK _ _ (fun _=>hS) ?_;clear hK K;(try go_frame);refine tk 8 (.bool false) ?_;go_frame;refine tk 9 (.bool false) ?_;go_frame;refine tk 10 (.pointer (some ⟨b,2,none⟩)) ?_;go_frame;refine tk 11 (.agg ⟨cl⟩) ?_ rfl (hy:=fun w' hw=>dw rfl rfl (HL.o w' hw));go_frame;refine tk 13 (.pointer (some ⟨b,2,none⟩)) ?_;go_frame;refine tk 14 (.agg ⟨cl⟩) ?_ rfl (hy:=fun w' hw=>dw rfl rfl (HL.o w' hw));go_frame;refine eH 12 fun K hK=>?_;go_simp;refine (HCl.o _).mono ?_;rintro e w5 ⟨rfl,hw5⟩;have hS:=hS.trans hw5;clear hw5;refine hK _ _ (fun _=>hS) ?_;clear hK K;(try go_frame);refine tk 15 (.bool false) ?_ (hy:=fun w' hw=>by have e0:=HNE.o;go_simp);go_frame;refine tk 16 (.bool false) ?_;go_frame;refine tk 17 (.bool false) ?_;go_frame;refine tk 18 (.int .i64 ((m:Int)+1)) ?_;go_frame;refine tk 19 (.bool true) ?_;go_frame;refine tk 20 (.bool true) ?_;go_frame;refine tk 21 (.pointer (some ⟨w,0,none⟩)) ?_;go_frame;refine tk 22 (.slice (some ⟨g,o,none⟩) n cap) ?_ (hy:=fun w' hw=>by have e0:=HX.o _ hw;have e1:=HY.o _ hw;have e2:=HR.o _ hw;go_simp);go_frame;refine tk 23 (.int .i64 ((m:Int)+1)) ?_;go_frame;refine tk 24 ((m:Int)) ?_;go_frame;refine tk 25 (.pointer (some ⟨g,o+m*258,none⟩)) ?_;go_frame;refine tk 26 (.pointer (some ⟨g,o+m*258,none⟩)) ?_;go_frame;refine tk 27 (.agg #[px,py]) ?_ (hy:=fun w' hw=>by have e0:=HP.o _ hw;have e1:=HQ.o _ hw;go_simp);go_frame;refine tk 28 (.pointer (some ⟨b,0,none⟩)) ?_;go_frame;refine tk 29 (.agg #[x,y]) ?_ (hy:=fun w' hw=>by have e0:=HX.o _ hw;have e1:=HY.o _ hw;have e2:=HR.o _ hw;go_simp);go_frame;refine eH 30 fun K hK=>?_;go_simp;refine (HLe.o _).mono ?_;rintro e w6 ⟨rfl,hw6⟩;have hS:=hS.trans hw6;clear hw6;refine hK _ _ (fun _=>hS) ?_;clear hK K;(try go_frame);refine tk 31 (.bool false) ?_;go_frame;refine tk 32 (.bool false) ?_;go_frame;refine iZ fun K hK=>?_;go_simp;refine hK _ _ ?_;clear hK K;(try go_frame);(go_wp2_with fail);exact⟨⟨m+2,by omega,by go_num,T2.trans hS,HR.o _ hS⟩,by simp [intOf];omega⟩
 obtain rfl:k=n:=by omega
 go_wp2_with fail
 go_ret;exact⟨rfl,hFt⟩
structure bI where
 id:Int
 kind:Int
 name:ByteArray
 hidden:Bool
 Xl:Int
 mode:Int
 clip:Bool
 place:Af
 space:Int
 Xi:Option Addr
 Xh:Nat
 Xj:Nat
 kids:List Int
 of:Int
 Xg:Fv
 ks:List Int
 cs:List Int
 f0:Int
 f1:Int
 f2:Int
 f3:Int
 pA:Option Addr
 pn:Nat
 pc:Nat
 pts:List (Int×Int)
 tA:Option Addr
 tn:Nat
 tc:Nat
 Xm:List dC
 Xt:Bool
 mA:Option Addr
 mn:Nat
 mc:Nat
 mask:List dC
def bI.row(l:bI): List Value:=
 [l.id,l.kind,.string l.name,.bool l.hidden,l.Xl,l.mode,.bool l.clip,
  l.place.a,l.place.b,l.place.c,l.place.d,l.place.e,l.place.f,l.place.den,
  l.space,.slice l.Xi l.Xh l.Xj,l.of,
  l.Xg.kind,l.Xg.Xf,.slice l.Xg.kA l.Xg.kn l.Xg.kc,l.Xg.div,l.Xg.value,.slice l.Xg.cA l.Xg.cn l.Xg.cc,
  .int .u8 l.f0,.int .u8 l.f1,.int .u8 l.f2,.int .u8 l.f3,.slice l.pA l.pn l.pc,.slice l.tA l.tn l.tc,.bool l.Xt,.slice l.mA l.mn l.mc]
def bI.v(l:bI): Value:=.agg ⟨l.row⟩
structure bI.At(l:bI)(w:World): Prop where
 kids:dn w l.Xi l.Xh l.kids
 ks:dn w l.Xg.kA l.Xg.kn l.ks
 cs:dn w l.Xg.cA l.Xg.cn l.cs
 pts:iL w l.pA l.pn l.pts
 Xm:dB w l.tA l.tn l.Xm
 mask:dB w l.mA l.mn l.mask
 Xk:l.Xh≤50
theorem bI.At.turn{l:bI}{w w':World}(h:l.At w)(T:bH [] w w'): l.At w':=
 ⟨h.kids.turn T,h.ks.turn T,h.cs.turn T,h.pts.turn T,h.Xm.turn T,h.mask.turn T,h.Xk⟩
def kG(w:World)(A:Option Addr)(n:Nat)(ls:List bI): Prop:=n=ls.length∧∀j l,ls[j]?=some l→l.At w∧∃g o,A=some ⟨g,o,none⟩∧w.rangeAt g (o+j*31) l.row
theorem kG.turn{w w':World}{A:Option Addr}{n:Nat}{ls:List bI}(h:kG w A n ls)(T:bH [] w w'): kG w' A n ls:=by refine⟨h.1,fun j l hl=>?_⟩;obtain⟨h1,g,o,h2,h3⟩:=h.2 j l hl;exact⟨h1.turn T,g,o,h2,fJ T h3⟩
structure eF where
 a0:Option Addr
 n0:Nat
 c0:Nat
 l0:List Int
 a1:Option Addr
 n1:Nat
 c1:Nat
 l1:List Int
 a2:Option Addr
 n2:Nat
 c2:Nat
 l2:List Int
 mTo:List Int
 mFr:List Int
def eF.row(s:eF): List Value:=.slice s.a0 s.n0 s.c0 :: .slice s.a1 s.n1 s.c1 :: .slice s.a2 s.n2 s.c2 :: (s.mTo.map (Value.int .i64) ++ s.mFr.map (Value.int .i64))
structure eF.At(s:eF)(w:World): Prop where
 h1:s.mTo.length=9
 h2:s.mFr.length=9
 l0:dn w s.a0 s.n0 s.l0
 l1:dn w s.a1 s.n1 s.l1
 l2:dn w s.a2 s.n2 s.l2
theorem eF.At.turn{s:eF}{w w':World}(h:s.At w)(T:bH [] w w'): s.At w':=⟨h.h1,h.h2,h.l0.turn T,h.l1.turn T,h.l2.turn T⟩
def mD(w:World)(A:Option Addr)(n:Nat)(ss:List eF): Prop:=n=ss.length∧∀j s,ss[j]?=some s→s.At w∧∃g o,A=some ⟨g,o,none⟩∧w.rangeAt g (o+j*21) s.row
theorem mD.turn{w w':World}{A:Option Addr}{n:Nat}{ss:List eF}(h:mD w A n ss)(T:bH [] w w'): mD w' A n ss:=by refine⟨h.1,fun j l hl=>?_⟩;obtain⟨h1,g,o,h2,h3⟩:=h.2 j l hl;exact⟨h1.turn T,g,o,h2,fJ T h3⟩
structure df where
 sA:Option Addr
 sn:Nat
 sc:Nat
 spaces:List eF
 root:Int
 next:Int
 lA:Option Addr
 ln:Nat
 lc:Nat
 layers:List bI
def df.v(d:df): Value:=.agg #[.slice d.sA d.sn d.sc,d.root,d.next,.slice d.lA d.ln d.lc]
structure df.At(d:df)(w:World): Prop where
 spaces:mD w d.sA d.sn d.spaces
 layers:kG w d.lA d.ln d.layers
 small:d.ln≤50
theorem df.At.turn{d:df}{w w':World}(h:d.At w)(T:bH [] w w'): d.At w':=⟨h.spaces.turn T,h.layers.turn T,h.small⟩
theorem kG.cell{w:World}{A:Option Addr}{n:Nat}{ls:List bI}(h:kG w A n ls)(h1:1≤n): ∃g o,A=some ⟨g,o,none⟩∧∀w',bH [] w w'→∀j l,ls[j]?=some l→l.At w'∧w'.rangeAt g (o+j*31) l.row:=by
 have hl:0<ls.length:=by have:=h.1;omega
 obtain⟨_,g,o,rfl,_⟩:=h.2 0 ls[0] (by simp [hl]);refine⟨g,o,rfl,fun w' T j l hj=>?_⟩;obtain⟨a,g',o',e,b⟩:=h.2 j l hj;injection e with e;injection e with e1 e2 e3;subst e1;subst e2;exact⟨a.turn T,fJ T b⟩
def mW(ids:List Int)(id:Int): Option Nat:=ids.findIdx? (· == id)
def sQ(ids:List Int)(id:Int): Int:=match mW ids id with | some i=>i | none=>-1
def df.ids(d:df): List Int:=d.layers.map (·.id)
theorem vS{ids:List Int}{id:Int}{k:Nat}(hk:ids[k]?=some id)(hb:∀i,i<k→ids[i]?≠some id): mW ids id=some k:=by unfold mW;obtain⟨h1,h2⟩:=ah.1 hk;rw [bi];refine⟨h1,by simp [h2],fun j hj=>?_⟩;have:=hb j hj;rw [aB (by omega)]at this;simpa using this
theorem Bg{ids:List Int}{id:Int}(hb:∀i,i<ids.length→ids[i]?≠some id): mW ids id=none:=by unfold mW;rw [List.findIdx?_eq_none_iff];intro x hx;obtain⟨i,hi⟩:=bu.1 hx;have h1:=(ah.1 hi).1;have:=hb i h1;rw [hi]at this;simpa using this
theorem df.ids_cell{d:df}{w:World}(h:d.At w)(h1:1≤d.ln): ∃g o,d.lA=some ⟨g,o,none⟩∧∀k,k<d.ln→∃z,d.ids[k]?=some z∧∀w',bH [] w w'→w'.cell? ⟨g,o+k*31,none⟩=some (.int .i64 z):=by
 obtain⟨g,o,e,hA⟩:=h.layers.cell h1;refine⟨g,o,e,fun k hk=>?_⟩;have hk':k<d.layers.length:=by have:=h.layers.1;omega
 refine⟨d.layers[k].id,by simp [df.ids,hk'],fun w' T'=>?_⟩;simpa using (hA w' T' k d.layers[k] (by simp [hk'])).2 0 _ rfl
theorem uD(d:df)(id:Int)(w:World)(h:d.At w): Calls prog 20 #[d.v,id] w fun e w'=>e=.returned (.int .i64 (sQ d.ids id))∧bH [] w w':=by
 have hC:1≤d.ln→_:=fun h1=>df.ids_cell h h1;have hlen:d.ids.length=d.ln:=by rw [h.layers.1];simp [df.ids]
 have hsm:=h.small;generalize hI:d.ids=ids at *;obtain⟨sA,sn,sc,spaces,root,next,lA,ln,lc,layers⟩:=d;simp only [df.v]at *;have T:=(tR w).alloc (.cells #[.slice sA sn sc,root,next,.slice lA ln lc] 29);have HC:=lh hC;have HN:=lh hlen;clear hC hlen hI h;go_enter func20,ntmps20;go_wp2_with fail
 have hc3:(w.alloc (.cells #[.slice sA sn sc,root,next,.slice lA ln lc] 29)).cell? ⟨w,3,none⟩=some (.slice lA ln lc):=by simp [go_sem]
 generalize w.alloc (.cells #[.slice sA sn sc,root,next,.slice lA ln lc] 29)=W at *;go_loop [5] (fun s5=>∃k:Nat,k≤ln∧s5=k∧∀i,i<k→ids[i]?≠some id) (fun s5=>ln - (intOf s5).toNat);case atStart=>exact⟨0,by omega,rfl,fun i hi=>absurd hi (aU i)⟩
 obtain⟨k,hk,rfl,hall⟩:=hrel;have HALL:=lh hall;clear hall;by_cases hlt:k<ln
 ·obtain⟨g,o,rfl,hA⟩:=HC.o (by omega);obtain⟨z,hz,hcell⟩:=hA k hlt;have hcell:=hcell W T;have HZ:=lh hz;clear hz hA;have b0:(0:Int)≤(k:Int):=by omega
  have b1:(k:Int)<(ln:Int):=by omega
  by_cases h0:z=id
  ·subst h0;(go_wp2_with fail);go_ret;exact⟨by rw [sQ,vS HZ.o HALL.o];rfl,T⟩
  go_wp2_with fail
  go_round;case rel=>exact⟨k+1,by omega,by go_num,fun i hi=>by
   by_cases h:i<k
   ·exact HALL.o i h
   obtain rfl:i=k:=(by omega);rw [HZ.o];exact fun e=>h0 (Option.some.inj e)⟩
  simp [intOf];omega
 obtain rfl:k=ln:=by omega
 go_wp2_with fail
 go_ret;exact⟨by rw [sQ,Bg (fun i hi=>HALL.o i (by have:=HN.o;omega))];rfl,T⟩
end Go.Proofs.YtbpklgllihhgpaaGreat
