import Derived.Test.YtbpklgllihhgpaaGreatA17
import Derived.Test.YtbpklgllihhgpaaGreatA19
set_option maxRecDepth 100000
set_option maxHeartbeats 16000000
namespace Go.Proofs.YtbpklgllihhgpaaGreat
open Tryz Go.RowKit Go.Den
theorem iL.get{w:World}{A:Option Addr}{n:Nat}{ps:List (Int×Int)}(hi:iL w A n ps)(h1:1≤n): ∃g o,A=some ⟨g,o,none⟩∧∀w',bH [] w w'→∀j,j<n→w'.cell? ⟨g,o+j*2,none⟩=some (.int .i64 (ps.getD j (0,0)).1)∧w'.cell? ⟨g,o+j*2+1,none⟩=some (.int .i64 (ps.getD j (0,0)).2):=by obtain⟨hn,hA⟩:=hi;obtain⟨g,o,rfl,_⟩:=hA 0 (by omega);refine⟨g,o,rfl,fun w' t j hj=>?_⟩;obtain⟨g',o',e,hc,hd⟩:=hA j hj;injection e with e;injection e with e1 e2 e3;subst e1;subst e2;exact⟨by rw [(bY t).1 g _ (ai hc)];exact hc,by rw [(bY t).1 g _ (ai hd)];exact hd⟩
theorem nD{ps:List (Int×Int)}(h:jy ps=true): (3≤ps.length∧ps.length≤64)∧∀j,j<ps.length→uG (ps.getD j (0,0)).1 (ps.getD j (0,0)).2=false:=by simp only [jy,az,decide_eq_true_eq,aZ]at h;refine⟨h.1,fun j hj=>?_⟩;have:=h.2 (ps.getD j (0,0)) (by simp [List.getD,hj]);simpa using this
theorem Om(ps:List (Int×Int))(hb:jy ps=true)(A:Option Addr)(n cap:Nat)(w:World)(hi:iL w A n ps):
  Calls prog 207 #[.slice A n cap,.func (.func 188) #[] #[]] w fun e w'=>e=.returned (.int .i64 (-1))∧bH [] w w':=by
 obtain⟨⟨l0,l1⟩,hall⟩:=nD hb;have hn:=hi.1;rw [←hn]at l0 l1 hall;obtain⟨g,o,rfl,hA⟩:=hi.get (by omega);have HA:=lh hA;have HALL:=lh hall;have HF:=lh Sl;clear hA hall hb hn hi;go_enter func207,ntmps207;go_wp2_with fail
 go_loopw [8] (fun s8 wr=>∃k:Nat,k≤n∧s8=k∧bH [] w wr) (fun s8 _=>n - (intOf s8).toNat);case atStart=>exact⟨0,by omega,rfl,tR w⟩
 obtain⟨k,hk,rfl,T⟩:=hrel;by_cases hlt:k<n
 ·obtain⟨c0,c1⟩:=HA.o _ T k hlt;have hq:=HALL.o k hlt;generalize ps.getD k (0,0)=z at *;obtain⟨x,y⟩:=z;simp only at c0 c1 hq;have hq:=HF.o x y hq;have HQ:=lh hq;clear hq;go_wp2_with (first
   | (go_at_call 188;refine (HQ.o _).mono ?_;rintro e w1 ⟨rfl,ht⟩)
   | fail)
  go_roundw;case rel=>exact⟨k+1,by omega,by go_num,T.trans ht⟩
  simp [intOf];omega
 obtain rfl:k=n:=by omega
 go_wp2_with fail
 go_ret;exact⟨rfl,T⟩
theorem EJ(ps:List (Int×Int))(hb:jy ps=true)(A:Option Addr)(n cap:Nat)(w:World)(hi:iL w A n ps):
  Calls prog 187 #[.slice A n cap,.func (.func 188) #[] #[]] w fun e w'=>e=.returned (.bool false)∧bH [] w w':=by
 have HI:=lh (Om ps hb A n cap w hi);clear hb hi;go_enter func187,ntmps187;go_wp2_with (go_at_call 207;refine HI.o.mono ?_;rintro e w1 ⟨rfl,ht⟩)
 go_ret;exact⟨by first | rfl | (simp;done),ht⟩
theorem Dw(ps:List (Int×Int))(hb:jy ps=true)(A:Option Addr)(n cap:Nat)(w:World)(hi:iL w A n ps):
  Calls prog 146 #[.slice A n cap] w fun e w'=>e=.returned (.bool true)∧bH [] w w':=by
 have HI:=lh (EJ ps hb A n cap w hi);obtain⟨⟨l0,l1⟩,_⟩:=nD hb;have hn:=hi.1;rw [←hn]at l0 l1;clear hb hi hn;have d1:decide ((3:Int)≤n)=true:=aC (by omega);have d2:decide ((n:Int)≤64)=true:=aC (by omega);go_enter func146,ntmps146;go_wp2_with (first
  | (go_at_call 187;refine HI.o.mono ?_;rintro e w1 ⟨rfl,ht⟩)
  | fail)
 go_ret;exact⟨by first | rfl | (simp;done),ht⟩
theorem Es(ps:List (Int×Int))(A:Option Addr)(n cap:Nat)(w:World)(hi:iL w A n ps):
  Calls prog 150 #[.slice A n cap] w fun e w'=>e=.returned (.bool (jy ps))∧bH [] w w':=by
 have hn:=hi.1;by_cases h1:n<3
 ·have hf:jy ps=false:=by rw [jy,ak (by omega:¬3≤ps.length)];rfl
  rw [hf];clear hf hi hn;have d1:decide ((n:Int)<3)=true:=aC (by omega);go_enter func150,ntmps150;go_wp2_with fail
  go_ret;exact⟨rfl,tR w⟩
 by_cases h2:64<n
 ·have hf:jy ps=false:=by rw [jy,ak (by omega:¬ps.length≤64),Bool.and_false];rfl
  rw [hf];clear hf hi hn;have d1:decide ((n:Int)<3)=false:=ak (by omega);have d2:decide (64<(n:Int))=true:=aC (by omega);go_enter func150,ntmps150;go_wp2_with fail
  go_ret;exact⟨rfl,tR w⟩
 exact Ql ps A n cap w hi (by omega) (by omega)
structure rP(W wr:World)(r:Rc): Prop where
 t:bH [] W wr
 sz:W.heap.size+2≤wr.heap.size
 c0:wr.cell? ⟨W.heap.size+1,0,none⟩=some (.int .i64 r.x0)
 c1:wr.cell? ⟨W.heap.size+1,1,none⟩=some (.int .i64 r.y0)
 c2:wr.cell? ⟨W.heap.size+1,2,none⟩=some (.int .i64 r.x1)
 c3:wr.cell? ⟨W.heap.size+1,3,none⟩=some (.int .i64 r.y1)
 f:∀i,wr.frozen? ⟨W.heap.size+1,i,none⟩=false
 f':∀i,wr.frozen? ⟨W,i,none⟩=false
 d0:wr.cell? ⟨W,0,none⟩=some (.int .i64 0)
 d1:wr.cell? ⟨W,1,none⟩=some (.int .i64 0)
 d2:wr.cell? ⟨W,2,none⟩=some (.int .i64 0)
 d3:wr.cell? ⟨W,3,none⟩=some (.int .i64 0)
def iP(r:Rc)(p:Int×Int): Rc:=⟨min r.x0 p.1,min r.y0 p.2,max r.x1 p.1,max r.y1 p.2⟩
def gY(ps:List (Int×Int)): Rc:=ps.foldl iP ⟨(ps.getD 0 (0,0)).1,(ps.getD 0 (0,0)).2,(ps.getD 0 (0,0)).1,(ps.getD 0 (0,0)).2⟩
theorem rP.step{W wr:World}{r0 r1 r2 r3:Int}(H:rP W wr ⟨r0,r1,r2,r3⟩)(u v:Int)(O:Obj):
  rP W (((((wr.alloc O).setCell ⟨W.heap.size+1,0,none⟩ (.int .i64 (min r0 u))).setCell ⟨W.heap.size+1,1,none⟩ (.int .i64 (min r1 v))).setCell ⟨W.heap.size+1,2,none⟩ (.int .i64 (max r2 u))).setCell ⟨W.heap.size+1,3,none⟩ (.int .i64 (max r3 v))) (iP ⟨r0,r1,r2,r3⟩ (u,v)):=by
 have hsz:=H.sz;have q:=bY ((tR wr).alloc O);have t:=H.t.alloc O;have e0:(wr.alloc O).cell? ⟨W.heap.size+1,0,none⟩=some (.int .i64 r0):=by rw [q.1 _ _ (by omega)];exact H.c0
 have e1:(wr.alloc O).cell? ⟨W.heap.size+1,1,none⟩=some (.int .i64 r1):=by rw [q.1 _ _ (by omega)];exact H.c1
 have e2:(wr.alloc O).cell? ⟨W.heap.size+1,2,none⟩=some (.int .i64 r2):=by rw [q.1 _ _ (by omega)];exact H.c2
 have e3:(wr.alloc O).cell? ⟨W.heap.size+1,3,none⟩=some (.int .i64 r3):=by rw [q.1 _ _ (by omega)];exact H.c3
 have g0:(wr.alloc O).cell? ⟨W,0,none⟩=some (.int .i64 0):=by rw [q.1 _ _ (by omega)];exact H.d0
 have g1:(wr.alloc O).cell? ⟨W,1,none⟩=some (.int .i64 0):=by rw [q.1 _ _ (by omega)];exact H.d1
 have g2:(wr.alloc O).cell? ⟨W,2,none⟩=some (.int .i64 0):=by rw [q.1 _ _ (by omega)];exact H.d2
 have g3:(wr.alloc O).cell? ⟨W,3,none⟩=some (.int .i64 0):=by rw [q.1 _ _ (by omega)];exact H.d3
 have f1:∀i,(wr.alloc O).frozen? ⟨W.heap.size+1,i,none⟩=false:=fun i=>by rw [q.2 _ _ (by omega)];exact H.f i
 have f0:∀i,(wr.alloc O).frozen? ⟨W,i,none⟩=false:=fun i=>by rw [q.2 _ _ (by omega)];exact H.f' i
 have hs:W.heap.size+2≤(wr.alloc O).heap.size:=by simp only [aI];omega
 generalize wr.alloc O=V at *;have a:∀i,W.heap.size≤(Addr.mk (W.heap.size+1) i none).block:=fun i=>by dsimp only;omega
 refine⟨(((t.setCell _ (.inr (a _))).setCell _ (.inr (a _))).setCell _ (.inr (a _))).setCell _ (.inr (a _)),?_,?_,?_,?_,?_,?_,?_,?_,?_,?_,?_⟩
 ·simpa only [World.size_setCell]using hs
 all_goals simp [go_sem,iP,e0,e1,e2,e3,g0,g1,g2,g3,f0,f1]
theorem QL(ps:List (Int×Int))(A:Option Addr)(n cap:Nat)(h1:1≤n)(h2:n≤64)(w:World)(hi:iL w A n ps):
  Calls prog 147 #[.slice A n cap] w fun e w'=>e=.returned (gY ps).v∧bH [] w w':=by
 have hn:=hi.1;obtain⟨g,o,rfl,hA⟩:=hi.get (by omega);have HU:∀w,bH [] w (w.alloc (.cells #[(0:Int),(0:Int),(0:Int),(0:Int)] 24)).drew∧bH [] w ((w.alloc (.cells #[(0:Int),(0:Int),(0:Int),(0:Int)] 24)).alloc (.cells #[(0:Int),(0:Int),(0:Int),(0:Int)] 24)).drew:=fun w=>⟨((tR w).alloc _).drawn 1,(((tR w).alloc _).alloc _).drawn 1⟩;obtain⟨z0,z1⟩:=hA w (tR w) 0 (by omega);have z0:w.cell? ⟨g,o,none⟩=some (.int .i64 (ps.getD 0 (0,0)).1):=by simpa using z0
 have z1:w.cell? ⟨g,o+1,none⟩=some (.int .i64 (ps.getD 0 (0,0)).2):=by simpa using z1
 have tu:=HU w;have y0:=hA _ tu.1 0 (by omega);have y1:=hA _ tu.2 0 (by omega);have y00:(w.alloc (.cells #[(0:Int),(0:Int),(0:Int),(0:Int)] 24)).drew.cell? ⟨g,o,none⟩=some (.int .i64 (ps.getD 0 (0,0)).1):=by simpa using y0.1
 have y01:(w.alloc (.cells #[(0:Int),(0:Int),(0:Int),(0:Int)] 24)).drew.cell? ⟨g,o+1,none⟩=some (.int .i64 (ps.getD 0 (0,0)).2):=by simpa using y0.2
 have y10:((w.alloc (.cells #[(0:Int),(0:Int),(0:Int),(0:Int)] 24)).alloc (.cells #[(0:Int),(0:Int),(0:Int),(0:Int)] 24)).drew.cell? ⟨g,o,none⟩=some (.int .i64 (ps.getD 0 (0,0)).1):=by simpa using y1.1
 have y11:((w.alloc (.cells #[(0:Int),(0:Int),(0:Int),(0:Int)] 24)).alloc (.cells #[(0:Int),(0:Int),(0:Int),(0:Int)] 24)).drew.cell? ⟨g,o+1,none⟩=some (.int .i64 (ps.getD 0 (0,0)).2):=by simpa using y1.2
 clear y0 y1 tu;have hm:gY ps=ps.foldl iP ⟨(ps.getD 0 (0,0)).1,(ps.getD 0 (0,0)).2,(ps.getD 0 (0,0)).1,(ps.getD 0 (0,0)).2⟩:=rfl;have HA:=lh hA;generalize (ps.getD 0 (0,0)).1=x at *;generalize (ps.getD 0 (0,0)).2=y at *;have HM:=lh hm;have HN:=lh hn;clear hA hm hn hi;have b0:(0:Int)<(n:Int):=by omega
 go_enter func147,ntmps147;go_wp2_with fail
 go_region;clear z0 z1 y00 y01 y10 y11 b0;go_wp2_with fail
 go_loopw [25] (fun s25 wr=>∃k:Nat,k≤n∧s25=k∧rP w wr ((ps.take k).foldl iP ⟨x,y,x,y⟩)) (fun s25 _=>n - (intOf s25).toNat);case atStart=>
  refine⟨0,by omega,rfl,⟨(((tR w).alloc _).alloc _).drawn 1,?_,?_,?_,?_,?_,?_,?_,?_,?_,?_,?_⟩⟩;all_goals first | (simp [go_sem];done)
  all_goals done
 obtain⟨k,hk,rfl,H⟩:=hrel;have c0:=H.c0;have c1:=H.c1;have c2:=H.c2;have c3:=H.c3;generalize hr:(ps.take k).foldl iP ⟨x,y,x,y⟩=r at *;obtain⟨r0,r1,r2,r3⟩:=r;simp only at c0 c1 c2 c3;by_cases hlt:k<n
 ·obtain⟨p0,p1⟩:=HA.o _ H.t k hlt;generalize hz:ps.getD k (0,0)=z at *;obtain⟨u,v⟩:=z;simp only at p0 p1;have HR:=lh hr;have HZ:=lh hz;have HH:=lh H;have hsz:=H.sz;have q:=fun O=>bY ((tR wr).alloc O);have e0:∀O,(wr.alloc O).cell? ⟨w.heap.size+1,0,none⟩=some (.int .i64 r0):=fun O=>by rw [(q O).1 _ _ (by omega)];exact c0
  have e1:∀O,(wr.alloc O).cell? ⟨w.heap.size+1,1,none⟩=some (.int .i64 r1):=fun O=>by rw [(q O).1 _ _ (by omega)];exact c1
  have e2:∀O,(wr.alloc O).cell? ⟨w.heap.size+1,2,none⟩=some (.int .i64 r2):=fun O=>by rw [(q O).1 _ _ (by omega)];exact c2
  have e3:∀O,(wr.alloc O).cell? ⟨w.heap.size+1,3,none⟩=some (.int .i64 r3):=fun O=>by rw [(q O).1 _ _ (by omega)];exact c3
  have f0:∀O i,(wr.alloc O).frozen? ⟨w.heap.size+1,i,none⟩=false:=fun O i=>by rw [(q O).2 _ _ (by omega)];exact H.f i
  clear q c0 c1 c2 c3 hsz;clear hr hz H;go_wp2_with (first
   | (refine iV rfl _ _ rfl rfl rfl ?_)
   | (refine iG rfl _ _ rfl rfl rfl ?_)
   | fail)
  go_roundw;case rel=>
   refine⟨k+1,by omega,by go_num,?_⟩;have hl:k<ps.length:=(by rw [←HN.o];exact hlt);have ht:ps.take (k+1)=ps.take k ++ [(u,v)]:=(by rw [aT hl,←HZ.o];simp [List.getD,hl]);rw [ht,List.foldl_append,HR.o];exact HH.o.step u v _
  simp [intOf];omega
 obtain rfl:k=n:=by omega
 have hm:gY ps=⟨r0,r1,r2,r3⟩:=by rw [HM.o,←hr,HN.o,List.take_length]
 have HHM:=lh hm;have d0:=H.d0;have d1:=H.d1;have d2:=H.d2;have d3:=H.d3;have f0:=H.f';have TT:=H.t;clear hr H hm;go_wp2_with fail
 refine ag (v:=.agg #[r0,r1,r2,r3]) (by simp [results,results147,go_sem,d0,d1,d2,d3]) rfl ⟨by rw [HHM.o];rfl,((((TT.sc).sc).sc).sc)⟩
theorem JJ(ps:List (Int×Int))(hb:jy ps=true)(A:Option Addr)(n cap:Nat)(w:World)(hi:iL w A n ps):
  Calls prog 88 #[.slice A n cap] w fun e w'=>e=.returned ((gY ps).meet (gY ps)).v∧bH [] w w':=by
 obtain⟨⟨l0,l1⟩,_⟩:=nD hb;have hn:=hi.1;rw [←hn]at l0 l1;have hv:=fun w' (t:bH [] w w')=>Dw ps hb A n cap w' (hi.turn t);have hh:=fun w' (t:bH [] w w')=>QL ps A n cap (by omega) l1 w' (hi.turn t);have hm:=xJ (gY ps) (gY ps);generalize (gY ps).meet (gY ps)=m at *;generalize gY ps=h at *;obtain⟨m0,m1,m2,m3⟩:=m;obtain⟨x0,x1,x2,x3⟩:=h;simp only [Rc.v]at *;have HV:=lh hv;have HH:=lh hh;have HM:=lh hm;clear hv hh hm hb hi hn l0 l1;have T0:bH [] _ _:=(tR w).alloc (.cells #[(0:Int),(0:Int),(0:Int),(0:Int)] 24);have TT:=T0.here;go_enter func88,ntmps88;go_wp2_with (first
  | (go_at_call 146;refine TT.call (HV.o _ (T0.trans TT)) ?_;intro w1 TT hc hf)
  | (go_at_call 147;refine TT.call (HH.o _ (T0.trans TT)) ?_;intro w2 TT hc hf)
  | (go_at_call 78;refine TT.call (HM.o _) ?_;intro w3 TT hc hf)
  | fail)
 have TT:=T0.trans TT;refine ag (v:=.agg #[m0,m1,m2,m3]) (by simp [results,results88,go_sem,hc]) rfl ⟨rfl,((((TT.sc).sc).sc).sc)⟩
theorem bK{w:World}{g i:Nat}{L:Array Value}{t:TypeId}(hg:w.heap[g]?=some (.cells L t (0,0))){v:Value}(hv:L[i]?=some v): w.cell? ⟨g,i,none⟩=some v:=by rw [aA _ _ _ _ _ _ hg];exact hv
theorem dm{w:World}{g:Nat}{L:Array Value}{t:TypeId}(hg:w.heap[g]?=some (.cells L t (0,0)))(i:Nat): w.frozen? ⟨g,i,none⟩=false:=by simp [World.frozen?,hg]
theorem Hg{o:Oper}{a:Act}{w:World}{s x:Operand}(hop:o.op=Op.call { callee:=Callee.builtin Builtin.min,args:=#[s,x],argTypes:=#[3,3] }){p q:Int}(hs:a.eval s=p)(hx:a.eval x=q): (execOp a.eval o).run prog w=.ok (.value (.int .i64 (min p q))) w:=by have e:=LJ p q o.type w;simp [execOp,hop,resolve,invoke,builtin,hs,hx,e,Result.andThen]
theorem Gp{o:Oper}{a:Act}{w:World}{s x:Operand}(hop:o.op=Op.call { callee:=Callee.builtin Builtin.max,args:=#[s,x],argTypes:=#[3,3] }){p q:Int}(hs:a.eval s=p)(hx:a.eval x=q): (execOp a.eval o).run prog w=.ok (.value (.int .i64 (max p q))) w:=by have e:=KZ p q o.type w;simp [execOp,hop,resolve,invoke,builtin,hs,hx,e,Result.andThen]
theorem rP.still{W wr V:World}{r:Rc}(H:rP W wr r)(T:bH [] wr V): rP W V r:=by have hsz:=H.sz;have q:=bY T;exact⟨H.t.trans T,aK hsz T.size,(q.1 _ _ (by omega)).trans H.c0,(q.1 _ _ (by omega)).trans H.c1,(q.1 _ _ (by omega)).trans H.c2,(q.1 _ _ (by omega)).trans H.c3,fun i=>(q.2 _ _ (by omega)).trans (H.f i),fun i=>(q.2 _ _ (by omega)).trans (H.f' i),(q.1 _ _ (by omega)).trans H.d0,(q.1 _ _ (by omega)).trans H.d1,(q.1 _ _ (by omega)).trans H.d2,(q.1 _ _ (by omega)).trans H.d3⟩
theorem rP.set{W V:World}{r0 r1 r2 r3:Int}(H:rP W V ⟨r0,r1,r2,r3⟩)(u v:Int):
  rP W ((((V.setCell ⟨W.heap.size+1,0,none⟩ (.int .i64 (min r0 u))).setCell ⟨W.heap.size+1,1,none⟩ (.int .i64 (min r1 v))).setCell ⟨W.heap.size+1,2,none⟩ (.int .i64 (max r2 u))).setCell ⟨W.heap.size+1,3,none⟩ (.int .i64 (max r3 v))) (iP ⟨r0,r1,r2,r3⟩ (u,v)):=by
 obtain⟨t,hs,e0,e1,e2,e3,f1,f0,g0,g1,g2,g3⟩:=H;simp only at e0 e1 e2 e3;have a:∀i,W.heap.size≤(Addr.mk (W.heap.size+1) i none).block:=fun i=>by dsimp only;omega
 refine⟨(((t.setCell _ (.inr (a _))).setCell _ (.inr (a _))).setCell _ (.inr (a _))).setCell _ (.inr (a _)),?_,?_,?_,?_,?_,?_,?_,?_,?_,?_,?_⟩
 ·simpa only [World.size_setCell]using hs
 all_goals simp [go_sem,iP,e0,e1,e2,e3,g0,g1,g2,g3,f0,f1]
theorem QO(ps:List (Int×Int))(A:Option Addr)(n cap:Nat)(h1:1≤n)(h2:n≤64)(w:World)(hi:iL w A n ps):
  Calls prog 151 #[.slice A n cap] w fun e w'=>e=.returned (gY ps).v∧bH [] w w':=by
 have hn:=hi.1;obtain⟨g,o,rfl,hA⟩:=hi.get (by omega);have HU:∀w,bH [] w (w.alloc (.cells #[(0:Int),(0:Int),(0:Int),(0:Int)] 24)).drew∧bH [] w ((w.alloc (.cells #[(0:Int),(0:Int),(0:Int),(0:Int)] 24)).alloc (.cells #[(0:Int),(0:Int),(0:Int),(0:Int)] 24)).drew:=fun w=>⟨((tR w).alloc _).drawn 1,(((tR w).alloc _).alloc _).drawn 1⟩;obtain⟨z0,z1⟩:=hA w (tR w) 0 (by omega);have z0:w.cell? ⟨g,o,none⟩=some (.int .i64 (ps.getD 0 (0,0)).1):=by simpa using z0
 have z1:w.cell? ⟨g,o+1,none⟩=some (.int .i64 (ps.getD 0 (0,0)).2):=by simpa using z1
 have tu:=HU w;have y0:=hA _ tu.1 0 (by omega);have y1:=hA _ tu.2 0 (by omega);have y00:(w.alloc (.cells #[(0:Int),(0:Int),(0:Int),(0:Int)] 24)).drew.cell? ⟨g,o,none⟩=some (.int .i64 (ps.getD 0 (0,0)).1):=by simpa using y0.1
 have y01:(w.alloc (.cells #[(0:Int),(0:Int),(0:Int),(0:Int)] 24)).drew.cell? ⟨g,o+1,none⟩=some (.int .i64 (ps.getD 0 (0,0)).2):=by simpa using y0.2
 have y10:((w.alloc (.cells #[(0:Int),(0:Int),(0:Int),(0:Int)] 24)).alloc (.cells #[(0:Int),(0:Int),(0:Int),(0:Int)] 24)).drew.cell? ⟨g,o,none⟩=some (.int .i64 (ps.getD 0 (0,0)).1):=by simpa using y1.1
 have y11:((w.alloc (.cells #[(0:Int),(0:Int),(0:Int),(0:Int)] 24)).alloc (.cells #[(0:Int),(0:Int),(0:Int),(0:Int)] 24)).drew.cell? ⟨g,o+1,none⟩=some (.int .i64 (ps.getD 0 (0,0)).2):=by simpa using y1.2
 clear y0 y1 tu;have hX:(ps.take 1).foldl iP ⟨(ps.getD 0 (0,0)).1,(ps.getD 0 (0,0)).2,(ps.getD 0 (0,0)).1,(ps.getD 0 (0,0)).2⟩=⟨(ps.getD 0 (0,0)).1,(ps.getD 0 (0,0)).2,(ps.getD 0 (0,0)).1,(ps.getD 0 (0,0)).2⟩:=by
  cases ps with
  | nil=>rfl
  | cons p q=>simp [iP]
 have HX:=lh hX;clear hX;have hm:gY ps=ps.foldl iP ⟨(ps.getD 0 (0,0)).1,(ps.getD 0 (0,0)).2,(ps.getD 0 (0,0)).1,(ps.getD 0 (0,0)).2⟩:=rfl;have HA:=lh hA;generalize (ps.getD 0 (0,0)).1=x at *;generalize (ps.getD 0 (0,0)).2=y at *;have HM:=lh hm;have HN:=lh hn;clear hA hm hn hi;have b0:(0:Int)<(n:Int):=by omega
 go_enter func151,ntmps151;go_wp2_with fail
 go_region;clear z0 z1 y00 y01 y10 y11 b0;go_wp2_with fail
 go_loopw [4] (fun s4 wr=>∃k:Nat,1≤k∧k≤n∧s4=k∧rP w wr ((ps.take k).foldl iP ⟨x,y,x,y⟩)) (fun s4 _=>n - (intOf s4).toNat);case atStart=>
  have h1':(ps.take 1).foldl iP ⟨x,y,x,y⟩=⟨x,y,x,y⟩:=HX.o;refine⟨1,by omega,by omega,rfl,?_⟩;rw [h1'];refine⟨(((tR w).alloc _).alloc _).drawn 1,?_,?_,?_,?_,?_,?_,?_,?_,?_,?_,?_⟩;all_goals simp [go_sem]
 obtain⟨k,hk1,hk,rfl,H⟩:=hrel;have c0:=H.c0;have c1:=H.c1;have c2:=H.c2;have c3:=H.c3;generalize hr:(ps.take k).foldl iP ⟨x,y,x,y⟩=r at *;obtain⟨r0,r1,r2,r3⟩:=r;simp only at c0 c1 c2 c3;by_cases hlt:k<n
 ·obtain⟨p0,p1⟩:=HA.o _ H.t k hlt;generalize hz:ps.getD k (0,0)=z at *;obtain⟨u,v⟩:=z;simp only at p0 p1;have HR:=lh hr;have HZ:=lh hz;have HH:=lh H;have b0:(0:Int)≤(k:Int):=by omega
  have b1:(k:Int)<(n:Int):=by omega
  have hsz:=HH.o.sz;clear hr hz H;go_upto_region 5 with fail
  refine sN 33 (tR wr) fun V hS=>?_;refine tk 0 (.pointer (some ⟨w.heap.size+1,0,none⟩)) ?_;go_frame;refine tk 1 r0 ?_ (hy:=fun w' hw=>by have e0:=tc hw c0;go_simp);go_frame;refine tk 2 (.slice (some ⟨g,o,none⟩) n cap) ?_;go_frame;refine tk 3 k ?_;go_frame;refine tk 4 (.pointer (some ⟨g,o+k*2,none⟩)) ?_;go_frame;refine tk 5 (.pointer (some ⟨g,o+k*2,none⟩)) ?_;go_frame;refine tk 6 u ?_ (hy:=fun w' hw=>by obtain⟨p0,p1⟩:=HA.o _ (HH.o.t.trans hw) k hlt;rw [HZ.o]at p0 p1;simp only at p0 p1;go_simp);go_frame;refine tk 7 (.int .i64 (min r0 u)) ?_ rfl (hy:=fun w' hw=>Hg (s:=.tmp 29) (x:=.tmp 34) rfl rfl rfl);go_frame;refine tk 8 (.pointer (some ⟨w.heap.size+1,1,none⟩)) ?_;go_frame;refine tk 9 r1 ?_ (hy:=fun w' hw=>by have e1:=tc hw c1;go_simp);go_frame;refine tk 10 (.slice (some ⟨g,o,none⟩) n cap) ?_;go_frame;refine tk 11 k ?_;go_frame;refine tk 12 (.pointer (some ⟨g,o+k*2,none⟩)) ?_;go_frame;refine tk 13 (.pointer (some ⟨g,o+k*2+1,none⟩)) ?_;go_frame;refine tk 14 v ?_ (hy:=fun w' hw=>by obtain⟨p0,p1⟩:=HA.o _ (HH.o.t.trans hw) k hlt;rw [HZ.o]at p0 p1;simp only at p0 p1;go_simp);go_frame;refine tk 15 (.int .i64 (min r1 v)) ?_ rfl (hy:=fun w' hw=>Hg (s:=.tmp 37) (x:=.tmp 42) rfl rfl rfl);go_frame;refine tk 16 (.pointer (some ⟨w.heap.size+1,2,none⟩)) ?_;go_frame;refine tk 17 r2 ?_ (hy:=fun w' hw=>by have e2:=tc hw c2;go_simp);go_frame;refine tk 18 (.slice (some ⟨g,o,none⟩) n cap) ?_;go_frame;refine tk 19 k ?_;go_frame;refine tk 20 (.pointer (some ⟨g,o+k*2,none⟩)) ?_;go_frame;refine tk 21 (.pointer (some ⟨g,o+k*2,none⟩)) ?_;go_frame;refine tk 22 u ?_ (hy:=fun w' hw=>by obtain⟨p0,p1⟩:=HA.o _ (HH.o.t.trans hw) k hlt;rw [HZ.o]at p0 p1;simp only at p0 p1;go_simp);go_frame;refine tk 23 (.int .i64 (max r2 u)) ?_ rfl (hy:=fun w' hw=>Gp (s:=.tmp 45) (x:=.tmp 50) rfl rfl rfl);go_frame;refine tk 24 (.pointer (some ⟨w.heap.size+1,3,none⟩)) ?_;go_frame;refine tk 25 r3 ?_ (hy:=fun w' hw=>by have e3:=tc hw c3;go_simp);go_frame;refine tk 26 (.slice (some ⟨g,o,none⟩) n cap) ?_;go_frame;refine tk 27 k ?_;go_frame;refine tk 28 (.pointer (some ⟨g,o+k*2,none⟩)) ?_;go_frame;refine tk 29 (.pointer (some ⟨g,o+k*2+1,none⟩)) ?_;go_frame;refine tk 30 v ?_ (hy:=fun w' hw=>by obtain⟨p0,p1⟩:=HA.o _ (HH.o.t.trans hw) k hlt;rw [HZ.o]at p0 p1;simp only at p0 p1;go_simp);go_frame;refine tk 31 (.int .i64 (max r3 v)) ?_ rfl (hy:=fun w' hw=>Gp (s:=.tmp 53) (x:=.tmp 58) rfl rfl rfl);go_frame;refine tk 32 (.agg #[.int .i64 (min r0 u),.int .i64 (min r1 v),.int .i64 (max r2 u),.int .i64 (max r3 v)]) ?_;go_frame;have HV:=HH.o.still hS;obtain⟨v0,v1,v2,v3,vf⟩:=bg HV.c0 (bg HV.c1 (bg HV.c2 (bg HV.c3 HV.f)));simp only at v0 v1 v2 v3;refine iZ fun K hK=>?_;go_simp;refine hK _ _ ?_;clear hK K;try go_frame
  have HV:=lh HV;clear hS v0 v1 v2 v3 vf;go_wp2_with fail
  go_roundw;case rel=>
   refine⟨k+1,by omega,by omega,by go_num,?_⟩;have hl:k<ps.length:=(by rw [←HN.o];exact hlt);have ht:ps.take (k+1)=ps.take k ++ [(u,v)]:=(by rw [aT hl,←HZ.o];simp [List.getD,hl]);rw [ht,List.foldl_append,HR.o];exact HV.o.set u v
  simp [intOf];omega
 obtain rfl:k=n:=by omega
 have hm:gY ps=⟨r0,r1,r2,r3⟩:=by rw [HM.o,←hr,HN.o,List.take_length]
 have HHM:=lh hm;have d0:=H.d0;have d1:=H.d1;have d2:=H.d2;have d3:=H.d3;have f0:=H.f';have TT:=H.t;clear hr H hm;go_wp2_with fail
 refine ag (v:=.agg #[r0,r1,r2,r3]) (by simp [results,results151,go_sem,d0,d1,d2,d3]) rfl ⟨by rw [HHM.o];rfl,((((TT.sc).sc).sc).sc)⟩
theorem MC(h:Rc): h.meet h=h.norm:=by obtain⟨a,b,c,d⟩:=h;unfold Rc.meet;simp only [Int.max_self,Int.min_self]
theorem Hw(ps:List (Int×Int))(hb:jy ps=true)(A:Option Addr)(n cap:Nat)(w:World)(hi:iL w A n ps):
  Calls prog 94 #[.slice A n cap] w fun e w'=>e=.returned ((gY ps).meet (gY ps)).v∧bH [] w w':=by
 obtain⟨⟨l0,l1⟩,_⟩:=nD hb;have hn:=hi.1;rw [←hn]at l0 l1;have hv:=fun w' (t:bH [] w w')=>Es ps A n cap w' (hi.turn t);rw [hb]at hv;have hh:=fun w' (t:bH [] w w')=>QO ps A n cap (by omega) l1 w' (hi.turn t);have he:=iM (gY ps);rw [MC];generalize gY ps=h at *;have hnz:h.norm=if h.empty then Rc.zero else h:=rfl
 rw [hnz];generalize h.empty=em at *;obtain⟨x0,x1,x2,x3⟩:=h;simp only [Rc.v]at *;have HV:=lh hv;have HH:=lh hh;have HE:=lh he;clear hv hh he hb hi hn l0 l1 hnz;have T0:bH [] _ _:=(tR w).alloc (.cells #[(0:Int),(0:Int),(0:Int),(0:Int)] 24);have TT:=T0.here;go_enter func94,ntmps94;go_upto_region 5 with (first
  | (go_at_call 150;refine (HV.o _ (T0.trans TT)).mono ?_;rintro e w1 ⟨rfl,ht⟩;have TT:=TT.trans ht;obtain⟨hc,hf⟩:=bY TT)
  | (go_at_call 151;refine (HH.o _ (T0.trans TT)).mono ?_;rintro e w2 ⟨rfl,ht⟩;have TT:=TT.trans ht;obtain⟨hc,hf⟩:=bY TT)
  | fail)
 have TT:=TT.alloc (.cells #[x0,x1,x2,x3] 24);have x10:=heap_alloc_new w2 (.cells #[x0,x1,x2,x3] 24);have hl2:=T0.size;have hl3:=ht.size;generalize w2.alloc (.cells #[x0,x1,x2,x3] 24)=W at *;generalize w2.heap.size=b at *;have z0:=bK x10 (i:=0) (v:=x0) rfl;have z1:=bK x10 (i:=1) (v:=x1) rfl;have z2:=bK x10 (i:=2) (v:=x2) rfl;have z3:=bK x10 (i:=3) (v:=x3) rfl;clear hc hf ht;cases em with
 | true=>
  go_wp2_with (first
   | (go_at_call 46;refine (HE.o _).mono ?_;rintro e w3 ⟨rfl,ht⟩;have TT:=TT.trans ht;obtain⟨hc,hf⟩:=bY TT)
   | fail)
  have TT:=T0.trans TT;exact ag (v:=.agg #[(0:Int),(0:Int),(0:Int),(0:Int)]) (by simp [results,results94,go_sem,hc]) rfl ⟨rfl,((((TT.sc).sc).sc).sc)⟩
 | false=>
  go_wp2_with (first
   | (go_at_call 46;refine (HE.o _).mono ?_;rintro e w3 ⟨rfl,ht⟩;have TT:=TT.trans ht;obtain⟨hc,hf⟩:=bY TT;have X10:=ht.ox x10;have z0:=bK X10 (i:=0) (v:=x0) rfl;have z1:=bK X10 (i:=1) (v:=x1) rfl;have z2:=bK X10 (i:=2) (v:=x2) rfl;have z3:=bK X10 (i:=3) (v:=x3) rfl)
   | fail)
  have TT:=T0.trans TT;exact ag (v:=.agg #[x0,x1,x2,x3]) (by simp [results,results94,go_sem,hc]) rfl ⟨rfl,((((TT.sc).sc).sc).sc)⟩
end Go.Proofs.YtbpklgllihhgpaaGreat
