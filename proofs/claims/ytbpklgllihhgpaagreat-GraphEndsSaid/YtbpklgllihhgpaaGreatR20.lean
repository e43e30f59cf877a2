import Derived.Test.YtbpklgllihhgpaaGreatR17
set_option maxRecDepth 100000
set_option maxHeartbeats 16000000
namespace Go.Proofs.YtbpklgllihhgpaaGreat
open Tryz Go.RowKit Go.Den
theorem PtsAt.get{w:World}{A:Option Addr}{n:Nat}{ps:List (Int×Int)}(hi:PtsAt w A n ps)(h1:1≤n): ∃g o,A=some ⟨g,o,none⟩∧∀w',Turn [] w w'→∀j,j<n→w'.cell? ⟨g,o+j*2,none⟩=some (.int .i64 (ps.getD j (0,0)).1)∧w'.cell? ⟨g,o+j*2+1,none⟩=some (.int .i64 (ps.getD j (0,0)).2):=by obtain⟨hn,hA⟩:=hi;obtain⟨g,o,rfl,_⟩:=hA 0 (by omega);refine⟨g,o,rfl,fun w' t j hj=>?_⟩;obtain⟨g',o',e,hc,hd⟩:=hA j hj;injection e with e;injection e with e1 e2 e3;subst e1;subst e2;exact⟨by rw [(tcell t).1 g _ (block_lt_of_cell hc)];exact hc,by rw [(tcell t).1 g _ (block_lt_of_cell hd)];exact hd⟩
theorem path_near{ps:List (Int×Int)}(h:pathB ps=true): (3≤ps.length∧ps.length≤64)∧∀j,j<ps.length→farB (ps.getD j (0,0)).1 (ps.getD j (0,0)).2=false:=by simp only [pathB,Bool.and_eq_true,decide_eq_true_eq,List.all_eq_true]at h;refine⟨h.1,fun j hj=>?_⟩;have:=h.2 (ps.getD j (0,0)) (by simp [List.getD,hj]);simpa using this
theorem pts_index(ps:List (Int×Int))(hb:pathB ps=true)(A:Option Addr)(n cap:Nat)(w:World)(hi:PtsAt w A n ps):
  Calls prog 207 #[.slice A n cap,.func (.func 188) #[] #[]] w fun e w'=>e=.returned (.int .i64 (-1))∧Turn [] w w':=by
 obtain⟨⟨l0,l1⟩,hall⟩:=path_near hb;have hn:=hi.1;rw [←hn]at l0 l1 hall;obtain⟨g,o,rfl,hA⟩:=hi.get (by omega);have HA:=lh hA;have HALL:=lh hall;have HF:=lh sel_far;clear hA hall hb hn hi;go_enter func207,ntmps207;go_wp2_with fail
 go_loopw [8] (fun s8 wr=>∃k:Nat,k≤n∧s8=k∧Turn [] w wr) (fun s8 _=>n - (intOf s8).toNat);case atStart=>exact⟨0,by omega,rfl,tR w⟩
 obtain⟨k,hk,rfl,T⟩:=hrel;by_cases hlt:k<n
 ·obtain⟨c0,c1⟩:=HA.out _ T k hlt;have hq:=HALL.out k hlt;generalize ps.getD k (0,0)=z at *;obtain⟨x,y⟩:=z;simp only at c0 c1 hq;have hq:=HF.out x y hq;have HQ:=lh hq;clear hq;go_wp2_with (first
   | (go_at_call 188;refine (HQ.out _).mono ?_;rintro e w1 ⟨rfl,ht⟩)
   | fail)
  go_roundw;case rel=>exact⟨k+1,by omega,by go_num,T.trans ht⟩
  simp [intOf];omega
 obtain rfl:k=n:=by omega
 go_wp2_with fail
 go_ret;exact⟨rfl,T⟩
theorem pts_contains(ps:List (Int×Int))(hb:pathB ps=true)(A:Option Addr)(n cap:Nat)(w:World)(hi:PtsAt w A n ps):
  Calls prog 187 #[.slice A n cap,.func (.func 188) #[] #[]] w fun e w'=>e=.returned (.bool false)∧Turn [] w w':=by
 have HI:=lh (pts_index ps hb A n cap w hi);clear hb hi;go_enter func187,ntmps187;go_wp2_with (go_at_call 207;refine HI.out.mono ?_;rintro e w1 ⟨rfl,ht⟩)
 go_ret;exact⟨by first | rfl | (simp;done),ht⟩
theorem sel_valid(ps:List (Int×Int))(hb:pathB ps=true)(A:Option Addr)(n cap:Nat)(w:World)(hi:PtsAt w A n ps):
  Calls prog 146 #[.slice A n cap] w fun e w'=>e=.returned (.bool true)∧Turn [] w w':=by
 have HI:=lh (pts_contains ps hb A n cap w hi);obtain⟨⟨l0,l1⟩,_⟩:=path_near hb;have hn:=hi.1;rw [←hn]at l0 l1;clear hb hi hn;have d1:decide ((3:Int)≤n)=true:=decide_eq_true (by omega);have d2:decide ((n:Int)≤64)=true:=decide_eq_true (by omega);go_enter func146,ntmps146;go_wp2_with (first
  | (go_at_call 187;refine HI.out.mono ?_;rintro e w1 ⟨rfl,ht⟩)
  | fail)
 go_ret;exact⟨by first | rfl | (simp;done),ht⟩
structure HullW(W wr:World)(r:Rc): Prop where
 t:Turn [] W wr
 sz:W.heap.size+2≤wr.heap.size
 c0:wr.cell? ⟨W.heap.size+1,0,none⟩=some (.int .i64 r.x0)
 c1:wr.cell? ⟨W.heap.size+1,1,none⟩=some (.int .i64 r.y0)
 c2:wr.cell? ⟨W.heap.size+1,2,none⟩=some (.int .i64 r.x1)
 c3:wr.cell? ⟨W.heap.size+1,3,none⟩=some (.int .i64 r.y1)
 f:∀i,wr.frozen? ⟨W.heap.size+1,i,none⟩=false
 f':∀i,wr.frozen? ⟨W,i,none⟩=false
 d0:wr.cell? ⟨W,0,none⟩=some (.int .i64 0)
 d1:wr.cell? ⟨W,1,none⟩=some (.int .i64 0)
 d2:wr.cell? ⟨W,2,none⟩=some (.int .i64 0)
 d3:wr.cell? ⟨W,3,none⟩=some (.int .i64 0)
def hullStep(r:Rc)(p:Int×Int): Rc:=⟨min r.x0 p.1,min r.y0 p.2,max r.x1 p.1,max r.y1 p.2⟩
theorem HullW.step{W wr:World}{r0 r1 r2 r3:Int}(H:HullW W wr ⟨r0,r1,r2,r3⟩)(u v:Int)(O:Obj):
  HullW W (((((wr.alloc O).setCell ⟨W.heap.size+1,0,none⟩ (.int .i64 (min r0 u))).setCell ⟨W.heap.size+1,1,none⟩ (.int .i64 (min r1 v))).setCell ⟨W.heap.size+1,2,none⟩ (.int .i64 (max r2 u))).setCell ⟨W.heap.size+1,3,none⟩ (.int .i64 (max r3 v))) (hullStep ⟨r0,r1,r2,r3⟩ (u,v)):=by
 have hsz:=H.sz;have q:=tcell ((tR wr).alloc O);have t:=H.t.alloc O;have e0:(wr.alloc O).cell? ⟨W.heap.size+1,0,none⟩=some (.int .i64 r0):=by rw [q.1 _ _ (by omega)];exact H.c0
 have e1:(wr.alloc O).cell? ⟨W.heap.size+1,1,none⟩=some (.int .i64 r1):=by rw [q.1 _ _ (by omega)];exact H.c1
 have e2:(wr.alloc O).cell? ⟨W.heap.size+1,2,none⟩=some (.int .i64 r2):=by rw [q.1 _ _ (by omega)];exact H.c2
 have e3:(wr.alloc O).cell? ⟨W.heap.size+1,3,none⟩=some (.int .i64 r3):=by rw [q.1 _ _ (by omega)];exact H.c3
 have g0:(wr.alloc O).cell? ⟨W,0,none⟩=some (.int .i64 0):=by rw [q.1 _ _ (by omega)];exact H.d0
 have g1:(wr.alloc O).cell? ⟨W,1,none⟩=some (.int .i64 0):=by rw [q.1 _ _ (by omega)];exact H.d1
 have g2:(wr.alloc O).cell? ⟨W,2,none⟩=some (.int .i64 0):=by rw [q.1 _ _ (by omega)];exact H.d2
 have g3:(wr.alloc O).cell? ⟨W,3,none⟩=some (.int .i64 0):=by rw [q.1 _ _ (by omega)];exact H.d3
 have f1:∀i,(wr.alloc O).frozen? ⟨W.heap.size+1,i,none⟩=false:=fun i=>by rw [q.2 _ _ (by omega)];exact H.f i
 have f0:∀i,(wr.alloc O).frozen? ⟨W,i,none⟩=false:=fun i=>by rw [q.2 _ _ (by omega)];exact H.f' i
 have hs:W.heap.size+2≤(wr.alloc O).heap.size:=by simp only [World.size_alloc];omega
 generalize wr.alloc O=V at *;have a:∀i,W.heap.size≤(Addr.mk (W.heap.size+1) i none).block:=fun i=>by dsimp only;omega
 refine⟨(((t.setCell _ (.inr (a _))).setCell _ (.inr (a _))).setCell _ (.inr (a _))).setCell _ (.inr (a _)),?_,?_,?_,?_,?_,?_,?_,?_,?_,?_,?_⟩
 ·simpa only [World.size_setCell]using hs
 all_goals simp [go_sem,hullStep,e0,e1,e2,e3,g0,g1,g2,g3,f0,f1]
end Go.Proofs.YtbpklgllihhgpaaGreat
