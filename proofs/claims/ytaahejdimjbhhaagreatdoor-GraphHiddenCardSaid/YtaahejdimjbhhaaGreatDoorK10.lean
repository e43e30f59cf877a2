import Derived.Test.YtaahejdimjbhhaaGreatDoorK09
set_option maxRecDepth 100000
set_option maxHeartbeats 0
set_option linter.all false
namespace Go.Proofs.YtaahejdimjbhhaaGreatDoor
open Tryz Go.RowKit Go.Den
open Go.Value renaming slice->aM,agg->aR,pointer->ba,int->bb
open Option renaming some->bc,none->bd
open Go.Obj renaming cells->be
open Go renaming World->bf,zero_of_info->bh,Value->bj,heap_alloc_new->bk,TypeId->bl,Calls->bm,run_loadVar_row->bo,run_loadAt_mid->bp,Oper->bq,Operand->br,execOp->bt
open Bool renaming false->bv,true->bw
open Go.RowKit renaming intOf->bx
open Go.Ending renaming returned->bz
open Go.Proofs.Tryz renaming prog->bA,underlying51->bB
def bI.good(l:bI): Bool:=eu l.mask&&eu l.Xm&&(decide (l.ag1≠3)||jC l.Xg l.ks l.cs)
theorem Je(d:df)(l:bI)(w:bf)(x:l.At w)(n:l.Tidy d.sn): CR 58 #[d.v,l.v] w (bb .i64 (if l.good then 0 else 1)):=by
 have L:=λu (t:bH [] w u)=>qi l.mask l.mA l.mn l.mc u (x.mask.u t);have P:=λu (t:bH [] w u)=>qi l.Xm l.tA l.tn l.tc u (x.Xm.u t);have U:=λu=>xA l.agZ u;have J:=λu (t:bH [] w u)=>AY l.Xg l.ks l.cs u (x.ks.u t) (x.cs.u t);have M:=λu=>OU l.name n.name u;have R:=λu=>J5 l d.sn n u;have K:=λh5 u (t:bH [] w u)=>Jj l.pts (n.path h5) l.pA l.pn l.pc u (x.pts.u t);have S:=n.nomask;have T:=n.agZ;obtain⟨a5,a6⟩:=n.ag1;obtain⟨a9,aa⟩:=n.opac;obtain⟨a7,a8⟩:=n.mode;obtain⟨ab,ac⟩:=n.space;obtain⟨G,y,I,ag2,F,next,C,E,D,agY⟩:=d;simp only [df.v,bI.v,Af.v,Fv.v]at *;obtain⟨W,s⟩:=eX ((w.alloc (be #[aM G y I,F,next,aM C E D] 29)).alloc (be ⟨l.row⟩ 51));have k:bH [] w W:=s▸((tR w).a _).a _;have m:=jg l (w.alloc (be #[aM G y I,F,next,aM C E D] 29)) 51;have V:(w.alloc (be #[aM G y I,F,next,aM C E D] 29)).heap.size=w.heap.size+1:=lz
 rw [<-s,V]at m;have a4:W.heap.size=w.heap.size+2:=rd
 have d0:=cAt 0 (JK s).1 rfl;have p1:=kQ m 1 l.ag1 rfl;have p2:=kQ m 2 (.string l.name) rfl;have p4:=kQ m 4 l.Xl rfl;have p5:=kQ m 5 l.mode rfl;have p7:=kQ m 7 l.agZ.a rfl;have p8:=kQ m 8 l.agZ.b rfl;have p9:=kQ m 9 l.agZ.c rfl;have ad:=kQ m 10 l.agZ.d rfl;have af:=kQ m 11 l.agZ.e rfl;have am:=kQ m 12 l.agZ.f rfl;have an:=kQ m 13 l.agZ.den rfl;have ao:=kQ m 14 l.space rfl;have ap:=kQ m 17 l.Xg.ag1 rfl;have aq:=kQ m 18 l.Xg.Xf rfl;have ar:=kQ m 19 (aM l.Xg.kA l.Xg.kn l.Xg.kc) rfl;have av:=kQ m 20 l.Xg.div rfl;have aw:=kQ m 21 l.Xg.value rfl;have ax:=kQ m 22 (aM l.Xg.cA l.Xg.cn l.Xg.cc) rfl;have ay:=kQ m 27 (aM l.pA l.pn l.pc) rfl;have aD:=kQ m 28 (aM l.tA l.tn l.tc) rfl;have aE:=kQ m 29 (.bool l.Xt) rfl;have a3:=kQ m 30 (aM l.mA l.mn l.mc) rfl;have a2:(prog.info? 51).map (·.size)=bc l.row.length:=(bh rX).2;unfold bI.good;generalize eu l.mask=bM,eu l.Xm=bT,l.agZ.ok=bP,jC l.Xg l.ks l.cs=bF at *;obtain⟨Z,H,p,N,q,Q,B,a0⟩:=lh8 L P U J M R K T;have HR:=lh m;clear L P U J M R K T m x n;generalize l.row=aL,l.ag1=ag1,l.Xl=Y,l.mode=X,l.space=sp at *;have k1:decide (ag1<1)=bv:=ak gn;have k2:decide (5<ag1)=bv:=ak gn;have k3:decide (Y<0)=bv:=ak gn;have k4:decide (255<Y)=bv:=ak gn;have k5:decide (X<0)=bv:=ak gn;have k6:decide (15<X)=bv:=ak gn;have k7:decide (sp<0)=bv:=ak gn;have k8:decide ((y:Int)<sp)=bv:=ak gn;go_enter func58,ntmps58;go_upto_region 1 with (fail)
 rw [<-s];clear s V;have g:=tR W;go_upto_region 5 with (first
  |(go_at_call 103;with_reducible refine g.call (Z.o _ (k.t g)) ?_;intro j g h i)
  |(go_at_call 103;with_reducible refine g.call (H.o _ (k.t g)) ?_;intro j g h i)
  |(go_at_call 114;with_reducible refine g.call (p.o _) ?_;intro j g h i)
  |(go_at_call 115;with_reducible refine g.call (N.o _ (k.t g)) ?_;intro j g h i)
  |(go_at_call 116;with_reducible refine g.call (q.o _) ?_;intro j g h i)
  |(go_at_call 117;with_reducible refine g.call (Q.o _) ?_;intro j g h i)
  |(go_at_call 118;with_reducible refine g.call (B.o rfl _ (k.t g)) ?_;intro j g h i))
 go_upto_region 9 with (first
  |(go_at_call 103;with_reducible refine g.call (Z.o _ (k.t g)) ?_;intro j g h i)
  |(go_at_call 103;with_reducible refine g.call (H.o _ (k.t g)) ?_;intro j g h i)
  |(go_at_call 114;with_reducible refine g.call (p.o _) ?_;intro j g h i)
  |(go_at_call 115;with_reducible refine g.call (N.o _ (k.t g)) ?_;intro j g h i)
  |(go_at_call 116;with_reducible refine g.call (q.o _) ?_;intro j g h i)
  |(go_at_call 117;with_reducible refine g.call (Q.o _) ?_;intro j g h i)
  |(go_at_call 118;with_reducible refine g.call (B.o rfl _ (k.t g)) ?_;intro j g h i))
 generalize l.Xt=z at *;cases bM with
 |false=>
  go_wp2_with (first
   |(go_at_call 103;with_reducible refine g.call (Z.o _ (k.t g)) ?_;intro j g h i)
   |(go_at_call 103;with_reducible refine g.call (H.o _ (k.t g)) ?_;intro j g h i)
   |(go_at_call 114;with_reducible refine g.call (p.o _) ?_;intro j g h i)
   |(go_at_call 115;with_reducible refine g.call (N.o _ (k.t g)) ?_;intro j g h i)
   |(go_at_call 116;with_reducible refine g.call (q.o _) ?_;intro j g h i)
   |(go_at_call 117;with_reducible refine g.call (Q.o _) ?_;intro j g h i)
   |(go_at_call 118;with_reducible refine g.call (B.o rfl _ (k.t g)) ?_;intro j g h i))
  go_ret;exact⟨rfl,k.t g⟩
 |true=>
  have A:z=bw\/l.mn=0:=by cases z with|true=>exact .inl rfl|false=>exact .inr (S rfl)
  clear S;rcases A with rfl|A;rotate_left;rw [A]at a3;cases z;all_goals
   go_upto_region 11 with (first
    |(go_at_call 103;with_reducible refine g.call (Z.o _ (k.t g)) ?_;intro j g h i)
    |(go_at_call 103;with_reducible refine g.call (H.o _ (k.t g)) ?_;intro j g h i)
    |(go_at_call 114;with_reducible refine g.call (p.o _) ?_;intro j g h i)
    |(go_at_call 115;with_reducible refine g.call (N.o _ (k.t g)) ?_;intro j g h i)
    |(go_at_call 116;with_reducible refine g.call (q.o _) ?_;intro j g h i)
    |(go_at_call 117;with_reducible refine g.call (Q.o _) ?_;intro j g h i)
    |(go_at_call 118;with_reducible refine g.call (B.o rfl _ (k.t g)) ?_;intro j g h i))
   have O:=fJ g HR.o;go_upto_region 13 with (first
    |(go_at_call 103;with_reducible refine g.call (Z.o _ (k.t g)) ?_;intro j g h i)
    |(go_at_call 103;with_reducible refine g.call (H.o _ (k.t g)) ?_;intro j g h i)
    |(go_at_call 114;with_reducible refine g.call (p.o _) ?_;intro j g h i)
    |(go_at_call 115;with_reducible refine g.call (N.o _ (k.t g)) ?_;intro j g h i)
    |(go_at_call 116;with_reducible refine g.call (q.o _) ?_;intro j g h i)
    |(go_at_call 117;with_reducible refine g.call (Q.o _) ?_;intro j g h i)
    |(go_at_call 118;with_reducible refine g.call (B.o rfl _ (k.t g)) ?_;intro j g h i)
    |(refine wpList_load_mid rfl 51 _ rfl _ _ rfl _ _ O bB rfl a2 ?_))
   clear O;rcases (by omega:ag1=3\/ag1=1\/ag1=2\/ag1=4\/ag1=5)with rfl|rfl|rfl|rfl|rfl;cases bF;all_goals
    try (have a1:bP=bw:=a0.o gn;subst a1)
    cases bT
    all_goals
     go_wp2_with (first
      |(go_at_call 103;with_reducible refine g.call (Z.o _ (k.t g)) ?_;intro j g h i)
      |(go_at_call 103;with_reducible refine g.call (H.o _ (k.t g)) ?_;intro j g h i)
      |(go_at_call 114;with_reducible refine g.call (p.o _) ?_;intro j g h i)
      |(go_at_call 115;with_reducible refine g.call (N.o _ (k.t g)) ?_;intro j g h i)
      |(go_at_call 116;with_reducible refine g.call (q.o _) ?_;intro j g h i)
      |(go_at_call 117;with_reducible refine g.call (Q.o _) ?_;intro j g h i)
      |(go_at_call 118;with_reducible refine g.call (B.o rfl _ (k.t g)) ?_;intro j g h i))
     go_ret
     exact⟨rfl,k.t g⟩
def uQ:List (List Int×List Int):=
 [([4096,0,0,0,4096,0,0,0,4096],[4096,0,0,0,4096,0,0,0,4096]),([0,4096,0,0,0,4096,4096,0,0],[0,0,4096,4096,0,0,0,4096,0]),
  ([2048,0,0,0,8192,0,0,0,4096],[8192,0,0,0,2048,0,0,0,4096]),([4096,2048,0,0,4096,0,0,1024,4096],[4096,-2048,0,0,4096,0,0,-1024,4096])]
structure eF.Good(s:eF): Prop where
 l0:jh s.l0=bw
 l1:jh s.l1=bw
 l2:jh s.l2=bw
 mat:(s.mTo,s.mFr)∈uQ
def xn(t f:List Int)(i k:Nat): Nat->Int
 |0=>0
 |j+1=>xn t f i k j+f.getD (3*i+j) 0*t.getD (3*j+k) 0
def Uu(t f:List Int): Bool:=(List.range 9).all (λi=>decide (-65536<=t.getD i 0)&&decide (t.getD i 0<=65536)&&decide (-65536<=f.getD i 0)&&decide (f.getD i 0<=65536)) &&
 (List.range 3).all λi=>(List.range 3).all λk=>(List.range 4).all (λj=>decide (-1099511627776<=xn t f i k j)&&decide (xn t f i k j<=1099511627776)) &&
  (let z:=xn t f i k 3-(if i=k then 16777216 else 0);decide (-32768<=z)&&decide (z<=32768))
theorem MN:uQ.all (λp=>Uu p.1 p.2)=bw:=by decide +kernel
structure WL(t f:List Int): Prop where
 ent:∀i,i<9->-65536<=t.getD i 0/\t.getD i 0<=65536/\-65536<=f.getD i 0/\f.getD i 0<=65536
 sum:∀i,i<3->∀k,k<3->∀j,j<4->-1099511627776<=xn t f i k j/\xn t f i k j<=1099511627776
 fin:∀i,i<3->∀k,k<3->-32768<=xn t f i k 3-(if i=k then 16777216 else 0)/\xn t f i k 3-(if i=k then 16777216 else 0)<=32768
theorem eF.Good.near{s:eF}(h:s.Good): WL s.mTo s.mFr:=by have:=aZ.1 MN _ h.mat;simp only [Uu,az,aZ,aX,decide_eq_true_eq]at this;obtain⟨e,f⟩:=this;exact⟨λi m=>by have:=e i m;omega,λi m k d j a=>(f i m k d).1 j a,λi m k d=>(f i m k d).2⟩
theorem su(s:eF)(u:bf)(ty:bl): (u.alloc (be ⟨s.row⟩ ty)).rangeAt u.heap.size 0 s.row:=by intro j v e;rw [aA _ _ _ _ ty (0,0) (bk u _),Nat.zero_add,<-e];show (s.row.toArray)[j]?=_;rw [List.getElem?_toArray]
theorem LQ(s:eF)(d:s.Good)(w:bf)(h:s.At w): CR 113 #[aR ⟨s.row⟩] w (.bool bw):=by
 have H:=d.near;obtain⟨W,m⟩:=eX (w.alloc (be ⟨s.row⟩ 91));have l:bH [] w W:=m▸(tR w).a _;have c:=su s w 91;rw [<-m]at c;have a4:W.heap.size=w.heap.size+1:=mq
 have c0:=kQ c 0 (aM s.a0 s.n0 s.c0) rfl;have c1:=kQ c 1 (aM s.a1 s.n1 s.c1) rfl;have c2:=kQ c 2 (aM s.a2 s.n2 s.c2) rfl;have E:∀i,i<9->W.cell? ⟨w,3+i,bd⟩=bc (bb .i64 (s.mTo.getD i 0)):=λi L=>by
  have p:i<s.mTo.length:=by have:=h.h1;omega
  have:=c (3+i) (bb .i64 (s.mTo.getD i 0)) (by
   have e:3+i=i+1+1+1:=gn;rw [e];show (s.mTo.map (Value.int .i64)++s.mFr.map (Value.int .i64))[i]?=_;rw [bD (by simpa using p)];simp [p])
  simpa using this
 have D:∀i,i<9->W.cell? ⟨w,12+i,bd⟩=bc (bb .i64 (s.mFr.getD i 0)):=λi L=>by
  have p:i<s.mFr.length:=by have:=h.h2;omega
  have:=c (12+i) (bb .i64 (s.mFr.getD i 0)) (by
   have e:12+i=(9+i)+1+1+1:=gn;rw [e];show (s.mTo.map (Value.int .i64)++s.mFr.map (Value.int .i64))[9+i]?=_;have:=h.h1;rw [bG lO];simp [this,p])
  simpa using this
 have v:=λu (t:bH [] w u)=>tZ s.l0 s.a0 s.n0 s.c0 u (h.l0.u t);have z:=λu (t:bH [] w u)=>tZ s.l1 s.a1 s.n1 s.c1 u (h.l1.u t);have A:=λu (t:bH [] w u)=>tZ s.l2 s.a2 s.n2 s.c2 u (h.l2.u t);rw [d.l0]at v;rw [d.l1]at z;rw [d.l2]at A;generalize s.row=aa,s.mTo=mt,s.mFr=mf at *;obtain⟨V,X,Y,Z,C,B⟩:=lh6 v z A H E D;clear v z A H c h d E D;go_enter func113,ntmps113;go_upto_region 1 with (fail)
 rw [<-m];clear m;go_wp2_with fail
 go_loopw [3] (λs3 wr=>∃k:Nat,k<=3/\s3=k/\bH [] W wr) (λs3 _=>3-(bx s3).toNat);case atStart=>exact⟨0,gn,rfl,tR W⟩
 obtain⟨k,P,rfl,b⟩:=hrel;obtain⟨n,K⟩:=bY b;by_cases a5:k<3
 .rcases (by omega:k=0\/k=1\/k=2)with rfl|rfl|rfl;all_goals
   go_wp2_with (first
    |(go_at_call 167;with_reducible refine mR (V.o _ (l.t b)) λQ g=>?_;have b:=b.t g)
    |(go_at_call 167;with_reducible refine mR (X.o _ (l.t b)) λQ g=>?_;have b:=b.t g)
    |(go_at_call 167;with_reducible refine mR (Y.o _ (l.t b)) λQ g=>?_;have b:=b.t g))
   go_roundw;case rel=>first|exact⟨1,gn,rfl,b⟩|exact⟨2,gn,rfl,b⟩|exact⟨3,gn,rfl,b⟩
   case measure=>simp [bx]
 obtain rfl:k=3:=gn
 go_wp2_with fail
 go_loopw [5] (λs5 wr=>∃k:Nat,k<=9/\s5=k/\bH [] W wr) (λs5 _=>9-(bx s5).toNat);case atStart=>exact⟨0,gn,rfl,b⟩
 obtain⟨k,P,rfl,b⟩:=hrel;obtain⟨n,K⟩:=bY b;by_cases a5:k<9
 .have R:=C.out k a5;have T:=B.out k a5;obtain⟨y1,y2,y3,y4⟩:=Z.o.ent k a5;generalize mt.getD k 0=t,mf.getD k 0=f at *;have b0:(0:Int)<=(k:Int):=by omega
  have b1:(k:Int)<9:=gn
  have F:decide (t < -65536)=bv:=ak gn;have G:decide (65536<t)=bv:=ak gn;have e3:decide (f < -65536)=bv:=ak gn;have e4:decide (65536<f)=bv:=ak gn;go_wp2;go_roundw;case rel=>exact⟨k+1,gn,by go_num,b⟩
  simp [bx];omega
 obtain rfl:k=9:=gn
 go_wp2_with fail
 go_loopw [6] (λs6 wr=>∃i:Nat,i<=3/\s6=i/\bH [] W wr) (λs6 _=>3-(bx s6).toNat);case atStart=>exact⟨0,gn,rfl,b⟩
 obtain⟨i,L,rfl,b⟩:=hrel;by_cases a5:i<3
 .have i0:(0:Int)<=(i:Int):=by omega
  have i1:(i:Int)<3:=gn
  go_wp2_with fail
  go_loopw [7] (λs7 wr=>∃k:Nat,k<=3/\s7=k/\bH [] W wr) (λs7 _=>3-(bx s7).toNat);case atStart=>exact⟨0,gn,rfl,b⟩
  obtain⟨k,P,rfl,b⟩:=hrel;by_cases J:k<3
  .have k0:(0:Int)<=(k:Int):=gn;have k1:(k:Int)<3:=gn;(go_wp2_with fail);go_loopw [8,9] (λs8 s9 wr=>∃j:Nat,j<=3/\s9=j/\s8=bb .i64 (xn mt mf i k j)/\bH [] W wr) (λs8 s9 _=>3-(bx s9).toNat);case atStart=>exact⟨0,gn,rfl,rfl,b⟩
   obtain⟨j,hj,rfl,rfl,b⟩:=hrel;obtain⟨n,K⟩:=bY b;by_cases a8:j<3
   .have j0:(0:Int)<=(j:Int):=gn;have j1:(j:Int)<3:=gn;have R:=B.out (3*i+j) gn;have T:=C.out (3*j+k) gn;have a3:=Z.o.sum i a5 k J j gn;have ac:=Z.o.sum i a5 k J (j+1) gn;have a6:=Z.o.ent (3*i+j) gn;have a7:=Z.o.ent (3*j+k) gn;have q:xn mt mf i k (j+1)=xn mt mf i k j+mf.getD (3*i+j) 0*mt.getD (3*j+k) 0:=rfl;have a9:=qy (x:=mf.getD (3*i+j) 0) (y:=mt.getD (3*j+k) 0) (M:=65536) (N:=65536) gn gn gn gn gn gn;rw [q]at ac;have U:=lh q;clear q;generalize mf.getD (3*i+j) 0=f,mt.getD (3*j+k) 0=t,I:xn mt mf i k j=S at *;have HS:=lh I;clear I;have z1:(3*(i:Int)+(j:Int)).toNat=3*i+j:=gn;have z2:(3*(j:Int)+(k:Int)).toNat=3*j+k:=gn;have q1:wr.drew.cell? ⟨w,12+(3*i+j),bd⟩=bc (bb .i64 f):=(n _ _ gn).t R;have q2:wr.drew.cell? ⟨w,3+(3*j+k),bd⟩=bc (bb .i64 t):=(n _ _ gn).t T;have TD:bH [] W wr.drew:=b.drawn 1;(go_wp2_with fail);go_region;all_goals
     go_wp2;go_roundw;case rel=>exact⟨j+1,gn,by go_num,by rw [U.out],TD⟩
     case measure=>simp [bx];omega
   obtain rfl:j=3:=gn;have a3:=Z.o.sum i a5 k J 3 gn;have af:=Z.o.fin i a5 k J;generalize xn mt mf i k 3=S at *;by_cases O:i=k
   .subst O;rw [aG rfl]at af;have F:decide (S-16777216 < -32768)=bv:=ak gn;have G:decide (32768<S-16777216)=bv:=ak gn;go_wp2;go_roundw;case rel=>exact⟨i+1,gn,by go_num,b⟩
    simp [bx];omega
   rw [aF O]at af;have e0:¬(i:Int)=(k:Int):=gn;have F:decide (S < -32768)=bv:=ak gn;have G:decide (32768<S)=bv:=ak gn;go_wp2;go_roundw;case rel=>exact⟨k+1,gn,by go_num,b⟩
   simp [bx];omega
  obtain rfl:k=3:=gn
  go_wp2;go_roundw;case rel=>exact⟨i+1,gn,by go_num,b⟩
  simp [bx];omega
 obtain rfl:i=3:=gn
 go_wp2;go_ret;exact⟨rfl,l.t b⟩
theorem dQ{w:bf}{g o:Nat}{p L L':List bj}{t ty:bl}(d:w.heap[g]?=bc (be ⟨L⟩ t (0,0)))(ar:(prog.info? ty).map (·.size)=bc p.length)(a:o+p.length<=L.length)(e:∀v∈p,v.oneCell'=bw)(C:L.take o++p++L.drop (o+p.length)=L'):
  (Instr.storeAt ty (ba (bc ⟨g,o,bd⟩)) (aR ⟨p⟩)).run bA w=.ok () (w.setRow g ⟨L'⟩):=by
 have a8:=run_storeCells_at (P:=bA) g o t p 0 ⟨L⟩ w d (by show o+0+p.length<=L.length;omega) e;have n:((⟨L⟩:Array bj).toList.take (o+0)++p++(⟨L⟩:Array bj).toList.drop (o+0+p.length)).toArray=⟨L'⟩:=by show ((L.take (o+0)++p++L.drop (o+0+p.length)).toArray:Array bj)=⟨L'⟩;rw [Nat.add_zero,C]
 rw [n]at a8;simp only [Instr.storeAt,Instr.sureAddr,Sem.run_bind,Sem.run_pure,Result.andThen];unfold storeVar;have b:(Value.agg ⟨p⟩).cells=⟨p⟩:=rfl;rw [Sem.run_bind,qp ar];simp only [Result.andThen,b];rw [aF (by show ¬(p.length≠p.length);omega)];exact a8
theorem eQ{w:bf}{g:Nat}{L L':List bj}{t:bl}(d:w.heap[g]?=bc (be ⟨L⟩ t (0,0))): (w.setRow g ⟨L'⟩).heap[g]?=bc (be ⟨L'⟩ t (0,0)):=r7
theorem fQ(w:bf)(g:Nat)(c:Array bj)(q:Nat)(a:q≠g): (w.setRow g c).heap[q]?=w.heap[q]?:=nu
theorem dU{w:bf}{g i:Nat}{L L':List bj}{v:bj}{t:bl}(d:w.heap[g]?=bc (be ⟨L⟩ t (0,0)))(C:L.set i v=L'): (w.setCell ⟨g,i,bd⟩ v).heap[g]?=bc (be ⟨L'⟩ t (0,0)):=by subst C;simp only [World.setCell,au,if_true,d];simp
theorem dG(w:bf)(g i:Nat)(v:bj)(q:Nat)(a:q≠g): (w.setCell ⟨g,i,bd⟩ v).heap[q]?=w.heap[q]?:=by simp only [World.setCell,au,Ne.symm a,if_false]
theorem gp{w:bf}{g o:Nat}{L p:List bj}{t:bl}(d:w.heap[g]?=bc (be ⟨L⟩ t (0,0)))(b:(L.drop o).take p.length=p): w.rangeAt g o p:=by intro j u a;rw [aA _ _ _ _ _ _ d];have k:=(ah.1 a).1;rw [<-b,List.getElem?_take_of_lt k,List.getElem?_drop]at a;simpa using a
theorem bJ{w:bf}{g i:Nat}{L:List bj}{t:bl}(d:w.heap[g]?=bc (be ⟨L⟩ t (0,0))){v:bj}(e:L[i]?=bc v): w.cell? ⟨g,i,bd⟩=bc v:=by rw [aA _ _ _ _ _ _ d];simpa using e
theorem cP(i:Nat)(v:bj){w:bf}{g:Nat}{L:List bj}{t:bl}(d:w.heap[g]?=bc (be ⟨L⟩ t (0,0)))(e:L[i]?=bc v:=by rfl): w.cell? ⟨g,i,bd⟩=bc v:=bJ d e
theorem dD{w:bf}{g:Nat}{L:List bj}{t:bl}(d:w.heap[g]?=bc (be ⟨L⟩ t (0,0)))(i:Nat): w.frozen? ⟨g,i,bd⟩=bv:=by simp [World.frozen?,d]
def fB (k : Int) : bI :=
  { id := 0, ag1 := k, name := ⟨#[]⟩, ag3 := bv, Xl := 255, mode := 0, clip := bv,
    agZ := if k = 1 \/ k = 4 then ⟨1, 0, 0, 0, 1, 0, 1⟩ else ⟨0, 0, 0, 0, 0, 0, 0⟩, space := 0, Xi := bd, Xh := 0, Xj := 0, ag0 := [], of := 0,
    Xg := ⟨if k = 3 then 6 else 0, 0, bd, 0, 0, 0, 0, bd, 0, 0⟩, ks := [], cs := [], f0 := 0, f1 := 0, f2 := 0, f3 := 0, pA := bd, pn := 0, pc := 0, pts := [],
    tA := bd, tn := 0, tc := 0, Xm := [], Xt := bv, mA := bd, mn := 0, mc := 0, mask := [] }
def XV : bI :=
  { id := 0, ag1 := 0, name := ⟨#[]⟩, ag3 := bv, Xl := 0, mode := 0, clip := bv,
    agZ := ⟨0, 0, 0, 0, 0, 0, 0⟩, space := 0, Xi := bd, Xh := 0, Xj := 0, ag0 := [], of := 0,
    Xg := ⟨0, 0, bd, 0, 0, 0, 0, bd, 0, 0⟩, ks := [], cs := [], f0 := 0, f1 := 0, f2 := 0, f3 := 0, pA := bd, pn := 0, pc := 0, pts := [],
    tA := bd, tn := 0, tc := 0, Xm := [], Xt := bv, mA := bd, mn := 0, mc := 0, mask := [] }
def dW(k:Int): bI:={ XV with ag1:=k,Xl:=255 }
theorem ab7:(prog.info? 51).map (λi=>(i.zero,i.size))=bc (bc (aR ⟨XV.row⟩),31):=lB
theorem ZI: AL 51 ⟨XV.row⟩:=λu=>by unfold Instr.alloc;rw [Sem.run_bind,(bh ab7).1];rfl
theorem aeS(l:bI): ∀v∈l.row,v.oneCell'=bw:=by intro v e;simp only [bI.row,aS,aW,or_false]at e;rcases e with h|h|h|h|h|h|h|h|h|h|h|h|h|h|h|h|h|h|h|h|h|h|h|h|h|h|h|h|h|h|h<;>subst h<;>rfl
theorem aaz{u:bf}{g:Nat}{L:List bj}(l:bI)(h:u.heap[g]?=bc (be ⟨L⟩ 51 (0,0)))(i:L.length=31): (Instr.storeAt 51 (ba (bc ⟨g,0,bd⟩)) (aR ⟨l.row⟩)).run bA u=.ok () (u.setRow g ⟨l.row⟩):=
 dQ h (bh ab7).2 (by show 0+31<=L.length;omega) (aeS l) (by rw [List.take_zero,List.nil_append,List.drop_eq_nil_of_le (by show L.length<=0+31;omega),List.append_nil])
theorem ZK(k:Int)(u:bf): (Instr.build 51 #[(1,k),(4,(255:Int))]).run bA u=.ok (aR ⟨(dW k).row⟩) u:=lB
theorem aeG(u:bf): (Instr.build 43 #[(0,(6:Int))]).run bA u=.ok (aR ⟨[(6:Int),(0:Int),aM bd 0 0,(0:Int),(0:Int),aM bd 0 0]⟩) u:=lB
theorem ab9{P:Program}{o:bq}{a:Act}{w w':bf}{t:bl}{i:Nat}{x:br}{p v:bj}(e:o.op=.build t #[(i,x)])(b:a.eval x=p)(C:(Instr.build t #[(i,p)]).run P w=.ok v w'): (bt a.eval o).run P w=.ok (.value v) w':=
 iU e sw C
theorem adr:(prog.info? 40).map (·.size)=bc 7:=lB
theorem afW:(prog.info? 43).map (·.size)=bc 6:=lB
structure dR(w wr:bf)(l:bI): Prop where
 t:bH [] w wr
 h2:wr.heap[w.heap.size]?=bc (be ⟨XV.row⟩ 51 (0,0))
 h3:wr.heap[w.heap.size+1]?=bc (be ⟨l.row⟩ 51 (0,0))
theorem dR.u{w wr u:bf}{l:bI}(P:dR w wr l)(T:bH [] wr u): dR w u l:=
 ⟨P.t.t T,T.ox P.h2,T.ox P.h3⟩
theorem dR.put{w wr:bf}{l:bI}(P:dR w wr l)(m:bI): dR w (wr.setRow (w+1) ⟨m.row⟩) m:=
 ⟨P.t.setRow _ (.inr gn),(fQ _ _ _ _ gn).t P.h2,eQ P.h3⟩
theorem dR.fin{w wr:bf}{l:bI}(P:dR w wr l): (Instr.storeAt 51 (ba (bc ⟨w,0,bd⟩)) (aR ⟨l.row⟩)).run bA wr=.ok () (wr.setRow w ⟨l.row⟩)/\
  (loadVar 51 ⟨w,0,bd⟩).run bA (wr.setRow w ⟨l.row⟩)=.ok (aR ⟨l.row⟩) (wr.setRow w ⟨l.row⟩)/\bH [] w (wr.setRow w ⟨l.row⟩):=
 ⟨aaz l P.h2 rfl,bo _ _ 51 51 ⟨l.row⟩ (0,0) _ (eQ P.h2) bB rfl (bh ab7).2,P.t.setRow _ (.inr gn)⟩
theorem dR.load{w wr:bf}{l:bI}(P:dR w wr l): (Instr.loadAt 51 (ba (bc ⟨w+1,0,bd⟩))).run bA wr=.ok (aR ⟨l.row⟩) wr:=
 bp wr (w.heap.size+1) 0 51 l.row _ (gp P.h3 lz) bB rfl (bh ab7).2
theorem E8(w:bf): bm bA 24 #[(1:Int)] w λe w'=>e=bz (fB 1).v/\bH [] w w':=by
 obtain⟨V,f⟩:=eX ((w.alloc (be ⟨XV.row⟩ 51)).alloc (be ⟨XV.row⟩ 51));have d:dR w V XV:=lH
 have b:=d.put (dW 1);have c:=lh ZI;have a6:=lh (aaz (dW 1) d.h3 rfl);go_enter func24,ntmps24;go_upto_region 2 with (first
  |(refine yR 2 (di (t:=51) rfl (c.o _)) ?_)
  |(refine bQ (o:=⟨bc 3,_,_,_,_,_⟩) rfl (di (t:=51) rfl (c.o _)) ?_;try go_frame;try simp only [aI];rw [<-f])
  |(refine yR 5 (oN (x:=.tmp 4) (y:=.const (255:Int)) (p:=(1:Int)) (q:=(255:Int)) rfl rfl rfl (ZK 1 _)) ?_)
  |(refine sR a6.o ?_))
 clear c a6 d f;generalize V.setRow (w+1) ⟨(dW 1).row⟩=U at *;go_upto_region 3 with fail
 have A:=lh (MB 0 0);have bs:=lh (λ(u:bf) (T:bH [] U u)=>dQ (o:=7) (ty:=40) (p:=[(1:Int),(0:Int),(0:Int),(0:Int),(1:Int),(0:Int),(1:Int)]) (b.u T).h3 adr lG oB (L':=(fB 1).row) rfl);go_upto_region 4 with (first
  |(go_at_call 65;refine mR (A.o _) λm g=>?_)
  |(refine sR (bs.o _ g) ?_))
 have b:=(b.u g).put (fB 1);clear A bs g;generalize m.setRow (w+1) ⟨(fB 1).row⟩=n at *;have j:=b.load;obtain⟨i,H,E⟩:=b.fin;obtain⟨B,l,N⟩:=lh3 j i (bg H E);clear j i H E;go_wp2_with (first
  |(refine NR rfl 51 (.tmp 3) rfl rfl B.o ?_;try go_frame)
  |(refine sR l.o ?_))
 obtain⟨H,E⟩:=N.o;exact ag (v:=aR ⟨(fB 1).row⟩) nB rfl ⟨rfl,E⟩
theorem EK(w:bf): bm bA 24 #[(2:Int)] w λe w'=>e=bz (fB 2).v/\bH [] w w':=by
 obtain⟨V,f⟩:=eX ((w.alloc (be ⟨XV.row⟩ 51)).alloc (be ⟨XV.row⟩ 51));have d:dR w V XV:=lH
 have b:=d.put (dW 2);have c:=lh ZI;have a6:=lh (aaz (dW 2) d.h3 rfl);go_enter func24,ntmps24;go_upto_region 2 with (first
  |(refine yR 2 (di (t:=51) rfl (c.o _)) ?_)
  |(refine bQ (o:=⟨bc 3,_,_,_,_,_⟩) rfl (di (t:=51) rfl (c.o _)) ?_;try go_frame;try simp only [aI];rw [<-f])
  |(refine yR 5 (oN (x:=.tmp 4) (y:=.const (255:Int)) (p:=(2:Int)) (q:=(255:Int)) rfl rfl rfl (ZK 2 _)) ?_)
  |(refine sR a6.o ?_))
 clear c a6 d f;generalize V.setRow (w+1) ⟨(dW 2).row⟩=U at *;have b:dR w U (fB 2):=b;have i:=b.load;obtain⟨g,H,E⟩:=b.fin;obtain⟨B,l,N⟩:=lh3 i g (bg H E);clear i g H E;go_wp2_with (first
  |(refine NR rfl 51 (.tmp 3) rfl rfl B.o ?_;try go_frame)
  |(refine sR l.o ?_))
 obtain⟨H,E⟩:=N.o;exact ag (v:=aR ⟨(fB 2).row⟩) nB rfl ⟨rfl,E⟩
theorem Ew(w:bf): bm bA 24 #[(3:Int)] w λe w'=>e=bz (fB 3).v/\bH [] w w':=by
 obtain⟨V,f⟩:=eX ((w.alloc (be ⟨XV.row⟩ 51)).alloc (be ⟨XV.row⟩ 51));have d:dR w V XV:=lH
 have b:=d.put (dW 3);have c:=lh ZI;have a6:=lh (aaz (dW 3) d.h3 rfl);go_enter func24,ntmps24;go_upto_region 2 with (first
  |(refine yR 2 (di (t:=51) rfl (c.o _)) ?_)
  |(refine bQ (o:=⟨bc 3,_,_,_,_,_⟩) rfl (di (t:=51) rfl (c.o _)) ?_;try go_frame;try simp only [aI];rw [<-f])
  |(refine yR 5 (oN (x:=.tmp 4) (y:=.const (255:Int)) (p:=(3:Int)) (q:=(255:Int)) rfl rfl rfl (ZK 3 _)) ?_)
  |(refine sR a6.o ?_))
 clear c a6 d f;generalize V.setRow (w+1) ⟨(dW 3).row⟩=U at *;go_upto_region 5 with fail
 have a8:=dQ (o:=17) (ty:=43) (p:=[(6:Int),(0:Int),aM bd 0 0,(0:Int),(0:Int),aM bd 0 0]) b.h3 afW lG (by intro v j;simp only [aS,aW,or_false]at j;rcases j with h|h|h|h|h|h<;>subst h<;>rfl) (L':=(fB 3).row) rfl;have bs:=lh a8;clear a8;go_upto_region 6 with (first
  |(refine yR 16 (ab9 (x:=.const (6:Int)) rfl rfl (aeG _)) ?_)
  |(refine sR bs.o ?_))
 have b:=b.put (fB 3);clear bs;generalize U.setRow (w+1) ⟨(fB 3).row⟩=n at *;have i:=b.load;obtain⟨g,H,E⟩:=b.fin;obtain⟨B,l,N⟩:=lh3 i g (bg H E);clear i g H E;go_wp2_with (first
  |(refine NR rfl 51 (.tmp 3) rfl rfl B.o ?_;try go_frame)
  |(refine sR l.o ?_))
 obtain⟨H,E⟩:=N.o;exact ag (v:=aR ⟨(fB 3).row⟩) nB rfl ⟨rfl,E⟩
theorem Fp(w:bf): bm bA 24 #[(4:Int)] w λe w'=>e=bz (fB 4).v/\bH [] w w':=by
 obtain⟨V,f⟩:=eX ((w.alloc (be ⟨XV.row⟩ 51)).alloc (be ⟨XV.row⟩ 51));have d:dR w V XV:=lH
 have b:=d.put (dW 4);have c:=lh ZI;have a6:=lh (aaz (dW 4) d.h3 rfl);go_enter func24,ntmps24;go_upto_region 2 with (first
  |(refine yR 2 (di (t:=51) rfl (c.o _)) ?_)
  |(refine bQ (o:=⟨bc 3,_,_,_,_,_⟩) rfl (di (t:=51) rfl (c.o _)) ?_;try go_frame;try simp only [aI];rw [<-f])
  |(refine yR 5 (oN (x:=.tmp 4) (y:=.const (255:Int)) (p:=(4:Int)) (q:=(255:Int)) rfl rfl rfl (ZK 4 _)) ?_)
  |(refine sR a6.o ?_))
 clear c a6 d f;generalize V.setRow (w+1) ⟨(dW 4).row⟩=U at *;go_upto_region 3 with fail
 have A:=lh (MB 0 0);have bs:=lh (λ(u:bf) (T:bH [] U u)=>dQ (o:=7) (ty:=40) (p:=[(1:Int),(0:Int),(0:Int),(0:Int),(1:Int),(0:Int),(1:Int)]) (b.u T).h3 adr lG oB (L':=(fB 4).row) rfl);go_upto_region 4 with (first
  |(go_at_call 65;refine mR (A.o _) λm g=>?_)
  |(refine sR (bs.o _ g) ?_))
 have b:=(b.u g).put (fB 4);clear A bs g;generalize m.setRow (w+1) ⟨(fB 4).row⟩=n at *;have j:=b.load;obtain⟨i,H,E⟩:=b.fin;obtain⟨B,l,N⟩:=lh3 j i (bg H E);clear j i H E;go_wp2_with (first
  |(refine NR rfl 51 (.tmp 3) rfl rfl B.o ?_;try go_frame)
  |(refine sR l.o ?_))
 obtain⟨H,E⟩:=N.o;exact ag (v:=aR ⟨(fB 4).row⟩) nB rfl ⟨rfl,E⟩
theorem EM(w:bf): bm bA 24 #[(5:Int)] w λe w'=>e=bz (fB 5).v/\bH [] w w':=by
 obtain⟨V,f⟩:=eX ((w.alloc (be ⟨XV.row⟩ 51)).alloc (be ⟨XV.row⟩ 51));have d:dR w V XV:=lH
 have b:=d.put (dW 5);have c:=lh ZI;have a6:=lh (aaz (dW 5) d.h3 rfl);go_enter func24,ntmps24;go_upto_region 2 with (first
  |(refine yR 2 (di (t:=51) rfl (c.o _)) ?_)
  |(refine bQ (o:=⟨bc 3,_,_,_,_,_⟩) rfl (di (t:=51) rfl (c.o _)) ?_;try go_frame;try simp only [aI];rw [<-f])
  |(refine yR 5 (oN (x:=.tmp 4) (y:=.const (255:Int)) (p:=(5:Int)) (q:=(255:Int)) rfl rfl rfl (ZK 5 _)) ?_)
  |(refine sR a6.o ?_))
 clear c a6 d f;generalize V.setRow (w+1) ⟨(dW 5).row⟩=U at *;have b:dR w U (fB 5):=b;have i:=b.load;obtain⟨g,H,E⟩:=b.fin;obtain⟨B,l,N⟩:=lh3 i g (bg H E);clear i g H E;go_wp2_with (first
  |(refine NR rfl 51 (.tmp 3) rfl rfl B.o ?_;try go_frame)
  |(refine sR l.o ?_))
 obtain⟨H,E⟩:=N.o;exact ag (v:=aR ⟨(fB 5).row⟩) nB rfl ⟨rfl,E⟩
theorem yE(k:Int)(a:1<=k)(f:k<=5)(w:bf): bm bA 24 #[k] w λe w'=>e=bz (fB k).v/\bH [] w w':=by
 obtain rfl|rfl|rfl|rfl|rfl:k=1\/k=2\/k=3\/k=4\/k=5:=by omega
 .exact E8 w
 .exact EK w
 .exact Ew w
 .exact Fp w
 exact EM w
def m9:List bj:=[(4096:Int),(0:Int),(0:Int),(0:Int),(4096:Int),(0:Int),(0:Int),(0:Int),(4096:Int)]
theorem aeP(w:bf): (Instr.build 89 #[(0,(4096:Int)),(1,(0:Int)),(2,(0:Int)),(3,(0:Int)),(4,(4096:Int)),(5,(0:Int)),(6,(0:Int)),(7,(0:Int)),(8,(4096:Int))]).run bA w=.ok (aR ⟨m9⟩) w:=lB
theorem afG{o:bq}{a:Act}{w:bf}(e:o.op=.build 89 #[(0,Operand.const (4096:Int)),(1,Operand.const (0:Int)),(2,Operand.const (0:Int)),(3,Operand.const (0:Int)),(4,Operand.const (4096:Int)),(5,Operand.const (0:Int)),(6,Operand.const (0:Int)),(7,Operand.const (0:Int)),(8,Operand.const (4096:Int))]): (bt a.eval o).run bA w=.ok (.value (aR ⟨m9⟩)) w:=
 iU e (by simp [Act.eval]) (aeP w)
theorem ab2:(prog.info? 89).map (λi=>(i.zero,i.size))=bc (bc (aR #[(0:Int),(0:Int),(0:Int),(0:Int),(0:Int),(0:Int),(0:Int),(0:Int),(0:Int)]),9):=lB
theorem aeR: AL 89 #[(0:Int),(0:Int),(0:Int),(0:Int),(0:Int),(0:Int),(0:Int),(0:Int),(0:Int)]:=λu=>by unfold Instr.alloc;rw [Sem.run_bind,(bh ab2).1];rfl
theorem agl:∀v∈m9,v.oneCell'=bw:=by intro v e;simp only [m9,aS,aW,or_false]at e;rcases e with h|h|h|h|h|h|h|h|h<;>subst h<;>rfl
theorem aeC(u:bf): (Instr.storeAt 89 (ba (bc ⟨u,0,bd⟩)) (aR ⟨m9⟩)).run bA (u.alloc (be #[(0:Int),(0:Int),(0:Int),(0:Int),(0:Int),(0:Int),(0:Int),(0:Int),(0:Int)] 89))=.ok () (u.alloc (be ⟨m9⟩ 89)):=
 run_storeAt_new u 89 _ ⟨m9⟩ (bh ab2).2 rfl (all_oneCell_toArray (cs:=m9) agl)
def kS(a b c:bj): List bj:=[a,b,c,(4096:Int),(0:Int),(0:Int),(0:Int),(4096:Int),(0:Int),(0:Int),(0:Int),(4096:Int),(4096:Int),(0:Int),(0:Int),(0:Int),(4096:Int),(0:Int),(0:Int),(0:Int),(4096:Int)]
def aeV:List bj:=[aM bd 0 0,aM bd 0 0,aM bd 0 0,(0:Int),(0:Int),(0:Int),(0:Int),(0:Int),(0:Int),(0:Int),(0:Int),(0:Int),(0:Int),(0:Int),(0:Int),(0:Int),(0:Int),(0:Int),(0:Int),(0:Int),(0:Int)]
theorem abl:(prog.info? 91).map (λi=>(i.zero,i.size))=bc (bc (aR ⟨aeV⟩),21):=lB
theorem adQ: AL 91 ⟨aeV⟩:=λu=>by unfold Instr.alloc;rw [Sem.run_bind,(bh abl).1];rfl
theorem ae6(g:Nat)(w:bf): (Instr.build 88 #[(0,aM (bc ⟨g,0,bd⟩) 2 2),(1,aM (bc ⟨g,0,bd⟩) 2 2),(2,aM (bc ⟨g,0,bd⟩) 2 2)]).run bA w=.ok (aR #[aM (bc ⟨g,0,bd⟩) 2 2,aM (bc ⟨g,0,bd⟩) 2 2,aM (bc ⟨g,0,bd⟩) 2 2]) w:=lB
theorem afn(g:Nat)(w:bf): (Instr.build 91 #[(0,aR #[aM (bc ⟨g,0,bd⟩) 2 2,aM (bc ⟨g,0,bd⟩) 2 2,aM (bc ⟨g,0,bd⟩) 2 2]),(1,aR ⟨m9⟩),(2,aR ⟨m9⟩)]).run bA w=.ok (aR ⟨kS (aM (bc ⟨g,0,bd⟩) 2 2) (aM (bc ⟨g,0,bd⟩) 2 2) (aM (bc ⟨g,0,bd⟩) 2 2)⟩) w:=lB
theorem aab{P:Program}{o:bq}{a:Act}{w w':bf}{t:bl}{i j k:Nat}{x y z:br}{p q r v:bj}(e:o.op=.build t #[(i,x),(j,y),(k,z)])(b:a.eval x=p)(hy:a.eval y=q)(J:a.eval z=r)(C:(Instr.build t #[(i,p),(j,q),(k,r)]).run P w=.ok v w'): (bt a.eval o).run P w=.ok (.value v) w':=
 iU e (by simp [b,hy,J]) C
theorem afx(g:Nat): ∀v∈kS (aM (bc ⟨g,0,bd⟩) 2 2) (aM (bc ⟨g,0,bd⟩) 2 2) (aM (bc ⟨g,0,bd⟩) 2 2),v.oneCell'=bw:=by intro v e;simp only [kS,aS,aW,or_false]at e;rcases e with h|h|h|h|h|h|h|h|h|h|h|h|h|h|h|h|h|h|h|h|h<;>subst h<;>rfl
theorem I5(w:bf): bm bA 73 #[] w λe w'=>(∃A n u j E C k I D,e=bz (aR ⟨kS (aM A n u) (aM j E C) (aM k I D)⟩))/\bH [] w w':=by
 obtain⟨s,b7⟩:=eX ((w.alloc (be ⟨aeV⟩ 91)).alloc (be #[(0:Int),(65535:Int)] 3));obtain⟨l,ap⟩:=eX (s.alloc (be ⟨m9⟩ 89));have s1:s.heap.size=w.heap.size+2:=sd
 have b:bH [] (w.alloc (be ⟨aeV⟩ 91)) s:=b7▸(tR _).a _;have c:bH [] s l:=ap▸(tR _).a _;have d:l.heap[w.heap.size]?=bc (be ⟨aeV⟩ 91 (0,0)):=((b.t c).old _ lz lz).t (bk _ _);have i:l.heap[s.heap.size]?=bc (be ⟨m9⟩ 89 (0,0)):=ap▸bk _ _;have a8:=dQ (o:=0) (ty:=91) (p:=kS (aM (bc ⟨w+1,0,bd⟩) 2 2) (aM (bc ⟨w+1,0,bd⟩) 2 2) (aM (bc ⟨w+1,0,bd⟩) 2 2)) d (bh abl).2 (aQ 21) (afx _) (L':=kS (aM (bc ⟨w+1,0,bd⟩) 2 2) (aM (bc ⟨w+1,0,bd⟩) 2 2) (aM (bc ⟨w+1,0,bd⟩) 2 2)) rfl;have F:=bp l s.heap.size 0 89 m9 _ (gp i lz) underlying89 rfl (bh ab2).2;have S:bH [] w (l.setRow w ⟨kS (aM (bc ⟨w+1,0,bd⟩) 2 2) (aM (bc ⟨w+1,0,bd⟩) 2 2) (aM (bc ⟨w+1,0,bd⟩) 2 2)⟩):=((((tR w).a _).t b).t c).setRow _ (.inr (aQ _));have G:=bo (P:=bA) _ w.heap.size 91 91 ⟨kS (aM (bc ⟨w+1,0,bd⟩) 2 2) (aM (bc ⟨w+1,0,bd⟩) 2 2) (aM (bc ⟨w+1,0,bd⟩) 2 2)⟩ (0,0) _ (eQ d) underlying91 rfl (bh abl).2;obtain⟨m,bs,B,h,f,M⟩:=lh6 (bg S G) a8 (show (loadVar 89 ⟨s,0,bd⟩).run bA l=.ok (aR ⟨m9⟩) l from F) adQ aeR (aeC s);clear b c d i a8 F S G;go_enter func73,ntmps73;go_upto_region 2 with (refine yR 0 (di (t:=91) rfl (h.o _)) ?_)
 try simp only [aI]
 rw [<-b7];go_upto_region 3 with (first
  |(refine yR 4 (afG rfl) ?_)
  |(refine yR 2 (di (t:=89) rfl (f.o _)) ?_)
  |(refine sR M.o ?_))
 rw [<-ap];clear b7 ap h f M;go_wp2_with (first
  |(refine yR 8 (aab (p:=aM (bc ⟨w+1,0,bd⟩) 2 2) (q:=aM (bc ⟨w+1,0,bd⟩) 2 2) (r:=aM (bc ⟨w+1,0,bd⟩) 2 2) (v:=aR #[aM (bc ⟨w+1,0,bd⟩) 2 2,aM (bc ⟨w+1,0,bd⟩) 2 2,aM (bc ⟨w+1,0,bd⟩) 2 2]) (x:=.tmp 5) (y:=.tmp 6) (z:=.tmp 7) rfl rfl rfl rfl (ae6 _ _)) ?_)
  |(refine NR (g:=s.heap.size) (v:=aR ⟨m9⟩) rfl 89 (.tmp 2) rfl rfl B.o ?_;try go_frame)
  |(refine yR 11 (aab (p:=aR #[aM (bc ⟨w+1,0,bd⟩) 2 2,aM (bc ⟨w+1,0,bd⟩) 2 2,aM (bc ⟨w+1,0,bd⟩) 2 2]) (q:=aR ⟨m9⟩) (r:=aR ⟨m9⟩) (v:=aR ⟨kS (aM (bc ⟨w+1,0,bd⟩) 2 2) (aM (bc ⟨w+1,0,bd⟩) 2 2) (aM (bc ⟨w+1,0,bd⟩) 2 2)⟩) (x:=.tmp 8) (y:=.tmp 9) (z:=.tmp 10) rfl rfl rfl rfl (afn _ _)) ?_)
  |(refine sR bs.o ?_))
 obtain⟨S,G⟩:=m.o;exact ag (v:=aR ⟨kS (aM (bc ⟨w+1,0,bd⟩) 2 2) (aM (bc ⟨w+1,0,bd⟩) 2 2) (aM (bc ⟨w+1,0,bd⟩) 2 2)⟩) (by simp [results,results73,asAddr,G]) rfl ⟨⟨_,_,_,_,_,_,_,_,_,rfl⟩,S⟩
theorem qU(u:bf)(xs:List Int)(i:xs.length<=1000): Il (u.alloc (be ⟨xs.map (Value.int .i64)⟩ 3)) u.heap.size (aM (bc ⟨u,0,bd⟩) xs.length xs.length) xs:=by refine⟨by simp,.inr ⟨u,0,xs.length,⟨xs.map (Value.int .i64)⟩,rfl,aQ _,bk u _,aQ _,aK i lG,by simp,λj v e=>?_⟩⟩;rw [Nat.zero_add];simpa using e
def qK(w:bf)(base:Nat)(v:bj): Prop:=∃c,Il w base v c/\jh c=bw
theorem JR(q:Int)(w:bf): bm bA 74 #[q] w λe w'=>(∃v,e=bz v/\qK w' w.heap.size v)/\bH [] w w':=by
 obtain⟨s,c⟩:∃s,bits BinOp.and IntKind.i64 q 3=s:=⟨_,rfl⟩;have n:s=1\/s=2\/s=3\/(s≠1/\s≠2/\s≠3):=gn
 rcases n with rfl|rfl|rfl|⟨b,f,g⟩
 .go_enter func74,ntmps74;go_wp2;go_ret;exact⟨⟨_,rfl,[0,4096,16384,36864,65535],qU w [0,4096,16384,36864,65535] lG,lG⟩,(tR w).a _⟩
 .go_enter func74,ntmps74;go_wp2;go_ret;exact⟨⟨_,rfl,[0,40000,65535],qU w [0,40000,65535] lG,lG⟩,(tR w).a _⟩
 .go_enter func74,ntmps74;go_wp2;go_ret;exact⟨⟨_,rfl,[100,100,30000,30000,65000],qU w [100,100,30000,30000,65000] lG,lG⟩,(tR w).a _⟩
 have d:(s==1)=bv:=rK
 have h:(s==2)=bv:=by simpa using f
 have i:(s==3)=bv:=nK
 go_enter func74,ntmps74;go_wp2;go_ret;exact⟨⟨_,rfl,[0,65535],qU w [0,65535] lG,lG⟩,(tR w).a _⟩
theorem O7(w:bf)(x:Int)(j:Nat)(u:bj)(o:[Value.int .i64 x][j]?=bc u): (w.alloc (be #[x] 3)).cell? ⟨w,0+j,bd⟩=bc u:=by
 cases j with
 |succ j=>simp at o
 |zero=>
  have o:Value.int .i64 x=u:=by simpa using o
  subst o;rw [aA _ _ _ _ _ _ (bk w _)];rfl
theorem IL{t:bl}(b:prog.underlying t=bc (.slice 3)){w:bf}{base:Nat}{v:bj}{xs:List Int}(h:Il w base v xs)(x:Int)(g:base<=w.heap.size)(e:xs.length+1<=1000000)(ty:bl):
  ∃d w',(Builtin.append_ #[t,t] ty #[v,aM (bc ⟨w,0,bd⟩) 1 1]).run bA (w.alloc (be #[x] 3))=.ok d w'/\Il w' base d (xs++[x])/\bH (dI v) w w':=by
 obtain⟨i,Z,D,B,y⟩:=Qj;have T:=(tR w).alloc (be #[x] 3);obtain⟨d,w',l,z,N,C⟩:=oq (P:=bA) (ty:=ty) b Z D B y rfl gn (v:=v) (n:=xs.length) (xs:=xs.map (Value.int .i64)) (h.u T) ⟨w,0,bd⟩ 1 1 [x] rfl (λj u o=>by
  rw [Addr.add_lit];exact O7 w x j u o) (λu o=>by rw [aN]at o;subst o;rfl) (aK e lG) gn oU
 refine⟨d,w',l,?_,((bH.refl (dI v) w).a _).t N⟩;unfold Il;rw [aO,List.map_append];exact z
theorem yF{c:Array bq}{rest:List bq}{o:bq}{a:Act}{w:bf}{Q:Exit->Act->bf->Prop}{t:bl}(l:prog.underlying t=bc (.slice 3))(i:o.guard=bd)(s y:br)
  (j:o.op=Op.call { callee:=Callee.builtin Builtin.append,args:=#[s,y],argTypes:=#[t,t] }) {b:Nat} {v:bj} {e:List Int} {x:Int} (n:a.eval s=v) (h:Il w b v e)
  (m:a.eval y=aM (bc ⟨w,0,bd⟩) 1 1) (g:b<=w.heap.size) (f:e.length+1<=1000000)
  (K:∀d w',Il w' b d (e++[x])->bH (dI v) w w'->wpList bA c Q rest (a.put o.dst d) w'):wpList bA c Q (o::rest) a (w.alloc (be #[x] 3)):=by
 obtain⟨d,w',k,p,q⟩:=IL l h x g f o.type;exact rG i s y t j n m k (K d w' p q)
theorem Il.set{w:bf}{base g o n cap:Nat}{xs:List Int}(h:Il w base (aM (bc ⟨g,o,bd⟩) n cap) xs)(i:Nat)(m:i<xs.length)(z:Int): Il (w.setCell ⟨g,o+i,bd⟩ z) base (aM (bc ⟨g,o,bd⟩) n cap) (xs.set i z)/\bH [g] w (w.setCell ⟨g,o+i,bd⟩ z)/\w.cell? ⟨g,o+i,bd⟩=bc (bb .i64 (xs.getD i 0))/\w.frozen? ⟨g,o+i,bd⟩=bv/\base<=g:=by
 obtain⟨A,v⟩:=h;rcases v with ⟨e,y⟩|⟨O,B,x,c,e,d,b,G,s,t,f⟩
 .cases e
 injection e with l p N;injection l with l;injection l with C q _;subst C;subst q;subst p;subst N;have ax:c[o+i]?=bc (bb .i64 (xs.getD i 0)):=f i _ (by simp [List.getD,m]);refine⟨⟨lz,.inr ⟨g,o,cap,c.setIfInBounds (o+i) z,by rw [List.length_set],d,?_,by rw [List.length_set];exact G,s,by simpa using t,λj u a=>?_⟩⟩,(bH.refl [g] w).setCell _ (.inl lz),by rw [aA _ _ _ _ _ _ b];exact ax,by simp [World.frozen?,b],d⟩
 .simp only [World.setCell,au,if_true,b];rfl
 rw [aP,List.getElem?_set]at a;by_cases k:i=j
 .subst k;rw [aG rfl,aG m]at a;rw [Array.getElem?_setIfInBounds,aG rfl,aG (by have:=(ae.1 ax).1;exact this)];simpa using a
 rw [aF k]at a;rw [Array.getElem?_setIfInBounds,aF gn];exact f j u (by rw [aP];exact a)
theorem CG(H:List Int)(A:Option Addr)(n cap:Nat)(hn:n<=200)(w:bf)(h:dn w A n H):
  bm bA 112 #[aM A n cap] w λe w'=>(∃v c,e=bz v/\Il w' w.heap.size v c)/\bH [] w w':=by
 have hC:=λh1=>h.cell h1;have HC:=lh hC;have a7:=lh (qU w [0] lG);clear hC h;go_enter func112,ntmps112;go_upto_region 3 with (fail)
 obtain⟨W,P⟩:=eX (w.alloc (be #[(0:Int)] 3));have T0:bH [] w W:=P▸(tR w).a _;have a9:Il W w.heap.size (aM (bc ⟨w,0,bd⟩) 1 1) [0]:=P▸a7.o;rw [<-P];clear P a7;go_wp2_with fail
 go_loopw [3,4,5] (λs3 s4 s5 wr=>∃(k:Nat) (D:List Int) (f:Int),k<=n/\s5=k/\s4=f/\(0<=f/\f<=65535*(k:Int))/\D.length=k+1/\Il wr w.heap.size s3 D/\bH [] w wr) (λ_ _ s5 _=>n-(bx s5).toNat);case atStart=>exact⟨0,[0],0,gn,rfl,rfl,gn,rfl,a9,T0⟩
 clear a9 T0;obtain⟨k,D,f,hk,rfl,rfl,a6,R,Z,T⟩:=hrel;obtain⟨A3,S,ab,rfl,a1⟩:=Z.ints;have aE:=a1.1;by_cases ad:k<n
 .obtain⟨g,o,rfl,K⟩:=HC.o gn;have ax:=K _ T k ad;obtain⟨c,ec⟩:∃c,bits BinOp.and IntKind.i64 (H.getD k 0) 65535=c:=⟨_,rfl⟩;have hc:=dM (H.getD k 0) 65535 gn;rw [show ((65535:Nat):Int)=65535 from rfl,ec]at hc;generalize H.getD k 0=s at *;have wc:wrap64 (f+c)=f+c:=fC _ gn gn;have b0:(0:Int)<=(k:Int):=by omega
  have b1:(k:Int)<(n:Int):=gn
  have b2:(k:Int)<256:=gn
  have HS:Hid (0<=f+c/\f+c<=65535*((k:Int)+1)):=lh gn;obtain⟨I,J,Q⟩:=lh3 Z T R;have ar:=T.size;clear Z a1 aE T K hc a6 R;go_wp2_with (refine yF underlying41 rfl _ _ rfl rfl I.o rfl gn (by have:=Q.o;omega) ?_;intro v' w' M N)
  have O:=kN J.o N I.o (aQ _);go_roundw;case rel=>exact⟨k+1,_,f+c,gn,by go_num,rfl,by have:=HS.o;omega,by rw [aO,Q.o];rfl,M,O⟩
  simp [bx];omega
 obtain rfl:n=k:=gn
 obtain⟨I,J,Q⟩:=lh3 Z T R;have ar:=T.size;have a8:=lh aE;clear Z a1 T R aE;have HS:=lh a6;clear a6;by_cases af:n=0
 .subst af;have e3:S=1:=by have:=Q.o;have:=a8.o;omega
  subst e3;go_wp2_with (refine yF underlying41 rfl _ _ rfl rfl I.o rfl gn (by have:=Q.o;omega) ?_;intro v' w' M N;have O:=kN J.o N I.o (aQ _);obtain⟨X,b,a0,rfl,aa⟩:=M.ints;obtain⟨C,b4,p,L⟩:=lh4 M O (aa.1.t (by rw [aO,Q.o];rfl):b=2) (by rw [aO,Q.o];rfl:(D++[(65535:Int)]).length=2);clear M N O aa)
  go_loopw [7] (λs7 wr=>∃(j:Nat) (m:List Int),j<=2/\s7=j/\m.length=2/\Il wr w.heap.size (aM X b a0) m/\bH [] w wr) (λs7 _=>2-(bx s7).toNat);case atStart=>exact⟨0,D++[65535],gn,rfl,L.o,C.o,b4.o⟩
  clear C b4;obtain⟨j,m,hj,rfl,l,d,i⟩:=hrel;obtain⟨q,u,B⟩:=lh3 d i l;by_cases a5:j<2
  .by_cases E:0<f
   .obtain⟨g9,o9,rfl,_⟩:=(d.ints').cell mv;obtain⟨_,_,a3,a4,a2⟩:=d.set j gn 0;have U:(0:Int)<=(j:Int):=gn;have F:(j:Int)<(b:Int):=mv;have G:¬f=0:=gn;have d3:(f==0)=bv:=qv;clear d i l;generalize m.getD j 0=x at *;(go_wp2_with fail);have y:=λz=>q.o.set j pY z;go_roundw;case rel=>exact⟨j+1,_,gn,by go_num,by rw [List.length_set];exact B.o,(y _).1,pF u.o (y _).2.1 (y 0).2.2.2.2⟩
    simp [bx];omega
   have F:(j:Int)<(b:Int):=mv;have G:decide (0<f)=bv:=ak E;clear d i l;go_wp2;go_ret;exact⟨⟨_,rfl,_,q.o⟩,u.o⟩
  have F:¬j<b:=mv
  have V:decide (j<b)=bv:=ak F;have Y:¬(j:Int)<(b:Int):=gn
  clear d i l;go_wp2;go_ret;exact⟨⟨_,rfl,_,q.o⟩,u.o⟩
 have e3:(S:Int)=(n:Int)+1:=by have:=Q.o;have:=a8.o;omega
 have f2:decide ((S:Int)<2)=bv:=ak gn;obtain⟨X,b,a0,ac⟩:∃X b a0,X=A3/\b=S/\a0=ab:=⟨_,_,_,rfl,rfl,rfl⟩;obtain⟨rfl,rfl,rfl⟩:=ac;have C:=lh I.o;have b4:=lh J.o;have p:Hid (b=n+1):=lh gn;have L:Hid (D.length=n+1):=lh Q.o;clear e3;by_cases an:n<=2
 .have f3:decide (2<(n:Int))=bv:=ak gn;go_wp2_with fail
  go_loopw [7] (λs7 wr=>∃(j:Nat) (m:List Int),j<=(n+1)/\s7=j/\m.length=(n+1)/\Il wr w.heap.size (aM X b a0) m/\bH [] w wr) (λs7 _=>(n+1)-(bx s7).toNat);case atStart=>exact⟨0,D,gn,rfl,L.o,C.o,b4.o⟩
  clear C b4;obtain⟨j,m,hj,rfl,l,d,i⟩:=hrel;obtain⟨q,u,B⟩:=lh3 d i l;by_cases a5:j<(n+1)
  .by_cases E:0<f
   .obtain⟨g9,o9,rfl,_⟩:=(d.ints').cell mv;obtain⟨_,_,a3,a4,a2⟩:=d.set j gn 0;have U:(0:Int)<=(j:Int):=gn;have F:(j:Int)<(b:Int):=mv;have G:¬f=0:=gn;have d3:(f==0)=bv:=qv;clear d i l;generalize m.getD j 0=x at *;(go_wp2_with fail);have y:=λz=>q.o.set j pY z;go_roundw;case rel=>exact⟨j+1,_,gn,by go_num,by rw [List.length_set];exact B.o,(y _).1,pF u.o (y _).2.1 (y 0).2.2.2.2⟩
    simp [bx];omega
   have F:(j:Int)<(b:Int):=mv;have G:decide (0<f)=bv:=ak E;clear d i l;go_wp2;go_ret;exact⟨⟨_,rfl,_,q.o⟩,u.o⟩
  have F:¬j<b:=mv
  have V:decide (j<b)=bv:=ak F;have Y:¬(j:Int)<(b:Int):=gn
  clear d i l;go_wp2;go_ret;exact⟨⟨_,rfl,_,q.o⟩,u.o⟩
 have f3:(2:Int)<(n:Int):=gn
 obtain⟨g,o,rfl,K⟩:=HC.o gn;have x0:=K _ J.o 0 gn;have x1:=K _ J.o 1 gn;rw [Nat.add_zero]at x0;have hc:=dM (H.getD 1 0) 4095 gn;clear K;generalize H.getD 0 0=s0,H.getD 1 0=s1 at *;have f4:(1:Int)<(n:Int):=gn
 have f5:(0:Int)<(n:Int):=gn
 obtain⟨c7,e7⟩:∃c,bits BinOp.and IntKind.i64 s0 7=c:=⟨_,rfl⟩;by_cases h7:c7=3
 .subst h7;go_wp2_with fail
  go_loopw [7] (λs7 wr=>∃(j:Nat) (m:List Int),j<=(n+1)/\s7=j/\m.length=(n+1)/\Il wr w.heap.size (aM X b a0) m/\bH [] w wr) (λs7 _=>(n+1)-(bx s7).toNat);case atStart=>exact⟨0,D,gn,rfl,L.o,C.o,b4.o⟩
  clear C b4;obtain⟨j,m,hj,rfl,l,d,i⟩:=hrel;obtain⟨q,u,B⟩:=lh3 d i l;by_cases a5:j<(n+1)
  .by_cases E:0<f
   .obtain⟨g9,o9,rfl,_⟩:=(d.ints').cell mv;obtain⟨_,_,a3,a4,a2⟩:=d.set j gn 0;have U:(0:Int)<=(j:Int):=gn;have F:(j:Int)<(b:Int):=mv;have G:¬f=0:=gn;have d3:(f==0)=bv:=qv;clear d i l;generalize m.getD j 0=x at *;(go_wp2_with fail);have y:=λz=>q.o.set j pY z;go_roundw;case rel=>exact⟨j+1,_,gn,by go_num,by rw [List.length_set];exact B.o,(y _).1,pF u.o (y _).2.1 (y 0).2.2.2.2⟩
    simp [bx];omega
   have F:(j:Int)<(b:Int):=mv;have G:decide (0<f)=bv:=ak E;clear d i l;go_wp2;go_ret;exact⟨⟨_,rfl,_,q.o⟩,u.o⟩
  have F:¬j<b:=mv
  have V:decide (j<b)=bv:=ak F;have Y:¬(j:Int)<(b:Int):=gn
  clear d i l;go_wp2;go_ret;exact⟨⟨_,rfl,_,q.o⟩,u.o⟩
 have am:(c7==3)=bv:=by simpa using h7
 go_wp2_with fail
 go_loopw [7] (λs7 wr=>∃(j:Nat) (m:List Int),j<=(n+1)/\s7=j/\m.length=(n+1)/\Il wr w.heap.size (aM X b a0) m/\bH [] w wr) (λs7 _=>(n+1)-(bx s7).toNat);case atStart=>exact⟨0,D,gn,rfl,L.o,C.o,b4.o⟩
 clear C b4;obtain⟨j,m,hj,rfl,l,d,i⟩:=hrel;obtain⟨q,u,B⟩:=lh3 d i l;by_cases a5:j<(n+1)
 .by_cases E:0<f
  .obtain⟨g9,o9,rfl,_⟩:=(d.ints').cell mv;obtain⟨_,_,a3,a4,a2⟩:=d.set j gn 0;have U:(0:Int)<=(j:Int):=gn;have F:(j:Int)<(b:Int):=mv;have G:¬f=0:=gn;have d3:(f==0)=bv:=qv;clear d i l;generalize m.getD j 0=x at *;(go_wp2_with fail);have y:=λz=>q.o.set j pY z;go_roundw;case rel=>exact⟨j+1,_,gn,by go_num,by rw [List.length_set];exact B.o,(y _).1,pF u.o (y _).2.1 (y 0).2.2.2.2⟩
   simp [bx];omega
  have F:(j:Int)<(b:Int):=mv
  have G:decide (0<f)=bv:=ak E;clear d i l;go_wp2;go_ret;exact⟨⟨_,rfl,_,q.o⟩,u.o⟩
 have F:¬j<b:=mv
 have V:decide (j<b)=bv:=ak F;have Y:¬(j:Int)<(b:Int):=gn
 clear d i l;go_wp2;go_ret;exact⟨⟨_,rfl,_,q.o⟩,u.o⟩
