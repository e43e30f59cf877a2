import Derived.Test.YtaahejdimjbhhaaGreatDoorK18
set_option maxRecDepth 100000
set_option maxHeartbeats 0
set_option linter.all false
namespace Go.Proofs.YtaahejdimjbhhaaGreatDoor
open Tryz Go.RowKit Go.Den
open Go renaming World->ar,Value->aD,run_loadAt_mid->aL,TypeId->aM,execOp->ba,Calls->bb,Program->bc,Oper->be,Operand->bf
open Option renaming some->bh,none->bj
open Go.Value renaming pointer->bk,slice->bl,int->bm,agg->bo,bool->bp
open Go.Obj renaming cells->bq
open Go.RowKit renaming wrap64->br,intOf->bs
open Go.Proofs.Tryz renaming prog->bv,underlying91->bw
open Go.Ending renaming returned->bz
open Bool renaming true->bA,false->bB
section
open Go.RowKit
def aap(a b:List Int)(i:Nat): Int:=a.getD (3*(i/3)) 0*b.getD (i%3) 0+a.getD (3*(i/3)+1) 0*b.getD (3+i%3) 0+a.getD (3*(i/3)+2) 0*b.getD (6+i%3) 0-(if i/3=i%3 then 16777216 else 0)
def agx(a b:List Int): Bool:=(List.range 9).all λi=>decide (-32768<=aap a b i/\aap a b i<=32768)
theorem aca{a b:Int}(C:-65536<=a/\a<=65536)(g:-65536<=b/\b<=65536): -4294967296<=a*b/\a*b<=4294967296:=by
 have h:(a*b).natAbs<=65536*65536:=qq
 omega
theorem YK{n:Int}(h:-100000000000<=n/\n<=100000000000): br n=n:=by obtain⟨e,a⟩:=h;unfold br;omega
theorem YV{a b c d e f:Int}(C:-65536<=a/\a<=65536)(g:-65536<=b/\b<=65536)(h:-65536<=c/\c<=65536)(E:-65536<=d/\d<=65536)(k:-65536<=e/\e<=65536)(l:-65536<=f/\f<=65536):
  br (br (br (a*b)+br (c*d))+br (e*f))=a*b+c*d+e*f:=by
 have i:=aca C g;have j:=aca h E;have m:=aca k l;generalize a*b=x,c*d=y,e*f=z at *;rw [YK (n:=x) gn,YK (n:=y) gn,YK (n:=z) gn,YK (n:=x+y) gn,YK gn]
theorem ach(a0 b j a3 a4 a5 c d e p s u x y f A B g:Int)(T:∀z∈[a0,b,j,a3,a4,a5,c,d,e,p,s,u,x,y,f,A,B,g],-65536<=z/\z<=65536)
  (h:agx [a0,b,j,a3,a4,a5,c,d,e] [p,s,u,x,y,f,A,B,g]=bA) (w:ar) :
  CR 246 #[bo #[a0,b,j,a3,a4,a5,c,d,e],bo #[p,s,u,x,y,f,A,B,g]] w (bp bA):=by
 obtain⟨W,m⟩:=eX ((w.alloc (bq #[a0,b,j,a3,a4,a5,c,d,e] 89)).alloc (bq #[p,s,u,x,y,f,A,B,g] 89));have Y:bH [] w W:=m▸((tR w).a _).a _;have c0:=cAt 0 (JK m).1 rfl;have d0:=cAt 0 (JK m).2 rfl;have c1:=cAt 1 (JK m).1 rfl;have d1:=cAt 1 (JK m).2 rfl;have c2:=cAt 2 (JK m).1 rfl;have d2:=cAt 2 (JK m).2 rfl;have c3:=cAt 3 (JK m).1 rfl;have d3:=cAt 3 (JK m).2 rfl;have c4:=cAt 4 (JK m).1 rfl;have d4:=cAt 4 (JK m).2 rfl;have c5:=cAt 5 (JK m).1 rfl;have d5:=cAt 5 (JK m).2 rfl;have c6:=cAt 6 (JK m).1 rfl;have d6:=cAt 6 (JK m).2 rfl;have c7:=cAt 7 (JK m).1 rfl;have d7:=cAt 7 (JK m).2 rfl;have c8:=cAt 8 (JK m).1 rfl;have d8:=cAt 8 (JK m).2 rfl;simp only [aS,aW,or_false,forall_eq_or_imp,forall_eq]at T;obtain⟨l,t,H,v,C,R,D,E,F,G,K,L,M,N,O,P,Q,S⟩:=T;have n:∀i,i<9->-32768<=aap [a0,b,j,a3,a4,a5,c,d,e] [p,s,u,x,y,f,A,B,g] i/\aap [a0,b,j,a3,a4,a5,c,d,e] [p,s,u,x,y,f,A,B,g] i<=32768:=by intro i U;have:=aZ.1 h i (by simpa using U);simpa using this
 clear h;have X:=lh n;clear n;go_enter func246,ntmps246;go_upto_region 1 with fail
 rw [<-m];clear m;go_wp2;go_loopw [9] (λs9 wr=>∃i:Nat,i<=9/\s9=i/\∃q,wr=W.drewN q) (λs9 _=>9-(bs s9).toNat);case atStart=>exact⟨0,gn,rfl,0,rfl⟩
 obtain⟨i,U,rfl,q,rfl⟩:=hrel;by_cases Z:i<9
 .have n:=X.o i Z;obtain rfl|rfl|rfl|rfl|rfl|rfl|rfl|rfl|rfl:i=0\/i=1\/i=2\/i=3\/i=4\/i=5\/i=6\/i=7\/i=8:=by omega
  ·(go_upto_region 5 with fail);simp [aap]at n;have J:=YV l G t M H P;go_region;rw [J];clear J;generalize a0*p+b*x+j*A=z at *;have V:br (z-16777216)=z-16777216:=YK gn;have I:¬z-16777216 < -32768:=gn;have k:¬32768<z-16777216:=gn;go_wp2;exact⟨⟨1,gn,by go_num,q+1,rfl⟩,by simp [bs]⟩
  ·(go_upto_region 5 with fail);simp [aap]at n;have J:=YV l K t N H Q;go_region;rw [J];clear J;generalize a0*s+b*y+j*B=z at *;have I:¬z < -32768:=gn;have k:¬32768<z:=gn;go_wp2;exact⟨⟨2,gn,by go_num,q+1,rfl⟩,by simp [bs]⟩
  ·(go_upto_region 5 with fail);simp [aap]at n;have J:=YV l L t O H S;go_region;rw [J];clear J;generalize a0*u+b*f+j*g=z at *;have I:¬z < -32768:=gn;have k:¬32768<z:=gn;go_wp2;exact⟨⟨3,gn,by go_num,q+1,rfl⟩,by simp [bs]⟩
  ·(go_upto_region 5 with fail);simp [aap]at n;have J:=YV v G C M R P;go_region;rw [J];clear J;generalize a3*p+a4*x+a5*A=z at *;have I:¬z < -32768:=gn;have k:¬32768<z:=gn;go_wp2;exact⟨⟨4,gn,by go_num,q+1,rfl⟩,by simp [bs]⟩
  ·(go_upto_region 5 with fail);simp [aap]at n;have J:=YV v K C N R Q;go_region;rw [J];clear J;generalize a3*s+a4*y+a5*B=z at *;have V:br (z-16777216)=z-16777216:=YK gn;have I:¬z-16777216 < -32768:=gn;have k:¬32768<z-16777216:=gn;go_wp2;exact⟨⟨5,gn,by go_num,q+1,rfl⟩,by simp [bs]⟩
  ·(go_upto_region 5 with fail);simp [aap]at n;have J:=YV v L C O R S;go_region;rw [J];clear J;generalize a3*u+a4*f+a5*g=z at *;have I:¬z < -32768:=gn;have k:¬32768<z:=gn;go_wp2;exact⟨⟨6,gn,by go_num,q+1,rfl⟩,by simp [bs]⟩
  ·(go_upto_region 5 with fail);simp [aap]at n;have J:=YV D G E M F P;go_region;rw [J];clear J;generalize c*p+d*x+e*A=z at *;have I:¬z < -32768:=gn;have k:¬32768<z:=gn;go_wp2;exact⟨⟨7,gn,by go_num,q+1,rfl⟩,by simp [bs]⟩
  ·(go_upto_region 5 with fail);simp [aap]at n;have J:=YV D K E N F Q;go_region;rw [J];clear J;generalize c*s+d*y+e*B=z at *;have I:¬z < -32768:=gn;have k:¬32768<z:=gn;go_wp2;exact⟨⟨8,gn,by go_num,q+1,rfl⟩,by simp [bs]⟩
  go_upto_region 5 with fail
  simp [aap]at n;have J:=YV D L E O F S;go_region;rw [J];clear J;generalize c*u+d*f+e*g=z at *;have V:br (z-16777216)=z-16777216:=YK gn;have I:¬z-16777216 < -32768:=gn
  have k:¬32768<z-16777216:=gn
  go_wp2;exact⟨⟨9,gn,by go_num,q+1,rfl⟩,by simp [bs]⟩
 obtain rfl:i=9:=gn
 go_wp2;go_ret;exact⟨rfl,Y.drawn q⟩
end
theorem Tc(k:Int)(a:-65536<=k)(b:k<=65536)(w:ar): bb bv 269 #[k] w λe w'=>e=bz (bp bB)/\w'=w:=by
 have l:decide (k < -65536)=bB:=ak gn;have z:decide (65536<k)=bB:=ak gn;go_enter func269,ntmps269;go_wp2;go_ret;exact⟨lU,rfl⟩
def VS(n:Int)(z:Int): Prop:=-n<=z/\z<=n
theorem MR(ks:List Int)(b:∀z∈ks,VS 65536 z)(g o n cap:Nat)(G:n=ks.length)(i:n<=100)(w:ar)(a:∀j,j<n->w.cell? ⟨g,o+j,bj⟩=bh (bm .i64 (ks.getD j 0))):
  bb bv 266 #[bl (bh ⟨g,o,bj⟩) n cap,.func (.func 269) #[] #[]] w λe w'=>e=bz (bm .i64 (-1))/\w'=w:=by
 have c:∀j,j<n->VS 65536 (ks.getD j 0):=by
  intro j f;have:ks.getD j 0∈ks:=rR
  exact b _ this
 have y:=lh a;have B:=lh c;clear a c b G;go_enter func266,ntmps266;go_wp2_with fail
 go_loop [8] (λs8=>∃k:Nat,k<=n/\s8=k) (λs8=>n-(bs s8).toNat);case atStart=>exact⟨0,gn,rfl⟩
 obtain⟨k,h,rfl⟩:=hrel;by_cases a5:k<n
 .have ax:=y.o k a5;have d:=Tc _ (B.o k a5).1 (B.o k a5).2;generalize ks.getD k 0=z at *;have l:=lh d;clear d;go_wp2_with (first
   |(go_at_call 269;refine mS (l.o _) ?_)
   |fail)
  go_round;case rel=>exact⟨k+1,gn,by go_num⟩
  simp [bs];omega
 obtain rfl:k=n:=gn
 go_wp2;go_ret;exact⟨rfl,rfl⟩
theorem Et(ks:List Int)(b:∀z∈ks,VS 65536 z)(g o n cap:Nat)(G:n=ks.length)(i:n<=100)(w:ar)(a:∀j,j<n->w.cell? ⟨g,o+j,bj⟩=bh (bm .i64 (ks.getD j 0))):
  bb bv 243 #[bl (bh ⟨g,o,bj⟩) n cap,.func (.func 269) #[] #[]] w λe w'=>e=bz (bp bB)/\w'=w:=by
 have p:=lh (MR ks b g o n cap G i w a);clear a b G;go_enter func243,ntmps243;go_wp2_with (go_at_call 266;refine mS p.o ?_)
 go_ret;exact⟨lU,rfl⟩
theorem Ak(m:List Int)(e:m.length=9)(g:∀z∈m,VS 65536 z)(w:ar):
  CR 245 #[bo ⟨m.map (Value.int .i64)⟩] w (bp bA):=by
 match m,e with
 | [a0,a1,a2,a3,a4,a5,a6,a7,a8],_=>
  have b:=λ(u:ar) (ty:aM)=>Et [a0,a1,a2,a3,a4,a5,a6,a7,a8] g u.heap.size 0 9 9 rfl lG (u.alloc (bq #[a0,a1,a2,a3,a4,a5,a6,a7,a8] ty)) (λj k=>by
   rw [aA _ _ _ #[a0,a1,a2,a3,a4,a5,a6,a7,a8] ty (0,0) (heap_alloc_new u _),Nat.zero_add];match j,k with
   |0,_=>rfl
   |1,_=>rfl
   |2,_=>rfl
   |3,_=>rfl
   |4,_=>rfl
   |5,_=>rfl
   |6,_=>rfl
   |7,_=>rfl
   |8,_=>rfl)
  have l:=lh b;clear b g;simp only [List.map_cons,List.map_nil];go_enter func245,ntmps245;go_wp2_with (go_at_call 243;refine mS (l.o _ _) ?_)
  go_ret;exact⟨lU,(tR w).a _⟩
theorem GN(p:List Int×List Int)(h:p∈uQ)(w:ar):
  CR 246 #[bo ⟨p.2.map (Value.int .i64)⟩,bo ⟨p.1.map (Value.int .i64)⟩] w (bp bA):=by
 simp only [uQ,aS,aW,or_false]at h;rcases h with rfl|rfl|rfl|rfl<;>exact ach _ _ _ _ _ _ _ _ _ _ _ _ _ _ _ _ _ _ lG lG w
theorem WL.within{t f:List Int}(h:WL t f)(o:t.length=9)(l:f.length=9): (∀z∈t,VS 65536 z)/\∀z∈f,VS 65536 z:=by
 refine⟨λz J=>?_,λz J=>?_⟩
 .obtain⟨i,m,rfl⟩:=List.mem_iff_getElem.1 J;have:=h.ent i gn;simp only [List.getD,aB m,Option.getD_some]at this;exact⟨this.1,this.2.1⟩
 obtain⟨i,m,rfl⟩:=List.mem_iff_getElem.1 J;have:=h.ent i gn;simp only [List.getD,aB m,Option.getD_some]at this;exact⟨this.2.2.1,this.2.2.2⟩
theorem OM:(prog.info? 89).map (·.size)=bh 9:=lB
theorem OI:(prog.info? 91).map (·.size)=bh 21:=lB
theorem Ai{w:ar}{g o:Nat}{l:List aD}(h:w.rangeAt g o l)(a b c:List aD)(i:l=a++b++c): w.rangeAt g (o+a.length) b:=by intro j v e;have k:=(ah.1 e).1;have:=h (a.length+j) v (by rw [i,List.append_assoc,bG gn,Nat.add_sub_cancel_left,bD k];exact e);rw [Nat.add_assoc];exact this
theorem oZ{P:bc}{b:Array be}{rest:List be}{o:be}{a:Act}{w w':ar}{Q:Exit->Act->ar->Prop}{v:aD}(d:Region.wanted o (yielded b a.tmps)=bA)(C:(ba a.eval o).run P w=.ok (.value v) w')(h:wpList P b Q rest (a.put o.dst v) w'): wpList P b Q (o::rest) a w:=
 wpList_step λK c=>by rw [aG d];unfold Oper.wp;rw [C];exact c _ _ h
theorem uF{P:bc}{o:be}{a:Act}{w:ar}{t:aM}{x i:bf}{p q v:aD}(e:o.op=.index t x i)(b:a.eval x=p)(m:a.eval i=q)(C:(Instr.index t p q).run P w=.ok v w): (ba a.eval o).run P w=.ok (.value v) w:=pS
theorem WU(a b c:aD)(u:ar): (Instr.index 88 (bo #[a,b,c]) (bm .i64 (0:Nat))).run bv u=.ok a u:=lB
theorem Xa(a b c:aD)(u:ar): (Instr.index 88 (bo #[a,b,c]) (bm .i64 (1:Nat))).run bv u=.ok b u:=lB
theorem WZ(a b c:aD)(u:ar): (Instr.index 88 (bo #[a,b,c]) (bm .i64 (2:Nat))).run bv u=.ok c u:=lB
theorem LZ(s:eF)(e:s.Good)(w:ar)(h:s.At w): CR 199 #[bo ⟨s.row⟩] w (bp bA):=by
 have j:=e.near.within h.h1 h.h2;obtain⟨W,m⟩:=eX (w.alloc (bq ⟨s.row⟩ 91));have f:bH [] w W:=m▸(tR w).a _;have d:=su s w 91;rw [<-m]at d;have R:W.heap.size=w.heap.size+1:=mq
 have Q:=kQ d 0 (bl s.a0 s.n0 s.c0) rfl;have c1:=kQ d 1 (bl s.a1 s.n1 s.c1) rfl;have c2:=kQ d 2 (bl s.a2 s.n2 s.c2) rfl;have q:=Ai d [bl s.a0 s.n0 s.c0,bl s.a1 s.n1 s.c1,bl s.a2 s.n2 s.c2] (s.mTo.map (Value.int .i64)) (s.mFr.map (Value.int .i64)) (by simp [eF.row]);have n:=Ai d ([bl s.a0 s.n0 s.c0,bl s.a1 s.n1 s.c1,bl s.a2 s.n2 s.c2]++s.mTo.map (Value.int .i64)) (s.mFr.map (Value.int .i64)) [] (by simp [eF.row]);rw [show 0+[Value.slice s.a0 s.n0 s.c0,Value.slice s.a1 s.n1 s.c1,Value.slice s.a2 s.n2 s.c2].length=3 from rfl]at q;rw [show 0+([Value.slice s.a0 s.n0 s.c0,Value.slice s.a1 s.n1 s.c1,Value.slice s.a2 s.n2 s.c2]++s.mTo.map (Value.int .i64)).length=12 by simp [h.h1]]at n;have I:∀u,bH [] W u->(Instr.loadAt 89 (bk (bh ⟨w,3,bj⟩))).run bv u=.ok (bo ⟨s.mTo.map (Value.int .i64)⟩) u:=λu t=>aL _ w.heap.size 3 89 (s.mTo.map (Value.int .i64)) _ (fJ t q) underlying89 rfl (by rw [aJ,h.h1];exact OM);have H:∀u,bH [] W u->(Instr.loadAt 89 (bk (bh ⟨w,12,bj⟩))).run bv u=.ok (bo ⟨s.mFr.map (Value.int .i64)⟩) u:=λu t=>aL _ w.heap.size 12 89 (s.mFr.map (Value.int .i64)) _ (fJ t n) underlying89 rfl (by rw [aJ,h.h2];exact OM);have C:=λu (t:bH [] w u)=>oK s.l0 e.l0 s.a0 s.n0 s.c0 u (h.l0.u t);have D:=λu (t:bH [] w u)=>oK s.l1 e.l1 s.a1 s.n1 s.c1 u (h.l1.u t);have E:=λu (t:bH [] w u)=>oK s.l2 e.l2 s.a2 s.n2 s.c2 u (h.l2.u t);have G:=λu=>Ak s.mTo h.h1 j.1 u;have F:=λu=>Ak s.mFr h.h2 j.2 u;have l:=λu=>GN (s.mTo,s.mFr) e.mat u;dsimp only at l;generalize s.row=T,s.mTo.map (Value.int .i64)=mt,s.mFr.map (Value.int .i64)=mf at *;obtain⟨V,K,L,z,y,O,N,M⟩:=lh8 C D E I H G F l;clear C D E j d h e I H q n G F l;go_enter func199,ntmps199;go_upto_region 1 with (fail)
 rw [<-m];clear m;go_wp2_with fail
 go_loopw [7] (λs7 wr=>∃k:Nat,k<=3/\s7=k/\bH [] W wr) (λs7 _=>3-(bs s7).toNat);case atStart=>exact⟨0,gn,rfl,tR W⟩
 obtain⟨k,S,rfl,b⟩:=hrel;by_cases a5:k<3
 .rcases (by omega:k=0\/k=1\/k=2)with rfl|rfl|rfl;all_goals
   (go_upto_region 3 with fail);apply wp_region_lit;first
    |refine bQ (o:=⟨bh 9,_,_,_,_,_⟩) rfl (uF (x:=.tmp 6) (i:=.tmp 7) rfl rfl rfl (WU _ _ _ _)) ?_
    |refine bQ (o:=⟨bh 9,_,_,_,_,_⟩) rfl (uF (x:=.tmp 6) (i:=.tmp 7) rfl rfl rfl (Xa _ _ _ _)) ?_
    |refine bQ (o:=⟨bh 9,_,_,_,_,_⟩) rfl (uF (x:=.tmp 6) (i:=.tmp 7) rfl rfl rfl (WZ _ _ _ _)) ?_
   (try go_frame);go_wp2_with (first
    |(go_at_call 244;with_reducible refine mR (V.o _ (f.t b)) λJ c=>?_;have b:=b.t c)
    |(go_at_call 244;with_reducible refine mR (K.o _ (f.t b)) λJ c=>?_;have b:=b.t c)
    |(go_at_call 244;with_reducible refine mR (L.o _ (f.t b)) λJ c=>?_;have b:=b.t c))
   go_roundw;case rel=>first|exact⟨1,gn,rfl,b⟩|exact⟨2,gn,rfl,b⟩|exact⟨3,gn,rfl,b⟩
   case measure=>simp [bs]
 obtain rfl:k=3:=gn
 have A:=b;go_wp2_with (first
  |(refine lR 15 (z.out _ A) ?_)
  |(go_at_call 245;with_reducible refine mR (O.o _) λU c=>?_;have B:=A.t c)
  |(refine oZ (o:=⟨bh 19,_,_,_,_,_⟩) rfl (dw (p:=bk (bh ⟨w,12,bj⟩)) (v:=bo ⟨mf⟩) rfl rfl (y.out _ B)) ?_;try go_frame)
  |(go_at_call 245;with_reducible refine mR (N.o _) λX c=>?_;have g:=B.t c)
  |(refine oZ (o:=⟨bh 24,_,_,_,_,_⟩) rfl (dw (p:=bk (bh ⟨w,12,bj⟩)) (v:=bo ⟨mf⟩) rfl rfl (y.out _ g)) ?_;try go_frame)
  |(refine oZ (o:=⟨bh 26,_,_,_,_,_⟩) rfl (dw (p:=bk (bh ⟨w,3,bj⟩)) (v:=bo ⟨mt⟩) rfl rfl (z.out _ g)) ?_;try go_frame)
  |(go_at_call 246;refine mR (M.o _) λY c=>?_;have P:=g.t c))
 go_ret;exact⟨rfl,f.t P⟩
theorem Dx{s:eF}{w:ar}(h:s.At w): s.row.length=21:=by simp [eF.row,h.h1,h.h2]
theorem Ue(s:eF)(d:s.Good)(w:ar)(h:s.At w): CR 198 #[bo ⟨s.row⟩] w (bp bB):=by
 obtain⟨W,m⟩:=eX (w.alloc (bq ⟨s.row⟩ 91));have c:bH [] w W:=m▸(tR w).a _;have b:=su s w 91;rw [<-m]at b;have i:=aL (P:=bv) W w.heap.size 0 91 s.row _ b bw rfl (by rw [Dx h];exact OI);have B:=lh i;have n:=lh (LZ s d W (h.u c));clear i b h d;generalize s.row=q at *;go_enter func198,ntmps198;go_upto_region 1 with (fail)
 rw [<-m];clear m;go_wp2_with (first
  |(refine lR 3 B.o ?_)
  |(go_at_call 199;refine mR n.o λf e=>?_))
 go_ret;exact⟨lU,c.t e⟩
theorem L9(a:List eF)(d:∀s∈a,s.Good)(A:Option Addr)(n cap:Nat)(G:n<=100)(w:ar)(h:mD w A n a):
  CR 247 #[bl A n cap,.func (.func 198) #[] #[]] w (bm .i64 (-1)):=by
 have j:∀k,k<n->∃(s:eF) (g o:Nat),A=bh ⟨g,o,bj⟩/\(∀u,bH [] w u->(Instr.loadAt 91 (bk (bh ⟨g,o+k*21,bj⟩))).run bv u=.ok (bo ⟨s.row⟩) u)/\
   ∀u,bH [] w u->CR 198 #[bo ⟨s.row⟩] u (bp bB):=by
  intro k c;have J:k<a.length:=by rw [<-h.1];exact c
  obtain⟨f,g,o,e,C⟩:=h.2 k a[k] (aB J);refine⟨a[k],g,o,e,λu t=>?_,λu t=>Ue a[k] (d _ (List.getElem_mem J)) u (f.u t)⟩;exact aL (P:=bv) u g (o+k*21) 91 a[k].row _ (fJ t C) bw rfl (by rw [Dx f];exact OI)
 have y:=lh j;clear j h d;go_enter func247,ntmps247;go_wp2_with fail
 go_loopw [8] (λs8 wr=>∃k:Nat,k<=n/\s8=k/\bH [] w wr) (λs8 _=>n-(bs s8).toNat);case atStart=>exact⟨0,gn,rfl,bH.refl _ _⟩
 obtain⟨k,c,rfl,T⟩:=hrel;by_cases a5:k<n
 .obtain⟨s,g,o,rfl,i,b⟩:=y.o k a5;obtain⟨B,l,H⟩:=lh3 (i _ T) (b _ T) T;clear i b T;have p:(0:Int)<=(k:Int):=by omega
  have q:(k:Int)<(n:Int):=gn
  generalize s.row=v at *;go_wp2_with (first
   |(refine lR 15 B.o ?_)
   |(go_at_call 198;refine mR l.o λx m=>?_))
  go_roundw;case rel=>exact⟨k+1,gn,by go_num,H.o.t m⟩
  simp [bs];omega
 obtain rfl:k=n:=gn
 have H:=lh T;clear T;go_wp2;go_ret;exact⟨rfl,H.o⟩
theorem Fh(a:List eF)(d:∀s∈a,s.Good)(A:Option Addr)(n cap:Nat)(G:n<=100)(w:ar)(h:mD w A n a):
  CR 200 #[bl A n cap,.func (.func 198) #[] #[]] w (bp bB):=by
 have p:=lh (L9 a d A n cap G w h);clear h d;go_enter func200,ntmps200;go_wp2_with (go_at_call 247;refine mR p.o λe b=>?_)
 go_ret;exact⟨lU,b⟩
def jO(p q B:Nat)(w w':ar): Prop:=∃a,(∀b∈a,b=p\/b=q\/B<=b)/\bH a w w'
theorem jO.refl(p q B:Nat)(w:ar): jO p q B w w:=⟨[],λ_ h=>absurd h aW,bH.refl _ _⟩
theorem jO.of{p q B:Nat}{w w':ar}(T:bH [] w w'): jO p q B w w':=⟨[],λ_ h=>absurd h aW,T⟩
theorem jO.t{p q B:Nat}{u v w:ar}(h:jO p q B u v)(k:jO p q B v w): jO p q B u w:=by obtain⟨a,e,f⟩:=h;obtain⟨c,d,i⟩:=k;exact⟨a++c,λb g=>(aV.1 g).elim (e b) (d b),(f.mono λb g=>List.mem_append_left _ g).t (i.mono λb g=>List.mem_append_right _ g)⟩
theorem jO.old{p q B:Nat}{w w':ar}(h:jO p q B w w'){c:Nat}(i:c≠p)(j:c≠q)(g:c<B)(b:c<w.heap.size): w'.heap[c]?=w.heap[c]?:=by obtain⟨d,e,f⟩:=h;refine f.old c b λa=>?_;rcases e c a with h|h|h<;>omega
theorem jO.size{p q B:Nat}{w w':ar}(h:jO p q B w w'): w.heap.size<=w'.heap.size:=by obtain⟨_,_,f⟩:=h;exact f.size
theorem jO.new{p q B:Nat}{u v w:ar}(h:bH [] u v)(k:jO p q B v w)(g:u.heap.size<=p)(i:u.heap.size<=q)(d:u.heap.size<=B): bH [] u w:=by obtain⟨c,e,f⟩:=k;exact⟨aK h.size f.size,λj a G=>(f.old j (aj a h.size) λb=>by rcases e j b with h|h|h<;>omega).t (h.old j a G),f.os.t h.os,f.tape.t h.tape,f.output.t h.output⟩
structure Qc(w:ar)(B c:Nat)(vx vy:aD)(xs ys:List Int): Prop where
 ox:iK fF w B vx (xs.map dK)
 oy:iK fF w B vy (ys.map dK)
 dj:∀g∈dI vx,g∉dI vy
 nx:∀g∈dI vx,g≠c
 ny:∀g∈dI vy,g≠c
 sz:B<=w.heap.size
 cl:c<w.heap.size
theorem Qc.u{w w':ar}{B c:Nat}{A a:aD}{xs m:List Int}(h:Qc w B c A a xs m)(T:bH [] w w'): Qc w' B c A a xs m:=
 ⟨h.ox.u T,h.oy.u T,h.dj,h.nx,h.ny,aK h.sz T.size,aj h.cl T.size⟩
theorem Qc.swap{w:ar}{B c:Nat}{A a:aD}{xs m:List Int}(h:Qc w B c A a xs m): Qc w B c a A m xs:=
 ⟨h.oy,h.ox,λg d e=>h.dj g e d,h.ny,h.nx,h.sz,h.cl⟩
theorem V7:prog.underlying 22=bh (.slice fF.e):=lB
theorem Qc.app{w:ar}{B c:Nat}{A f:aD}{xs m:List Int}(h:Qc w B c A f xs m){s:Nat}{z:Int}(R:w.rangeAt s 0 (dK z))(G:xs.length<=1000)(ty:aM):
  ∃a w',(Builtin.append_ #[22,22] ty #[A,bl (bh ⟨s,0,bj⟩) 1 1]).run bv w=.ok a w'/\Qc w' B c a f (xs++[z]) m/\bH (dI A) w w':=by
 obtain⟨a,w',l,i,N,b⟩:=zH (news:=[dK z]) V7 h.ox s 0 1 1 rfl (λr C=>by rw [aN.1 C];exact LP z) (λj r C=>by
  cases j with
  |succ j=>simp at C
  |zero=>
   have C:dK z=r:=oS;subst C;simpa using R) h.sz lO ty
 refine⟨a,w',l,⟨by rw [List.map_append];exact i,h.oy.kept N λg d e=>h.dj g e d,λg d e=>?_,λg d=>?_,h.ny,aK h.sz N.size,aj h.cl N.size⟩,N⟩
 .rcases b g d with d|d
  .exact h.dj g d e
  have:=(h.oy.2.lt g e).2.1;omega
 rcases b g d with d|d
 .exact h.nx g d
 have:=h.cl;omega
theorem zM(x:Int)(u:ar): (Instr.buildSlice 22 1 #[(0,x)]).run bv u=.ok (bl (bh ⟨u,0,bj⟩) 1 1) (u.alloc (bq ⟨dK x⟩ fF.e)):=lB
theorem iK.fresh{k:kD}{w:ar}{B:Nat}{v:aD}{a:List (List aD)}(h:iK k w B v a): ∀g∈dI v,g<w.heap.size:=λg d=>(h.2.lt g d).2.1
theorem pW{w w':ar}{b:List Nat}{s:Nat}{r:List aD}(T:bH b w w')(n:s<w.heap.size)(g:s∉b)(R:w.rangeAt s 0 r): w'.rangeAt s 0 r:=λj u o=>by have:=R j u o;simp only [World.cell?,T.old s n g]at *;exact this
structure NT(w:ar)(bx by_ B:Nat)(xs ys:List Int): Prop where
 ex:∃vx vy,w.heap[bx]?=bh (bq #[vx] 22 (0,0))/\w.heap[by_]?=bh (bq #[vy] 22 (0,0))/\iK fF w B vx (xs.map dK)/\iK fF w B vy (ys.map dK)/\∀g∈dI vx,g∉dI vy
 lx:bx<B
 ly:by_<B
 ne:bx≠by_
 sz:B<=w.heap.size
theorem NT.u{w w':ar}{e a B:Nat}{xs m:List Int}(h:NT w e a B xs m)(T:bH [] w w'): NT w' e a B xs m:=by obtain⟨⟨A,n,b,f,g,l,c⟩,d,i,j,k⟩:=h;exact⟨⟨A,n,(T.old e gn lz).t b,(T.old a gn lz).t f,g.u T,l.u T,c⟩,d,i,j,aK k T.size⟩
theorem pU{w:ar}{b:Nat}{x v:aD}{ty:aM}(h:w.heap[b]?=bh (bq #[x] ty (0,0))): (w.setCell ⟨b,0,bj⟩ v).heap[b]?=bh (bq #[v] ty (0,0)):=oX
theorem NT.fin{w V:ar}{e d B c:Nat}{x y A f:aD}{xs m:List Int}(n:w.heap[e]?=bh (bq #[x] 22 (0,0)))(hy:w.heap[d]?=bh (bq #[y] 22 (0,0)))(D:Qc V B c A f xs m)(P:jO e d B w V)(hS:V.heap[e]?=w.heap[e]?/\V.heap[d]?=w.heap[d]?)(q:e<B)(s:d<B)(k:e≠d):
  NT ((V.setCell ⟨e,0,bj⟩ A).setCell ⟨d,0,bj⟩ f) e d B xs m/\jO e d B w ((V.setCell ⟨e,0,bj⟩ A).setCell ⟨d,0,bj⟩ f):=by
 have o:=hS.1.t n;have p:=hS.2.t hy;have h:=((bH.refl [e,d] V).setCell (a:=⟨e,0,bj⟩) A (.inl lz)).setCell (a:=⟨d,0,bj⟩) f (.inl lz);refine⟨⟨⟨A,f,?_,?_,D.ox.kept h λg i j=>?_,D.oy.kept h λg i j=>?_,D.dj⟩,q,s,k,aK D.sz h.size⟩,P.t ⟨[e,d],λb l=>?_,h⟩⟩
 .rw [bW (pU o) k]
 .exact pU (bW p (Ne.symm k))
 .have:=(D.ox.2.lt g i).1;simp at j;omega
 .have:=(D.oy.2.lt g i).1;simp at j;omega
 simp at l;omega
theorem Oj(p:Af)(hp:p.ok=bA)(x y:Int)(a9:-1048576<=x)(aa:x<=1048576)(ab:-1048576<=y)(ac:y<=1048576)(pa O T B:Nat)(xs ys:List Int)(a7:xs.length<=1000)(a8:ys.length<=1000)(ao:pa<B)(w:ar)(ha:w.heap[pa]?=bh (bq (VT p) 40 (0,0)))(R:NT w O T B xs ys):
  bb bv 175 #[bo #[x,y],bk (bh ⟨O,0,bj⟩),bk (bh ⟨pa,0,bj⟩),bk (bh ⟨T,0,bj⟩)] w λe w'=>e=bz (.tuple #[])/\NT w' O T B (xs++[p.px x y]) (ys++[p.py x y])/\jO O T B w w':=by
 obtain⟨⟨i1,i2,i3,i4⟩,⟨i5,i6,i7,i8⟩,_⟩:=p.img hp x y a9 aa ab ac;have j1:=(mM _).t i1;have j2:=(mM _).t i2;have j3:=(mM _).t i3;have j4:=(mM _).t i4;have j5:=(mM _).t i5;have j6:=(mM _).t i6;have j7:=(mM _).t i7;have j8:=(mM _).t i8;clear i1 i2 i3 i4 i5 i6 i7 i8 hp a9 aa ab ac;generalize p.px x y=Q,p.py x y=E at *;obtain⟨⟨vx,vy,kx,ky,ox,oy,dj⟩,lx,ly,ne,sz⟩:=R;obtain⟨W,hW⟩:=eX (w.alloc (bq #[x,y] 123));have T0:bH [] w W:=hW▸(tR w).a _;have an:w.heap.size<W.heap.size:=od
 have a6:=YE hW
 have hA:=(T0.old pa gn lz).t ha;have hX:=(T0.old O gn lz).t kx;have hY:=(T0.old T gn lz).t ky;have D0:Qc W B w.heap.size vx vy xs ys:=⟨ox.u T0,oy.u T0,dj,λg J e=>by have:=ox.fresh g J;omega,λg J e=>by have:=oy.fresh g J;omega,aK sz T0.size,an⟩;obtain⟨HK,am,I⟩:=lh3 (bg kx (bg ky T0)) D0 (bg hA (bg hX (bg hY a6)));clear ox oy dj kx ky ha hA hX hY a6 D0;obtain⟨a,b,c,d,e,f,ap⟩:=p;simp only at *;go_enter func175,ntmps175;go_upto_region 1 with (fail)
 rw [<-hW];clear hW;generalize aq:w.heap.size=p0 at *;have hF:∀u:ar,(∀q,(q<B\/q=p0)->u.heap[q]?=W.heap[q]?)->u.cell? ⟨O,0,bj⟩=bh vx/\u.cell? ⟨T,0,bj⟩=bh vy/\(u.cell? ⟨p0,0,bj⟩=bh (bm .i64 x)/\u.cell? ⟨p0,1,bj⟩=bh (bm .i64 y))/\u.cell? ⟨pa,0,bj⟩=bh (bm .i64 a)/\u.cell? ⟨pa,1,bj⟩=bh (bm .i64 b)/\u.cell? ⟨pa,2,bj⟩=bh (bm .i64 c)/\u.cell? ⟨pa,3,bj⟩=bh (bm .i64 d)/\u.cell? ⟨pa,4,bj⟩=bh (bm .i64 e)/\u.cell? ⟨pa,5,bj⟩=bh (bm .i64 f):=λu hu=>by obtain⟨hA,hX,hY,a6⟩:=I.o;have q1:=(hu pa (.inl ao)).t hA;have q2:=(hu O (.inl lx)).t hX;have q3:=(hu T (.inl ly)).t hY;have q4:=(hu p0 (.inr rfl)).t a6;exact⟨cO 0 _ q2,cO 0 _ q3,⟨cO 0 _ q4,cO 1 _ q4⟩,cO 0 _ q1,cO 1 _ q1,cO 2 _ q1,cO 3 _ q1,cO 4 _ q1,cO 5 _ q1⟩
 have S:=lh hF;clear hF;refine dY.start (λw'=>∀q,(q<B\/q=p0)->w'.heap[q]?=W.heap[q]?) 34 lB ?_;have k:∀q,(q<B\/q=p0)->W.drew.heap[q]?=W.heap[q]?:=λq _=>rfl;have TD:bH [] W W.drew:=(tR W).drawn 1;have D:=am.o.u TD;have z:jO O T B W W.drew:=.of TD;generalize W.drew=V at *;clear TD;refine pk 0 9 5 (vx) k ?_ (hy:=lI);try go_frame
 refine pk 1 9 6 (bk (bh ⟨pa,0,bj⟩)) k ?_;try go_frame
 refine pk 2 9 7 a k ?_ (hy:=lI);try go_frame
 refine pk 3 9 8 (bk (bh ⟨p0,0,bj⟩)) k ?_;try go_frame
 refine pk 4 9 9 x k ?_ (hy:=lI);try go_frame
 refine pk 5 9 10 (bm .i64 (a*x)) k ?_;try go_frame
 refine pk 6 9 11 (bk (bh ⟨pa,1,bj⟩)) k ?_;try go_frame
 refine pk 7 9 12 b k ?_ (hy:=lI);try go_frame
 refine pk 8 9 13 (bk (bh ⟨p0,1,bj⟩)) k ?_;try go_frame
 refine pk 9 9 14 y k ?_ (hy:=lI);try go_frame
 refine pk 10 9 15 (bm .i64 (b*y)) k ?_;try go_frame
 refine pk 11 9 16 (bm .i64 (a*x+b*y)) k ?_;try go_frame
 refine pk 12 9 17 (bk (bh ⟨pa,2,bj⟩)) k ?_;try go_frame
 refine pk 13 9 18 c k ?_ (hy:=lI);try go_frame
 refine pk 14 9 19 Q k ?_;try go_frame
 refine pk 17 9 22 (vy) k ?_ (hy:=lI);try go_frame
 refine pk 18 9 23 (bk (bh ⟨pa,3,bj⟩)) k ?_;try go_frame
 refine pk 19 9 24 d k ?_ (hy:=lI);try go_frame
 refine pk 20 9 25 (bk (bh ⟨p0,0,bj⟩)) k ?_;try go_frame
 refine pk 21 9 26 x k ?_ (hy:=lI);try go_frame
 refine pk 22 9 27 (bm .i64 (d*x)) k ?_;try go_frame
 refine pk 23 9 28 (bk (bh ⟨pa,4,bj⟩)) k ?_;try go_frame
 refine pk 24 9 29 e k ?_ (hy:=lI);try go_frame
 refine pk 25 9 30 (bk (bh ⟨p0,1,bj⟩)) k ?_;try go_frame
 refine pk 26 9 31 y k ?_ (hy:=lI);try go_frame
 refine pk 27 9 32 (bm .i64 (e*y)) k ?_;try go_frame
 refine pk 28 9 33 (bm .i64 (d*x+e*y)) k ?_;try go_frame
 refine pk 29 9 34 (bk (bh ⟨pa,5,bj⟩)) k ?_;try go_frame
 refine pk 30 9 35 f k ?_ (hy:=lI);try go_frame
 refine pk 31 9 36 E k ?_;try go_frame
 clear j1 j2 j3 j4 j5 j6 j7 j8;have l:=lh (bg D.sz D.cl);refine dY.two (i:=15) (j:=32) rfl rfl lB rfl rfl (λK m=>?_) (λK m=>?_)
 .refine bZ (d:=bh 20) rfl (dV (x:=.tmp 19) rfl rfl (zM Q V)) ?_;have A:=(tR V).alloc (bq ⟨dK Q⟩ fF.e);have R0:=jT V (dK Q) fF.e;have L0:V.heap.size<(V.alloc (bq ⟨dK Q⟩ fF.e)).heap.size:=by simp
  have a4:=λs=>Nat.lt_irrefl _ (D.ox.fresh V.heap.size s);have a5:=λs=>Nat.lt_irrefl _ (D.oy.fresh V.heap.size s);replace D:=D.u A;replace z:=z.t (.of A);replace k:=λq n=>(A.old q lT lz).t (k q n);replace l:=lh (bg (aK l.o.1 A.size) (aj l.o.2 A.size));refine gK m k ?_;clear m K A
  generalize a1:V.alloc (bq ⟨dK Q⟩ fF.e)=V' at *;clear a1;generalize V.heap.size=s0 at *;clear V;obtain⟨V,rfl⟩:=eX V';refine dY.two (i:=16) (j:=32) rfl rfl lB rfl rfl (λK m=>?_) (λK m=>?_)
  .obtain⟨ad,U,H,F,M⟩:=(D).app R0 a7 22;refine bZ (d:=bh 21) rfl (dL (.tmp 5) (.tmp 20) 22 rfl rfl rfl H) ?_;have aw:=λg J=>(D.ox.2.lt g J).1;have G:=D.nx;replace z:=z.t ⟨_,λb R=>.inr (.inr (aw b R)),M⟩;replace k:=λq n=>(M.old q lT (λs=>mh)).t (k q n);replace l:=lh (bg (aK l.o.1 M.size) (aj l.o.2 M.size));replace D:=F;refine gK m k ?_;clear m K M H aw G R0 L0 a4 a5;clear V;obtain⟨V,rfl⟩:=eX U;clear F;refine Oo 32 λK m=>?_;refine bZ (d:=bh 37) rfl (dV (x:=.tmp 36) rfl rfl (zM E V)) ?_;have A:=(tR V).alloc (bq ⟨dK E⟩ fF.e);have N:=jT V (dK E) fF.e;have L:V.heap.size<(V.alloc (bq ⟨dK E⟩ fF.e)).heap.size:=lz;have a2:=λs=>Nat.lt_irrefl _ (D.ox.fresh V.heap.size s);have a3:=λs=>Nat.lt_irrefl _ (D.oy.fresh V.heap.size s);replace D:=D.u A;replace z:=z.t (.of A);replace k:=λq n=>(A.old q lT lz).t (k q n);replace l:=lh (bg (aK l.o.1 A.size) (aj l.o.2 A.size));refine gK m k ?_;clear m K A;generalize a1:V.alloc (bq ⟨dK E⟩ fF.e)=V' at *;clear a1;generalize V.heap.size=s1 at *;clear V;obtain⟨V,rfl⟩:=eX V';refine Oo 33 λK m=>?_;obtain⟨af,U,H,F,M⟩:=(D.swap).app N a8 22;refine bZ (d:=bh 38) rfl (dL (.tmp 22) (.tmp 37) 22 rfl rfl rfl H) ?_;have aw:=λg J=>(D.oy.2.lt g J).1;have G:=D.ny;replace z:=z.t ⟨_,λb R=>.inr (.inr (aw b R)),M⟩;replace k:=λq n=>(M.old q lT (λs=>mh)).t (k q n);replace l:=lh (bg (aK l.o.1 M.size) (aj l.o.2 M.size));replace D:=F.swap;refine gK m k ?_;clear m K M H aw G N L a2 a3;clear V;obtain⟨V,rfl⟩:=eX U;clear F;obtain⟨A0,c0,h0⟩:=jv D.ox;obtain⟨A1,c1,h1⟩:=jv D.oy;generalize ((xs++[Q]).map dK).length=n0 at h0;generalize ((ys++[E]).map dK).length=n1 at h1;subst h0;subst h1;have P:=k O (.inl lx);have a0:=k T (.inl ly);have hR:=NT.fin I.o.2.1 I.o.2.2.1 D z ⟨P,a0⟩ lx ly ne;have ex:=cO 0 _ (P.t I.o.2.1);have fx:=dm (P.t I.o.2.1) 0;have X:=bW (b:=O) (i:=0) (v:=bl A0 n0 c0) (a0.t I.o.2.2.1) (Ne.symm ne);have ey:=cO 0 _ X;have fy:=dm X 0;have HR:=lh hR;clear hR X P a0 D;refine Oo 34 λK m=>?_;go_simp;refine m _ _ (λh=>absurd h lG) ?_;clear m K;(try go_frame);refine Oo 35 λK m=>?_;go_simp;refine m _ _ (λh=>absurd h lG) ?_;clear m K;(try go_frame);refine dY.done lB ?_;clear ex fx ey fy;go_wp2;go_end0;exact⟨rfl,HR.o.1,(jO.of HK.o.2.2).t HR.o.2⟩
  refine bZ (d:=bh 37) rfl (dV (x:=.tmp 36) rfl rfl (zM E V)) ?_;have A:=(tR V).alloc (bq ⟨dK E⟩ fF.e);have N:=jT V (dK E) fF.e;have L:V.heap.size<(V.alloc (bq ⟨dK E⟩ fF.e)).heap.size:=lz
  have a2:=λs=>Nat.lt_irrefl _ (D.ox.fresh V.heap.size s);have a3:=λs=>Nat.lt_irrefl _ (D.oy.fresh V.heap.size s);replace R0:=pW A L0 lz R0;replace L0:=aj L0 A.size;replace D:=D.u A;replace z:=z.t (.of A);replace k:=λq n=>(A.old q lT lz).t (k q n);replace l:=lh (bg (aK l.o.1 A.size) (aj l.o.2 A.size));refine gK m k ?_;clear m K A
  generalize a1:V.alloc (bq ⟨dK E⟩ fF.e)=V' at *;clear a1;generalize V.heap.size=s1 at *;clear V;obtain⟨V,rfl⟩:=eX V';refine Oo 16 λK m=>?_;obtain⟨ad,U,H,F,M⟩:=(D).app R0 a7 22;refine bZ (d:=bh 21) rfl (dL (.tmp 5) (.tmp 20) 22 rfl rfl rfl H) ?_;replace N:=pW M L a2 N;replace L:=aj L M.size;have aw:=λg J=>(D.ox.2.lt g J).1;have G:=D.nx;replace z:=z.t ⟨_,λb R=>.inr (.inr (aw b R)),M⟩;replace k:=λq n=>(M.old q lT (λs=>mh)).t (k q n);replace l:=lh (bg (aK l.o.1 M.size) (aj l.o.2 M.size));replace D:=F;refine gK m k ?_;clear m K M H aw G R0 L0 a4 a5
  clear V;obtain⟨V,rfl⟩:=eX U;clear F;refine Oo 33 λK m=>?_;obtain⟨af,U,H,F,M⟩:=(D.swap).app N a8 22;refine bZ (d:=bh 38) rfl (dL (.tmp 22) (.tmp 37) 22 rfl rfl rfl H) ?_;have aw:=λg J=>(D.oy.2.lt g J).1;have G:=D.ny;replace z:=z.t ⟨_,λb R=>.inr (.inr (aw b R)),M⟩;replace k:=λq n=>(M.old q lT (λs=>mh)).t (k q n);replace l:=lh (bg (aK l.o.1 M.size) (aj l.o.2 M.size));replace D:=F.swap;refine gK m k ?_;clear m K M H aw G N L a2 a3
  clear V;obtain⟨V,rfl⟩:=eX U;clear F;obtain⟨A0,c0,h0⟩:=jv D.ox;obtain⟨A1,c1,h1⟩:=jv D.oy;generalize ((xs++[Q]).map dK).length=n0 at h0;generalize ((ys++[E]).map dK).length=n1 at h1;subst h0;subst h1;have P:=k O (.inl lx);have a0:=k T (.inl ly);have hR:=NT.fin I.o.2.1 I.o.2.2.1 D z ⟨P,a0⟩ lx ly ne;have ex:=cO 0 _ (P.t I.o.2.1);have fx:=dm (P.t I.o.2.1) 0;have X:=bW (b:=O) (i:=0) (v:=bl A0 n0 c0) (a0.t I.o.2.2.1) (Ne.symm ne);have ey:=cO 0 _ X;have fy:=dm X 0;have HR:=lh hR;clear hR X P a0 D;refine Oo 34 λK m=>?_;go_simp;refine m _ _ (λh=>absurd h lG) ?_;clear m K;try go_frame
  refine Oo 35 λK m=>?_;go_simp;refine m _ _ (λh=>absurd h lG) ?_;clear m K;try go_frame
  refine dY.done lB ?_;clear ex fx ey fy;go_wp2;go_end0;exact⟨rfl,HR.o.1,(jO.of HK.o.2.2).t HR.o.2⟩
 refine bZ (d:=bh 37) rfl (dV (x:=.tmp 36) rfl rfl (zM E V)) ?_;have A:=(tR V).alloc (bq ⟨dK E⟩ fF.e);have N:=jT V (dK E) fF.e;have L:V.heap.size<(V.alloc (bq ⟨dK E⟩ fF.e)).heap.size:=lz
 have a2:=λs=>Nat.lt_irrefl _ (D.ox.fresh V.heap.size s);have a3:=λs=>Nat.lt_irrefl _ (D.oy.fresh V.heap.size s);replace D:=D.u A;replace z:=z.t (.of A);replace k:=λq n=>(A.old q lT lz).t (k q n);replace l:=lh (bg (aK l.o.1 A.size) (aj l.o.2 A.size));refine gK m k ?_;clear m K A
 generalize a1:V.alloc (bq ⟨dK E⟩ fF.e)=V' at *;clear a1;generalize V.heap.size=s1 at *;clear V;obtain⟨V,rfl⟩:=eX V';refine Oo 15 λK m=>?_;refine bZ (d:=bh 20) rfl (dV (x:=.tmp 19) rfl rfl (zM Q V)) ?_;have A:=(tR V).alloc (bq ⟨dK Q⟩ fF.e);have R0:=jT V (dK Q) fF.e;have L0:V.heap.size<(V.alloc (bq ⟨dK Q⟩ fF.e)).heap.size:=lz
 have a4:=λs=>Nat.lt_irrefl _ (D.ox.fresh V.heap.size s);have a5:=λs=>Nat.lt_irrefl _ (D.oy.fresh V.heap.size s);replace N:=pW A L lz N;replace L:=aj L A.size;replace D:=D.u A;replace z:=z.t (.of A);replace k:=λq n=>(A.old q lT lz).t (k q n);replace l:=lh (bg (aK l.o.1 A.size) (aj l.o.2 A.size));refine gK m k ?_;clear m K A
 generalize a1:V.alloc (bq ⟨dK Q⟩ fF.e)=V' at *;clear a1;generalize V.heap.size=s0 at *;clear V;obtain⟨V,rfl⟩:=eX V';refine Oo 16 λK m=>?_;obtain⟨ad,U,H,F,M⟩:=(D).app R0 a7 22;refine bZ (d:=bh 21) rfl (dL (.tmp 5) (.tmp 20) 22 rfl rfl rfl H) ?_;replace N:=pW M L a2 N;replace L:=aj L M.size;have aw:=λg J=>(D.ox.2.lt g J).1;have G:=D.nx;replace z:=z.t ⟨_,λb R=>.inr (.inr (aw b R)),M⟩;replace k:=λq n=>(M.old q lT (λs=>mh)).t (k q n);replace l:=lh (bg (aK l.o.1 M.size) (aj l.o.2 M.size));replace D:=F;refine gK m k ?_;clear m K M H aw G R0 L0 a4 a5
 clear V;obtain⟨V,rfl⟩:=eX U;clear F;refine Oo 33 λK m=>?_;obtain⟨af,U,H,F,M⟩:=(D.swap).app N a8 22;refine bZ (d:=bh 38) rfl (dL (.tmp 22) (.tmp 37) 22 rfl rfl rfl H) ?_;have aw:=λg J=>(D.oy.2.lt g J).1;have G:=D.ny;replace z:=z.t ⟨_,λb R=>.inr (.inr (aw b R)),M⟩;replace k:=λq n=>(M.old q lT (λs=>mh)).t (k q n);replace l:=lh (bg (aK l.o.1 M.size) (aj l.o.2 M.size));replace D:=F.swap;refine gK m k ?_;clear m K M H aw G N L a2 a3
 clear V;obtain⟨V,rfl⟩:=eX U;clear F;obtain⟨A0,c0,h0⟩:=jv D.ox;obtain⟨A1,c1,h1⟩:=jv D.oy;generalize ((xs++[Q]).map dK).length=n0 at h0;generalize ((ys++[E]).map dK).length=n1 at h1;subst h0;subst h1;have P:=k O (.inl lx);have a0:=k T (.inl ly);have hR:=NT.fin I.o.2.1 I.o.2.2.1 D z ⟨P,a0⟩ lx ly ne;have ex:=cO 0 _ (P.t I.o.2.1);have fx:=dm (P.t I.o.2.1) 0;have X:=bW (b:=O) (i:=0) (v:=bl A0 n0 c0) (a0.t I.o.2.2.1) (Ne.symm ne);have ey:=cO 0 _ X;have fy:=dm X 0;have HR:=lh hR;clear hR X P a0 D;refine Oo 34 λK m=>?_;go_simp;refine m _ _ (λh=>absurd h lG) ?_;clear m K;try go_frame
 refine Oo 35 λK m=>?_;go_simp;refine m _ _ (λh=>absurd h lG) ?_;clear m K;try go_frame
 refine dY.done lB ?_;clear ex fx ey fy;go_wp2;go_end0;exact⟨rfl,HR.o.1,(jO.of HK.o.2.2).t HR.o.2⟩
def xN(g:Nat->Int): Nat->List Int
 |0=>[]
 |k+1=>xN g k++[g k]
theorem rD(g:Nat->Int): ∀k,(xN g k).length=k
 |0=>rfl
 |k+1=>by unfold xN;rw [aO,rD g k];rfl
structure GU(w wr:ar)(bx by_ B:Nat)(gx gy:Nat->Int)(k:Nat): Prop where
 b:NT wr bx by_ B (xN gx k) (xN gy k)
 t:jO bx by_ B w wr
theorem GU.u{w wr u:ar}{e a B:Nat}{I J:Nat->Int}{k:Nat}(h:GU w wr e a B I J k)(T:bH [] wr u): GU w u e a B I J k:=⟨h.b.u T,h.t.t (.of T)⟩
theorem yU(p:Af)(f:p.ok=bA)(r:Rc)(C:r.InC)(pa a c B:Nat)(ao:pa<B)(ac:pa≠a)(i:pa≠c)(w:ar)(d:w.heap[pa]?=bh (bq (VT p) 40 (0,0)))(k:Nat)(l:k<=100)(x y:Int)(j:x=Ap r k)(hy:y=AU r k)(u:ar)(h:GU w u a c B (p.gx r) (p.gy r) k):
  bb bv 175 #[bo #[x,y],bk (bh ⟨a,0,bj⟩),bk (bh ⟨pa,0,bj⟩),bk (bh ⟨c,0,bj⟩)] u λe w'=>e=bz (.tuple #[])/\GU w w' a c B (p.gx r) (p.gy r) (k+1):=by
 subst j hy;exact (Oj p f (Ap r k) (AU r k) (gW C k).1.1 (gW C k).1.2 (gW C k).2.1 (gW C k).2.2 pa a c B _ _ (by rw [rD];omega) (by rw [rD];omega) ao u ((h.t.old ac i ao (ae.1 d).1).t d) h.b).mono λe w' g=>⟨g.1,g.2.1,h.t.t g.2.2⟩
theorem Gx(p:Af)(i:p.ok=bA)(r:Rc)(m:r.InC)(pa a b B:Nat)(ao:pa<B)(ac:pa≠a)(j:pa≠b)(w:ar)(C:w.heap[pa]?=bh (bq (VT p) 40 (0,0)))(y:NT w a b B [] []):
  bb bv 174 #[r.x0,r.y0,r.x1,r.y1,.func (.func 175) #[] #[bk (bh ⟨a,0,bj⟩),bk (bh ⟨pa,0,bj⟩),bk (bh ⟨b,0,bj⟩)]] w λe w'=>e=bz (.tuple #[])/\GU w w' a b B (p.gx r) (p.gy r) 4:=by
 have v:GU w w a b B (p.gx r) (p.gy r) 0:=⟨y,.refl _ _ _ _⟩;have A:=λu=>yU p i r m pa a b B ao ac j w C 0 gn r.x0 r.y0 rfl rfl u;have E:=λu=>yU p i r m pa a b B ao ac j w C 1 gn r.x1 r.y0 rfl rfl u;have Y:=λu=>yU p i r m pa a b B ao ac j w C 2 gn r.x0 r.y1 rfl rfl u;have F:=λu=>yU p i r m pa a b B ao ac j w C 3 gn r.x1 r.y1 rfl rfl u;generalize p.gx r=K,p.gy r=L at *;obtain⟨c,f,d,g⟩:=r;simp only at *;obtain⟨I,aR,b3,J,H⟩:=lh5 A E Y F v;clear A E Y F v y m i C ao ac j;go_enter func174,ntmps174;go_wp2_with fail
 generalize D:(#[c,f,d,f,c,g,d,g]:Array aD)=ps;have n:∀u:ar,(Instr.index 279 (bo ps) (0:Int)).run bv u=.ok (bo #[c,f]) u:=λu=>np
 have q:∀u:ar,(Instr.index 279 (bo ps) (1:Int)).run bv u=.ok (bo #[d,f]) u:=λu=>np
 have s:∀u:ar,(Instr.index 279 (bo ps) (2:Int)).run bv u=.ok (bo #[c,g]) u:=λu=>np
 have z:∀u:ar,(Instr.index 279 (bo ps) (3:Int)).run bv u=.ok (bo #[d,g]) u:=λu=>np
 have G:=lh (bg n (bg q (bg s z)));clear D n q s z;go_loopw [25] (λs25 wr=>∃k:Nat,k<=4/\s25=k/\GU w wr a b B K L k) (λs25 _=>4-(bs s25).toNat);case atStart=>exact⟨0,gn,rfl,H.o⟩
 obtain⟨k,M,rfl,x⟩:=hrel;obtain⟨n,q,s,z⟩:=G.o;have h:=lh x;clear x;obtain rfl|rfl|rfl|rfl|rfl:k=0\/k=1\/k=2\/k=3\/k=4:=by omega
 .have l:=lh (I.o _ (h.o.u ((tR wr).alloc (bq #[c,f] 123))));go_wp2_with (go_at_call 175;refine mR l.o λt aE=>?_;have S:=lh aE;clear aE)
  go_roundw;case rel=>exact⟨1,gn,by go_num,S.o⟩
  simp [bs]
 .have l:=lh (aR.o _ (h.o.u ((tR wr).alloc (bq #[d,f] 123))));go_wp2_with (go_at_call 175;refine mR l.o λt aE=>?_;have S:=lh aE;clear aE)
  go_roundw;case rel=>exact⟨2,gn,by go_num,S.o⟩
  simp [bs]
 .have l:=lh (b3.o _ (h.o.u ((tR wr).alloc (bq #[c,g] 123))));go_wp2_with (go_at_call 175;refine mR l.o λt aE=>?_;have S:=lh aE;clear aE)
  go_roundw;case rel=>exact⟨3,gn,by go_num,S.o⟩
  simp [bs]
 .have l:=lh (J.o _ (h.o.u ((tR wr).alloc (bq #[d,g] 123))));go_wp2_with (go_at_call 175;refine mR l.o λt aE=>?_;have S:=lh aE;clear aE)
  go_roundw;case rel=>exact⟨4,gn,by go_num,S.o⟩
  simp [bs]
 clear n q s z;go_wp2;go_end0;exact⟨rfl,h.o⟩
theorem QJ(p q:Int)(P:bc)(w:ar): (Go.Builtin.min2 p q).run P w=.ok (bm .i64 (min p q)) w:=by
 have e:(if q<p then q else p)=min p q:=by split<;>omega
 show (pure (Value.int .i64 (if q<p then q else p)):Sem aD).run P w=_;rw [e];rfl
theorem Qa(a b c d:Int)(ty:aM)(w:ar): (Builtin.min_ #[3,3,3,3] ty #[a,b,c,d]).run bv w=.ok (bm .i64 (min (min (min a b) c) d)) w:=by show (List.foldlM Go.Builtin.min2 a [b,c,d]).run bv w=_;simp only [List.foldlM_cons,List.foldlM_nil,Sem.run_bind,QJ,Result.andThen];rfl
theorem NG{o:be}{a:Act}{w:ar}{x y z t:bf}(b:o.op=Op.call { callee:=Callee.builtin Builtin.min,args:=#[x,y,z,t],argTypes:=#[3,3,3,3] }){p q r s:Int}(d:a.eval x=p)(f:a.eval y=q)(J:a.eval z=r)(c:a.eval t=s): (ba a.eval o).run bv w=.ok (.value (bm .i64 (min (min (min p q) r) s))) w:=by have e:=Qa p q r s o.type w;simp [ba,b,resolve,invoke,builtin,d,f,J,c,e,Result.andThen]
theorem QW(p q:Int)(P:bc)(w:ar): (Go.Builtin.max2 p q).run P w=.ok (bm .i64 (max p q)) w:=by
 have e:(if p<q then q else p)=max p q:=by split<;>omega
 show (pure (Value.int .i64 (if p<q then q else p)):Sem aD).run P w=_;rw [e];rfl
theorem QM(a b c d:Int)(ty:aM)(w:ar): (Builtin.max_ #[3,3,3,3] ty #[a,b,c,d]).run bv w=.ok (bm .i64 (max (max (max a b) c) d)) w:=by show (List.foldlM Go.Builtin.max2 a [b,c,d]).run bv w=_;simp only [List.foldlM_cons,List.foldlM_nil,Sem.run_bind,QW,Result.andThen];rfl
theorem Nz{o:be}{a:Act}{w:ar}{x y z t:bf}(b:o.op=Op.call { callee:=Callee.builtin Builtin.max,args:=#[x,y,z,t],argTypes:=#[3,3,3,3] }){p q r s:Int}(d:a.eval x=p)(f:a.eval y=q)(J:a.eval z=r)(c:a.eval t=s): (ba a.eval o).run bv w=.ok (.value (bm .i64 (max (max (max p q) r) s))) w:=by have e:=QM p q r s o.type w;simp [ba,b,resolve,invoke,builtin,d,f,J,c,e,Result.andThen]
theorem KE(A:Option Addr)(n c:Nat)(g:Nat->Int)(w:ar)(h:dn w A n (xN g 4)): CR 179 #[bl A n c] w (bm .i64 (min (min (min (g 0) (g 1)) (g 2)) (g 3))):=by
 have G:n=4:=h.1.t (rD g 4);subst G;obtain⟨a,e,rfl,_⟩:=h.2 0 gn;have d:=λu (t:bH [] w u) (j:Nat) (C:j<4)=>(show u.cell? ⟨a,e+j,bj⟩=bh (bm .i64 ((xN g 4).getD j 0)) by obtain⟨O,R,q,v⟩:=(h.u t).2 j C;cases q;exact v);have i:=λu (t:bH [] w u)=>d u t 0 gn;have k:=λu (t:bH [] w u)=>d u t 1 gn;have l:=λu (t:bH [] w u)=>d u t 2 gn;have p:=λu (t:bH [] w u)=>d u t 3 gn;simp only [xN,List.nil_append,List.cons_append,List.getD_cons_zero,List.getD_cons_succ,Nat.add_zero]at i k l p;clear d h;generalize g 0=B,g 1=J,g 2=Q,g 3=D at *;obtain⟨m,f⟩:=eX (min (min (min B J) Q) D);have Z:=lh f;rw [<-f];clear f;go_enter func179,ntmps179;go_upto_region 1 with fail
 refine sN 13 (tR w) λV s=>?_;refine fE 0 (bl (bh ⟨a,e,bj⟩) 4 c) ?_;refine fK 1 ?_;refine Xy 2 B (λw' b=>i w' b) ?_;refine fE 3 (bl (bh ⟨a,e,bj⟩) 4 c) ?_;refine fK 4 ?_;refine Xy 5 J (λw' b=>k w' b) ?_;refine fE 6 (bl (bh ⟨a,e,bj⟩) 4 c) ?_;refine fK 7 ?_;refine Xy 8 Q (λw' b=>l w' b) ?_;refine fE 9 (bl (bh ⟨a,e,bj⟩) 4 c) ?_;refine fK 10 ?_;refine Xy 11 D (λw' b=>p w' b) ?_;refine fE 12 m ?_ rfl (j:=λw' b=>(by rw [Z.o];exact NG (x:=.tmp 5) (y:=.tmp 8) (z:=.tmp 11) (t:=.tmp 14) rfl rfl rfl rfl rfl));refine Yo ?_
 clear i k l p;go_wp2;go_ret;exact⟨rfl,s⟩
theorem G7(A:Option Addr)(n c:Nat)(g:Nat->Int)(w:ar)(h:dn w A n (xN g 4)): CR 180 #[bl A n c] w (bm .i64 (max (max (max (g 0) (g 1)) (g 2)) (g 3))):=by
 have G:n=4:=h.1.t (rD g 4);subst G;obtain⟨a,e,rfl,_⟩:=h.2 0 gn;have d:=λu (t:bH [] w u) (j:Nat) (C:j<4)=>(show u.cell? ⟨a,e+j,bj⟩=bh (bm .i64 ((xN g 4).getD j 0)) by obtain⟨O,R,q,v⟩:=(h.u t).2 j C;cases q;exact v);have i:=λu (t:bH [] w u)=>d u t 0 gn;have k:=λu (t:bH [] w u)=>d u t 1 gn;have l:=λu (t:bH [] w u)=>d u t 2 gn;have p:=λu (t:bH [] w u)=>d u t 3 gn;simp only [xN,List.nil_append,List.cons_append,List.getD_cons_zero,List.getD_cons_succ,Nat.add_zero]at i k l p;clear d h;generalize g 0=B,g 1=J,g 2=Q,g 3=D at *;obtain⟨m,f⟩:=eX (max (max (max B J) Q) D);have Z:=lh f;rw [<-f];clear f;go_enter func180,ntmps180;go_upto_region 1 with fail
 refine sN 13 (tR w) λV s=>?_;refine fE 0 (bl (bh ⟨a,e,bj⟩) 4 c) ?_;refine fK 1 ?_;refine Xy 2 B (λw' b=>i w' b) ?_;refine fE 3 (bl (bh ⟨a,e,bj⟩) 4 c) ?_;refine fK 4 ?_;refine Xy 5 J (λw' b=>k w' b) ?_;refine fE 6 (bl (bh ⟨a,e,bj⟩) 4 c) ?_;refine fK 7 ?_;refine Xy 8 Q (λw' b=>l w' b) ?_;refine fE 9 (bl (bh ⟨a,e,bj⟩) 4 c) ?_;refine fK 10 ?_;refine Xy 11 D (λw' b=>p w' b) ?_;refine fE 12 m ?_ rfl (j:=λw' b=>(by rw [Z.o];exact Nz (x:=.tmp 5) (y:=.tmp 8) (z:=.tmp 11) (t:=.tmp 14) rfl rfl rfl rfl rfl));refine Yo ?_
 clear i k l p;go_wp2;go_ret;exact⟨rfl,s⟩
theorem CY(p:Af)(c:p.ok=bA)(n:Int)(e:-17179869184<=n)(d:n<=17179869184)(pa:Nat)(w:ar)(C:w.heap[pa]?=bh (bq (VT p) 40 (0,0))): CR 176 #[n,bk (bh ⟨pa,0,bj⟩)] w (bm .i64 (qG (2*n-p.den) (2*p.den))):=by
 have D:=(p.bds c).2.1;have z:=cO 6 p.den C;clear c C;generalize p.den=a at *;have b:=LW (2*n-a) (2*a) gn gn w;have f:=uf (2*n-a) (2*a) 1099511627776 gn gn;have i:br (2*n)=2*n:=dN _ gn gn;have Y:br (2*n-a)=2*n-a:=dN _ gn gn;have F:br (2*a)=2*a:=dN _ gn gn;clear f;generalize qG (2*n-a) (2*a)=q at *;have l:=lh b;clear b e d D;go_enter func176,ntmps176;go_wp2_with (go_at_call 177;refine mS l.o ?_)
 go_ret;exact⟨lz,tR _⟩
theorem GR(p:Af)(c:p.ok=bA)(n:Int)(e:-17179869184<=n)(d:n<=17179869184)(pa:Nat)(w:ar)(C:w.heap[pa]?=bh (bq (VT p) 40 (0,0))): CR 178 #[n,bk (bh ⟨pa,0,bj⟩)] w (bm .i64 (iq (2*n-p.den) (2*p.den)+1)):=by
 have D:=(p.bds c).2.1;have z:=cO 6 p.den C;clear c C;generalize p.den=a at *;have b:=J3 (2*n-a) (2*a) gn gn w;have f:=uf (2*n-a) (2*a) 1099511627776 gn gn;have i:br (2*n)=2*n:=dN _ gn gn;have Y:br (2*n-a)=2*n-a:=dN _ gn gn;have F:br (2*a)=2*a:=dN _ gn gn;have g:br (iq (2*n-a) (2*a)+1)=iq (2*n-a) (2*a)+1:=dN _ gn gn;generalize iq (2*n-a) (2*a)=q at *;have l:=lh b;clear b e d D f;go_enter func178,ntmps178;go_wp2_with (go_at_call 166;refine mS l.o ?_)
 go_ret;exact⟨oR,tR _⟩
theorem UQ(w:ar): CR 181 #[] w Rc.cv.v:=by
 go_enter func181,ntmps181;go_wp2_with fail
 exact ag (v:=Rc.cv.v) (by simp [results,results181,go_sem];rfl) rfl ⟨rfl,(tR w).a _⟩
def df.rk(d:df)(x:Int): Nat:=(dP d.agY 2502 x).toNat
theorem yD(f:Int->Int): ∀(ps:List Int) (m:Int),m<=ps.foldl (λm p=>max m (f p)) m/\∀p∈ps,f p<=ps.foldl (λm p=>max m (f p)) m
 | [],m=>⟨Int.le_refl _,λp a=>by cases a⟩
 |q::ps,m=>by
  obtain⟨e,b⟩:=yD f ps (max m (f q));rw [List.foldl_cons];refine⟨gn,λp a=>?_⟩;rcases aS.1 a with rfl|a
  .omega
  exact b p a
theorem Ir{ls:List bI}{x y:Int}(h:y∈eP ls x): ∃l,dh ls x=bh l/\y∈fZ l:=by
 unfold eP at h;unfold dh;cases C:mW (ls.map (·.id)) x with
 |none=>rw [C]at h;simp at h
 |some k=>
  rw [C]at h;simp only at h ⊢;cases i:ls[k]? with
  |none=>rw [i]at h;simp at h
  |some l=>rw [i]at h;exact⟨l,rfl,h⟩
theorem KO{d:df}(s:d.Tidy)(q:oP d.agY)(I:d.Ok)(o:∀l∈d.agY,l.Xh=l.ag0.length){x y:Int}(h:y∈eP d.agY x): d.rk y<d.rk x:=by
 obtain⟨l,i,a⟩:=Ir h;obtain⟨k,_,n,_⟩:=iD i;have g:=aH n;have j:l.ag1=2\/l.ag1=4:=by
  by_cases c:l.ag1=4
  .exact .inr c
  by_cases f:l.ag1=2
  .exact .inl f
  have b:=(s.lay l g).Xq f;rw [o l g]at b;unfold fZ at a;rw [aF c,List.eq_nil_of_length_eq_zero b]at a;cases a
 have e:dP d.agY 2502 x=(fZ l).foldl (λm p=>max m (dP d.agY 2501 p)) 0+1:=by rw [show (2502:Nat)=2501+1 from rfl];unfold dP;rw [i];exact aG j
 have t:=(yD (dP d.agY 2501) (fZ l) 0).2 y a;have f:=uZ d.agY 2501 y (zk q I.acy y) 2502 gn;have u:=(qN d.agY 2501 y).1;unfold df.rk;omega
theorem QP{ls:List bI}{a:Int}(h:(mW (ls.map (·.id)) a).isSome=bA): ∃l,dh ls a=bh l:=by
 unfold dh;cases C:mW (ls.map (·.id)) a with
 |none=>rw [C]at h;cases h
 |some k=>
  unfold mW at C;rw [bi]at C;obtain⟨e,_⟩:=C;rw [aJ]at e;exact⟨ls[k],aB e⟩
def QE(d:df)(n:Int): Int:=if vC n ((d.ln:Int)+1)=(d.ln:Int) then n else d.ids.getD (vC n ((d.ln:Int)+1)).toNat 0
theorem QN(d:df)(n:Int)(w:ar)(h:d.At w): CR 9 #[d.v,n] w (bm .i64 (QE d n)):=by
 have F:=h.small;have av:=h.agY.1;have f:=λu=>(IJ n ((d.ln:Int)+1) gn gn u).mono λe w' (b:e=_/\w'=u)=>(show e=_/\u=w' from ⟨b.1,b.2.symm⟩);obtain⟨s,E⟩:=GM n (n:=(d.ln:Int)+1) gn;have D:br ((d.ln:Int)+1)=(d.ln:Int)+1:=gV gn gn;obtain⟨W,m⟩:=eX (w.alloc (bq #[bl d.sA d.sn d.sc,d.root,d.next,bl d.lA d.ln d.lc] 29));have c:bH [] w W:=rn
 have l:=YE m
 have t:=cO 3 (bl d.lA d.ln d.lc) l;have i:=(h.u c).agY;have y:QE d n=if vC n ((d.ln:Int)+1)=(d.ln:Int) then n else d.ids.getD (vC n ((d.ln:Int)+1)).toNat 0:=rfl
 rw [y];generalize vC n ((d.ln:Int)+1)=G at *;obtain⟨k,rfl⟩:=Int.eq_ofNat_of_zero_le s;obtain⟨C,H,B,bt⟩:=lh4 f c i av;clear f c i l h av y;unfold df.v;by_cases q:k=d.ln
 .rw [aG gn];go_enter func9,ntmps9;go_upto_region 1 with fail
  rw [<-m];clear m;have bd:((k:Int)==(d.ln:Int))=bA:=by simp [q]
  go_wp2_with (go_at_call 10;refine (C.o _).mono ?_;rintro e I ⟨rfl,rfl⟩)
  go_ret;exact⟨rfl,H.o⟩
 rw [aF gn];have a5:k<d.agY.length:=by rw [<-bt.o];omega
 obtain⟨ay,g,o,e,j⟩:=B.o.2 k d.agY[k] (aB a5);have X:d.ids.getD k 0=d.agY[k].id:=by unfold df.ids;simp [List.getD,aB a5]
 have p:=j 0 (bm .i64 d.agY[k].id) rfl;rw [<-X,Nat.add_zero]at p;rw [Int.toNat_natCast];generalize d.ids.getD k 0=z at *;have bd:((k:Int)==(d.ln:Int))=bB:=lO
 have x:(0:Int)<=(k:Int):=gn
 have A:(k:Int)<(d.ln:Int):=gn
 rw [e]at m t;rw [e];clear j X ay a5 e;go_enter func9,ntmps9;go_upto_region 1 with fail
 rw [<-m];clear m;go_wp2_with (go_at_call 10;refine mS (C.o _) ?_)
 go_ret;exact⟨rfl,H.o⟩
