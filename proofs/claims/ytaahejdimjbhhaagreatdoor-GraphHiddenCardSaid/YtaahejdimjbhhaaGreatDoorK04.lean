import Derived.Deep.MidRow
import Derived.DeepKeys
import Derived.Test.YtaahejdimjbhhaaGreatDoorK03
set_option maxRecDepth 100000
set_option maxHeartbeats 0
set_option linter.all false
namespace Go.Proofs.YtaahejdimjbhhaaGreatDoor
open Tryz Go.RowKit Go.Den
open Go.Value renaming int->aa,agg->ab,pointer->ac,bool->ad,slice->af
open Go.Obj renaming cells->am
open Option renaming some->an,none->ap
open Go renaming World->aq,Value->av,run_loadVar_row->aw,Calls->ay,TypeId->aD,Addr->aE
open Go.Proofs.Tryz renaming underlying80->aL,zeroCells80->aM,prog->aR,ntmps193->a0,func193->a1
open Bool renaming true->a2,false->a3
open Go.Ending renaming returned->a4
open Go.RowKit renaming intOf->a6
theorem OW(k:Int)(h:lm 4096 k=a2)(w:aq): ay aR 241 #[k] w λe w'=>e=a4 (ad a3)/\w'=w:=by
 obtain⟨a,b⟩:=yS.1 h;go_enter func241,ntmps241;go_wp2_with (go_at_call 242;refine mS (ji _ _ _ gn gn _) ?_)
 go_ret;exact⟨lU,rfl⟩
theorem NI(ks:List Int)(b:ks.all (lm 4096)=a2)(g o n cap:Nat)(G:n=ks.length)(i:n<=100)(w:aq)(a:∀j,j<n->w.cell? ⟨g,o+j,ap⟩=an (aa .i64 (ks.getD j 0))):
  ay aR 266 #[af (an ⟨g,o,ap⟩) n cap,.func (.func 241) #[] #[]] w λe w'=>e=a4 (aa .i64 (-1))/\w'=w:=by
 have c:∀j,j<n->lm 4096 (ks.getD j 0)=a2:=by
  intro j f;have:ks.getD j 0∈ks:=rR
  exact aZ.1 b _ this
 have y:=lh a;have B:=lh c;clear a c b G;go_enter func266,ntmps266;go_wp2_with fail
 go_loop [8] (λs8=>∃k:Nat,k<=n/\s8=k) (λs8=>n-(a6 s8).toNat);case atStart=>exact⟨0,gn,rfl⟩
 obtain⟨k,h,rfl⟩:=hrel;by_cases a5:k<n
 .have ax:=y.o k a5;have d:=OW _ (B.o k a5);generalize ks.getD k 0=z at *;have l:=lh d;clear d;go_wp2_with (first
   |(go_at_call 241;refine mS (l.o _) ?_)
   |fail)
  go_round;case rel=>exact⟨k+1,gn,by go_num⟩
  simp [a6];omega
 obtain rfl:k=n:=gn
 go_wp2;go_ret;exact⟨rfl,rfl⟩
theorem Ff(ks:List Int)(b:ks.all (lm 4096)=a2)(g o n cap:Nat)(G:n=ks.length)(i:n<=100)(w:aq)(a:∀j,j<n->w.cell? ⟨g,o+j,ap⟩=an (aa .i64 (ks.getD j 0))):
  ay aR 243 #[af (an ⟨g,o,ap⟩) n cap,.func (.func 241) #[] #[]] w λe w'=>e=a4 (ad a3)/\w'=w:=by
 have p:=lh (NI ks b g o n cap G i w a);clear a b G;go_enter func243,ntmps243;go_wp2_with (go_at_call 266;refine mS p.o ?_)
 go_ret;exact⟨lU,rfl⟩
theorem Nu(f:Fv)(C:f.ag1=1)(ks:List Int)(x:f.headB=a2)(u:ks.all (lm 4096)=a2)(s:f.plain a2 a3 a3 a2=a2)(w:aq)(B:dn w f.kA f.kn ks): CR 193 #[f.v] w (ad a2):=by
 have J:=zG s;have y:=oG s;clear s;simp only [Fv.headB,Fv.win,az,decide_eq_true_eq,beq_iff_eq]at x;obtain⟨⟨⟨⟨H,I⟩,c⟩,M⟩,N⟩:=x;obtain⟨ag1,Xf,R,n,F,O,T,cA,L,K⟩:=f;simp only [Fv.v]at *;subst J y C;obtain⟨G,q⟩:=B;have E:1<=n/\n<=49:=by
  have p:Xf=0\/Xf=1\/Xf=2\/Xf=3:=gn
  rcases p with rfl|rfl|rfl|rfl<;>simp only [pO,Int.reduceMul,Int.reduceAdd]at c<;>omega
 obtain⟨g,o,rfl,_⟩:=q 0 gn;have D:∀j,j<n->w.cell? ⟨g,o+j,ap⟩=an (aa .i64 (ks.getD j 0)):=by intro j k;obtain⟨Q,S,e,h⟩:=q j k;injection e with e;injection e with z A P;subst z;subst A;exact h
 have b:=λw' (t:bH [] w w')=>Ff ks u g o n F G gn w' (λj k=>rS);clear q D G u;obtain⟨i,m⟩:=E;have p:Xf=0\/Xf=1\/Xf=2\/Xf=3:=gn
 clear H I;rcases p with rfl|rfl|rfl|rfl<;>simp only [pO,Int.reduceMul,Int.reduceAdd]at c
 .obtain rfl:n=1:=by omega
  clear c i m;have l:=lh b;clear b;go_enter a1,a0;go_wp2_with fail
  go_region;go_wp2_with (first
   |(go_at_call 242;refine (ji _ _ _ gn gn _).mono ?_;rintro e d ⟨rfl,rfl⟩)
   |(go_at_call 243;refine (l.o _ ((((tR w).a _).a _).drawn 1)).mono ?_;rintro e d ⟨rfl,rfl⟩)
   |fail)
  go_ret;exact⟨lU,(((tR w).a _).a _).drawn 1⟩
 .obtain rfl:n=9:=by omega
  clear c i m;have l:=lh b;clear b;go_enter a1,a0;go_wp2_with fail
  go_region;go_wp2_with (first
   |(go_at_call 242;refine (ji _ _ _ gn gn _).mono ?_;rintro e d ⟨rfl,rfl⟩)
   |(go_at_call 243;refine (l.o _ ((((tR w).a _).a _).drawn 1)).mono ?_;rintro e d ⟨rfl,rfl⟩)
   |fail)
  go_ret;exact⟨lU,(((tR w).a _).a _).drawn 1⟩
 .obtain rfl:n=25:=by omega
  clear c i m;have l:=lh b;clear b;go_enter a1,a0;go_wp2_with fail
  go_region;go_wp2_with (first
   |(go_at_call 242;refine (ji _ _ _ gn gn _).mono ?_;rintro e d ⟨rfl,rfl⟩)
   |(go_at_call 243;refine (l.o _ ((((tR w).a _).a _).drawn 1)).mono ?_;rintro e d ⟨rfl,rfl⟩)
   |fail)
  go_ret;exact⟨lU,(((tR w).a _).a _).drawn 1⟩
 obtain rfl:n=49:=gn
 clear c i m;have l:=lh b;clear b;go_enter a1,a0;go_wp2_with fail
 go_region;go_wp2_with (first
  |(go_at_call 242;refine (ji _ _ _ gn gn _).mono ?_;rintro e d ⟨rfl,rfl⟩)
  |(go_at_call 243;refine mS (l.o _ ((((tR w).a _).a _).drawn 1)) ?_)
  |fail)
 go_ret;exact⟨lU,(((tR w).a _).a _).drawn 1⟩
theorem Bc(f:Fv)(ks cs:List Int)(g:jC f ks cs=a2)(w:aq)(j:dn w f.kA f.kn ks)(i:dn w f.cA f.cn cs): CR 193 #[f.v] w (ad a2):=by
 obtain⟨k,l⟩:=xK f ks cs g;unfold jC at g;by_cases e:f.ag1=1
 .rw [aG e,az,az]at g;exact Nu f e ks g.1.1 g.1.2 g.2 w j
 rw [aF e]at g;by_cases a:f.ag1=2\/f.ag1=3\/f.ag1=4
 .rw [aG a,az]at g;exact OL f a g.2 (k gn) w
 rw [aF a]at g;by_cases c:f.ag1=5
 .rw [aG c,az]at g;exact LU f c g.2 cs g.1 w i
 rw [aF c]at g;by_cases d:f.ag1=6
 .rw [aG d]at g;exact O4 f d g w
 rw [aF d]at g;by_cases h:f.ag1=7
 .rw [aG h]at g;simp only [az,decide_eq_true_eq]at g;exact QI f h g.2 g.1 w
 rw [aF h]at g;by_cases b:f.ag1=8
 .rw [aG b,az]at g;exact P8 f b g.2 (l b) w
 rw [aF b]at g;exact absurd g lz
theorem aan(f:Fv)(ks cs:List Int)(g:jC f ks cs=a2)(r:Rc)(C:r.bd)(w:aq)(d:dn w f.kA f.kn ks)(b:dn w f.cA f.cn cs): ay aR 72 #[f.v,r.v] w λe w'=>e=a4 (f.area (jC f ks cs) r (-1)).v/\bH [] w w':=
 adV f ks cs g r C w λw' t=>Bc f ks cs g w' (d.u t) (b.u t)
theorem yH(f:Fv)(ks cs:List Int)(g:jC f ks cs=a2)(r:Rc)(C:r.bd)(w:aq)(d:dn w f.kA f.kn ks)(b:dn w f.cA f.cn cs): ay aR 126 #[f.v,r.v] w λe w'=>e=a4 (f.area (jC f ks cs) r 1).v/\bH [] w w':=
 Gg f ks cs g r C w λw' t=>Bc f ks cs g w' (d.u t) (b.u t)
def tv(a:List Int): av:=ab ⟨a.map (Value.int .u8)⟩
def al(a:List Int)(i:Nat): Int:=a.getD (i*4+3) 0
def oO(a:List Int): Bool:=(List.range 64).all λi=>al a i==0
theorem QA(a:List Int)(u:aq)(ty:aD)(j:Nat)(k:j<a.length): (u.alloc (am ⟨a.map (Value.int .u8)⟩ ty)).cell? ⟨u,j,ap⟩=an (aa .u8 (a.getD j 0)):=by rw [aA _ _ _ _ ty (0,0) (heap_alloc_new u _)];simp [List.getD,k]
theorem GV(a:List Int)(g:a.length=256)(w:aq):
  CR 162 #[tv a] w (ad (oO a)):=by
 have b:∀k,k<64->(w.alloc (am ⟨a.map (Value.int .u8)⟩ 80)).cell? ⟨w,k*4+3,ap⟩=an (aa .u8 (al a k)):=λk f=>QA a w _ _ gn;have T:=(tR w).alloc (am ⟨a.map (Value.int .u8)⟩ 80);unfold tv;generalize (⟨a.map (Value.int .u8)⟩:Array av)=d at *;have l:=lh b;clear b;go_enter func162,ntmps162;go_wp2_with fail
 generalize w.alloc (am d 80)=W at *;go_loop [3] (λs3=>∃k:Nat,k<=64/\s3=k/\∀i,i<k->al a i=0) (λs3=>64-(a6 s3).toNat);case atStart=>exact⟨0,gn,rfl,λi m=>absurd m (aU i)⟩
 obtain⟨k,f,rfl,c⟩:=hrel;have y:=lh c;clear c;by_cases a5:k<64
 .have ax:=l.o k a5;generalize J:al a k=z at *;have I:=lh J;clear J;by_cases e:z=0
  .subst e;(go_wp2_with fail);go_round;case rel=>exact⟨k+1,gn,by go_num,λi m=>by
    by_cases h:i<k
    .exact y.o i h
    obtain rfl:i=k:=gn;exact I.o⟩
   simp [a6];omega
  go_wp2;go_ret;have:oO a=a3:=List.all_eq_false.2 ⟨k,aX.2 a5,by simp [I.o,e]⟩;exact⟨by rw [this];rfl,T⟩
 obtain rfl:k=64:=gn
 go_wp2;go_ret;have:oO a=a2:=aZ.2 λi m=>by simp [y.o i (aX.1 m)]
 exact⟨ux,T⟩
def jW(a:List Int)(j:Nat): Int:=if al a (j/4)=0 then 0 else a.getD j 0
def fG(a:List Int): List Int:=(List.range 256).map (jW a)
def lN(a:List Int)(k:Nat): List av:=(List.range 256).map λj=>aa .u8 (if j<4*k then jW a j else a.getD j 0)
theorem jY(a:List Int)(k:Nat): (lN a k).length=256:=by simp [lN]
theorem wB(a:List Int)(i:a.length=256): lN a 0=a.map (Value.int .u8):=by
 apply List.ext_getElem?;intro j;by_cases h:j<256
 .simp [lN,h,i,List.getD]
 simp [lN,h,i]
theorem KJ(a:List Int): lN a 64=(fG a).map (Value.int .u8):=by unfold lN fG;rw [List.map_map];apply List.map_congr_left;intro j k;have:=aX.1 k;simp [this]
theorem FU(a:List Int)(k j:Nat)(b:j<256): (lN a k)[j]?=an (aa .u8 (if j<4*k then jW a j else a.getD j 0)):=by simp [lN,b]
theorem Iu(f:List Int)(k:Nat)(o:k<64)(a b c d:Int)(C:jW f (4*k)=a)(i:jW f (4*k+1)=b)(l:jW f (4*k+2)=c)(E:jW f (4*k+3)=d):
  (lN f k).take (4*k)++[aa .u8 a,aa .u8 b,aa .u8 c,aa .u8 d]++(lN f k).drop (4*k+4)=lN f (k+1):=by
 have ao:=jY f k;apply List.ext_getElem?;intro j;by_cases g:j<256
 .rw [FU f (k+1) j g];by_cases h:j<4*k
  .rw [List.append_assoc,bD pT,List.getElem?_take_of_lt h,FU f k j g,aG h,aG gn]
  by_cases n:j<4*k+4
  .rw [aG gn];rw [bD pT,bG lO];have e:((lN f k).take (4*k)).length=4*k:=pT;rw [e];have m:j=4*k\/j=4*k+1\/j=4*k+2\/j=4*k+3:=gn;rcases m with rfl|rfl|rfl|rfl
   .rw [Nat.sub_self,C];rfl
   .rw [Nat.add_sub_cancel_left,i];rfl
   .rw [Nat.add_sub_cancel_left,l];rfl
   rw [Nat.add_sub_cancel_left,E];rfl
  rw [bG pT,List.getElem?_drop];have e:((lN f k).take (4*k)++[Value.int .u8 a,aa .u8 b,aa .u8 c,aa .u8 d]).length=4*k+4:=pT
  rw [e,show 4*k+4+(j-(4*k+4))=j by omega,FU f k j g,aF h,aF gn]
 have:(lN f (k+1))[j]?=ap:=by rw [bn,jY];omega
 rw [this,bn];simp [ao];omega
theorem xm{w:aq}{g i:Nat}{p L L':List av}{t:aD}(d:w.heap[g]?=an (am ⟨L⟩ t (0,0)))(f:L.length=256)(a:p.length=4)(e:∀v∈p,v.oneCell'=a2)(m:i<64)(C:L.take (4*i)++p++L.drop (4*i+4)=L'):
  (Instr.storeAt 45 (ac (an ⟨g,i*4,ap⟩)) (ab ⟨p⟩)).run aR w=.ok () (w.setRow g ⟨L'⟩):=by
 have ar:(prog.info? 45).map (·.size)=an 4:=lB
 have a8:=run_storeCells_at (P:=aR) g (4*i) t p 0 ⟨L⟩ w d (by show 4*i+0+p.length<=L.length;omega) e;have n:((⟨L⟩:Array av).toList.take (4*i+0)++p++(⟨L⟩:Array av).toList.drop (4*i+0+p.length)).toArray=⟨L'⟩:=by rw [a];show ((L.take (4*i+0)++p++L.drop (4*i+0+4)).toArray:Array av)=⟨L'⟩;rw [Nat.add_zero,C]
 rw [n]at a8;rw [Nat.mul_comm i 4];simp only [Instr.storeAt,Instr.sureAddr,Sem.run_bind,Sem.run_pure,Result.andThen];unfold storeVar;have b:(Value.agg ⟨p⟩).cells=⟨p⟩:=rfl;rw [Sem.run_bind,qp ar];simp only [Result.andThen,b];rw [aF (by show ¬(p.length≠4);omega)];exact a8
theorem Ah{w:aq}{g i:Nat}{a:List Int}{k:Nat}{t:aD}(d:w.heap[g]?=an (am ⟨lN a k⟩ t (0,0)))(m:i<64)(f:k<=i):
  w.rangeAt g (i*4) [aa .u8 (a.getD (i*4) 0),aa .u8 (a.getD (i*4+1) 0),aa .u8 (a.getD (i*4+2) 0),aa .u8 (al a i)]:=by
 intro j v b;rw [aA w g _ ⟨lN a k⟩ t (0,0) d];have l:j<4:=by have:=(ah.1 b).1;simpa using this
 have e:(⟨lN a k⟩:Array av)[i*4+j]?=(lN a k)[i*4+j]?:=lz
 rw [e,FU a k _ gn,aF gn,<-b];have c:j=0\/j=1\/j=2\/j=3:=gn
 rcases c with rfl|rfl|rfl|rfl<;>rfl
theorem Bq(r g b a:Int)(w:aq): ay aR 55 #[ab #[aa .u8 r,aa .u8 g,aa .u8 b,aa .u8 a]] w λe w'=>
  e=a4 (ab #[aa .u8 (if a=0 then 0 else r),aa .u8 (if a=0 then 0 else g),aa .u8 (if a=0 then 0 else b),aa .u8 (if a=0 then 0 else a)])/\bH [] w w':=by
 by_cases h:a=0
 .subst h;have c:=((tR w).alloc (am #[aa .u8 r,aa .u8 g,aa .u8 b,aa .u8 0] 45)).alloc (am #[aa .u8 0,aa .u8 0,aa .u8 0,aa .u8 0] 45);simp only [if_true];go_enter func55,ntmps55;go_wp2_with fail
  refine ag (v:=ab #[aa .u8 0,aa .u8 0,aa .u8 0,aa .u8 0]) tQ rfl ⟨rfl,c⟩
 simp only [h,if_false];have c:=((tR w).alloc (am #[aa .u8 r,aa .u8 g,aa .u8 b,aa .u8 a] 45)).alloc (am #[aa .u8 r,aa .u8 g,aa .u8 b,aa .u8 a] 45);go_enter func55,ntmps55;go_wp2_with fail
 refine ag (v:=ab #[aa .u8 r,aa .u8 g,aa .u8 b,aa .u8 a]) tQ rfl ⟨rfl,c⟩
theorem fD{P:Program}{b:Array Oper}{rest:List Oper}{o:Oper}{a:Act}{w:aq}{Q:Exit->Act->aq->Prop}(d:o.guard=ap)(t:aD)(x:Operand)(f:o.op=.load t x){g:Nat}{v:av}
  (i:a.eval x=ac (an ⟨g,0,ap⟩)) (C:(loadVar t ⟨g,0,ap⟩).run P w=.ok v w) (h:wpList P b Q rest (a.put o.dst v) w):wpList P b Q (o::rest) a w:=by
 refine wpList_plain d λK c=>?_;unfold Oper.wp;have e:(Instr.loadAt t (ac (an ⟨g,0,ap⟩))).run P w=.ok v w:=C;simp only [execOp,f,i,Sem.run_bind,e,Result.andThen];exact c _ _ h
structure xw(w:aq)(px:List Int)(k:Nat)(wr:aq): Prop where
 row:wr.heap[w.heap.size]?=an (am ⟨lN px k⟩ 80 (0,0))
 res:wr.heap[w.heap.size+1]?=an (am aM 80 (0,0))
 tn:bH [] w wr
theorem D9(b:List Int)(E:b.length=256)(w:aq):
  CR 164 #[tv b] w (tv (fG b)):=by
 have R:∀u:aq,(Instr.alloc 80 a2 (.tuple #[])).run aR u=.ok (ac (an ⟨u,0,ap⟩)) (u.alloc (am aM 80)):=λu=>oi
 have l:xw w b 0 ((w.alloc (am ⟨b.map (Value.int .u8)⟩ 80)).alloc (am aM 80)):=by
  have s1:∀(u:aq) (o:Obj),(u.alloc o).heap.size=u.heap.size+1:=λu o=>pZ
  refine⟨?_,?_,((tR w).a _).a _⟩
  .rw [(MapKept.heap_alloc _ _).2 _ uy,wB b E];exact (MapKept.heap_alloc _ _).1
  rw [<-s1 w];exact (MapKept.heap_alloc _ _).1
 have x:=lh Bq;unfold tv;generalize (⟨b.map (Value.int .u8)⟩:Array av)=K at *;go_enter func164,ntmps164;go_wp2_with fail
 go_loopw [3] (λs3 wr=>∃k:Nat,k<=64/\s3=k/\xw w b k wr) (λs3 _=>64-(a6 s3).toNat);case atStart=>exact⟨0,gn,rfl,l⟩
 obtain⟨k,C,rfl,c⟩:=hrel;clear l R;by_cases a5:k<64
 .have B:=Ah c.row a5 (aQ k);have i:∀e,bH [] wr e->(Instr.storeAt 45 (ac (an ⟨w,k*4,ap⟩)) (ab #[aa .u8 (if al b k=0 then 0 else b.getD (k*4) 0),aa .u8 (if al b k=0 then 0 else b.getD (k*4+1) 0),aa .u8 (if al b k=0 then 0 else b.getD (k*4+2) 0),aa .u8 (if al b k=0 then 0 else al b k)])).run aR e=.ok () (e.setRow w ⟨lN b (k+1)⟩):=by intro e y;have d:e.heap[w.heap.size]?=an (am ⟨lN b k⟩ 80 (0,0)):=(by rw [y.old _ tV lz];exact c.row);refine xm (L:=lN b k) d (jY b k) rfl lW a5 ?_;refine Iu b k a5 _ _ _ _ ?_ ?_ ?_ ?_<;>simp only [jW,al]<;>(try rw [show (4*k)/4=k by omega])<;>(try rw [show (4*k+1)/4=k by omega])<;>(try rw [show (4*k+2)/4=k by omega])<;>(try rw [show (4*k+3)/4=k by omega])<;>rw [Nat.mul_comm 4 k]
  have N:=lh c;have D:=lh i;clear c i;generalize J:al b k=z at *;clear J;generalize b.getD (k*4) 0=M,b.getD (k*4+1) 0=O,b.getD (k*4+2) 0=Q at *;go_wp2_with (first
   |(refine wpList_load_mid rfl 45 (.tmp 10) rfl _ _ rfl _ _ B underlying45 rfl lB ?_)
   |(go_at_call 55;refine mR (x.o _ _ _ _ _) λe h=>?_)
   |(refine bU rfl 45 (.tmp 13) (.tmp 12) rfl rfl rfl (D.o _ h) ?_))
  have c:=N.o;have q:∀g,g≠w.heap.size->(e.setRow w ⟨lN b (k+1)⟩).heap[g]?=e.heap[g]?:=by intro g f;simp only [World.setRow,au,Ne.symm f,if_false]
  have n:∀g,g<wr.heap.size->e.heap[g]?=wr.heap[g]?:=λg f=>h.old _ f lz;have I:=(ae.1 c.res).1;have A:xw w b (k+1) (e.setRow w ⟨lN b (k+1)⟩):=by
   refine⟨?_,?_,(c.tn.t h).setRow _ (.inr gn)⟩
   .have d:=(n w.heap.size gn).t c.row;simp only [World.setRow,au,if_true,d];rfl
   rw [q _ gn,n _ I];exact c.res
  exact⟨⟨k+1,gn,by go_num,A⟩,by simp [a6];omega⟩
 obtain rfl:k=64:=gn
 have F:=aw (P:=aR) wr w.heap.size 80 80 ⟨lN b 64⟩ (0,0) _ c.row aL rfl (by
  rw [iE];show an 256=an (lN b 64).length;rw [jY])
 have a8:=jV (ty:=80) (cells:=⟨lN b 64⟩) c.res (by
  rw [iE];show an 256=an (lN b 64).length;rw [jY]) (by
  rw [<-QQ,vX];show 256=(lN b 64).length;rw [jY]) (by simp [lN,Value.oneCell'])
 have m:(wr.setRow (w+1) ⟨lN b 64⟩).heap[w.heap.size+1]?=an (am ⟨lN b 64⟩ 80 (0,0)):=rv
 have G:=aw (P:=aR) _ (w.heap.size+1) 80 80 ⟨lN b 64⟩ (0,0) _ m aL rfl (by
  rw [iE];show an 256=an (lN b 64).length;rw [jY])
 have j:bH [] w (wr.setRow (w+1) ⟨lN b 64⟩):=c.tn.setRow _ (.inr gn);have H:=lh j;have s:=lh (KJ b);clear j m c C a5;generalize lN b 64=p at *;go_wp2_with (first
  |(refine fD rfl 80 (.tmp 1) rfl rfl F ?_)
  |(refine bU rfl 80 (.tmp 2) (.tmp 14) rfl rfl rfl a8 ?_))
 go_frame;refine ag (v:=ab ⟨p⟩) ?_ rfl ⟨by rw [s.o],H.o⟩;simp [results,results164,asAddr,G]
def Vh(a:List Int)(i:Nat): List av:=[aa .u8 (a.getD (i*4) 0),aa .u8 (a.getD (i*4+1) 0),aa .u8 (a.getD (i*4+2) 0),aa .u8 (a.getD (i*4+3) 0)]
theorem Dt{w:aq}{g:Nat}{a:List Int}{t:aD}(b:a.length=256)(d:w.heap[g]?=an (am ⟨a.map (Value.int .u8)⟩ t (0,0)))(i:Nat)(m:i<64):
  w.rangeAt g (i*4) [aa .u8 (a.getD (i*4) 0),aa .u8 (a.getD (i*4+1) 0),aa .u8 (a.getD (i*4+2) 0),aa .u8 (a.getD (i*4+3) 0)]:=by
 rw [<-wB a b]at d;exact Ah d m (Nat.zero_le i)
def Ib(a b:List Int)(i:Nat): Bool:=a.getD (i*4) 0==b.getD (i*4) 0&&a.getD (i*4+1) 0==b.getD (i*4+1) 0&&a.getD (i*4+2) 0==b.getD (i*4+2) 0&&a.getD (i*4+3) 0==b.getD (i*4+3) 0
def vZ(a b:List Int): Bool:=(List.range 64).all (Ib a b)
theorem Md{a b:List Int}(C:a.length=256)(g:b.length=256): vZ a b=a2↔a=b:=by
 constructor
 .intro h;have h:=aZ.1 h;apply List.ext_getElem?;intro j;by_cases k:j<256
  .have:=h (j/4) (aX.2 gn);simp only [Ib,az,beq_iff_eq]at this;have c:j=j/4*4\/j=j/4*4+1\/j=j/4*4+2\/j=j/4*4+3:=gn;have e:a.getD j 0=b.getD j 0:=by
    rcases c with h|h|h|h<;>rw [h]
    .exact this.1.1.1
    .exact this.1.1.2
    .exact this.1.2
    exact this.2
   simpa [List.getD,C,g,k]using e
  rw [bC gn,bC gn]
 rintro rfl;exact aZ.2 λi _=>by simp [Ib]
theorem Qv(a b:List Int)(K:a.length=256)(L:b.length=256)(w:aq):
  CR 163 #[tv a,tv b] w (ad (vZ a b)):=by
 have s1:∀(u:aq) (o:Obj),(u.alloc o).heap.size=u.heap.size+1:=λu o=>pZ
 have v:∀i,i<64->((w.alloc (am ⟨a.map (Value.int .u8)⟩ 80)).alloc (am ⟨b.map (Value.int .u8)⟩ 80)).rangeAt w.heap.size (i*4) (Vh a i):=λi m=>by refine Dt K (t:=80) ?_ i m;rw [(MapKept.heap_alloc _ _).2 _ uy];exact (MapKept.heap_alloc _ _).1
 have y:∀i,i<64->((w.alloc (am ⟨a.map (Value.int .u8)⟩ 80)).alloc (am ⟨b.map (Value.int .u8)⟩ 80)).rangeAt (w.heap.size+1) (i*4) (Vh b i):=λi m=>by refine Dt L (t:=80) ?_ i m;rw [<-s1 w];exact (MapKept.heap_alloc _ _).1
 have T:=((tR w).alloc (am ⟨a.map (Value.int .u8)⟩ 80)).alloc (am ⟨b.map (Value.int .u8)⟩ 80);unfold tv;generalize (⟨a.map (Value.int .u8)⟩:Array av)=D,(⟨b.map (Value.int .u8)⟩:Array av)=E at *;have C:=lh v;have Z:=lh y;clear v y s1;go_enter func163,ntmps163;go_wp2_with fail
 generalize J:(w.alloc (am D 80)).alloc (am E 80)=W at *;clear J;go_loopw [5] (λs5 wr=>∃k:Nat,k<=64/\s5=k/\(∃q,wr=W.drewN q)/\∀i,i<k->Ib a b i=a2) (λs5 _=>64-(a6 s5).toNat);case atStart=>exact⟨0,gn,rfl,⟨0,rfl⟩,λi m=>absurd m (aU i)⟩
 obtain⟨k,N,rfl,⟨q,rfl⟩,A⟩:=hrel;have B:=lh A;clear A;by_cases a5:k<64
 .have c:=C.o k a5;have d:=Z.o k a5;simp only [Vh]at c d;have z:Ib a b k=(a.getD (k*4) 0==b.getD (k*4) 0&&a.getD (k*4+1) 0==b.getD (k*4+1) 0&&a.getD (k*4+2) 0==b.getD (k*4+2) 0&&a.getD (k*4+3) 0==b.getD (k*4+3) 0):=rfl;have j:=lh z;clear z;generalize a.getD (k*4) 0=g,a.getD (k*4+1) 0=e,a.getD (k*4+2) 0=f,a.getD (k*4+3) 0=l,b.getD (k*4) 0=p,b.getD (k*4+1) 0=s,b.getD (k*4+2) 0=n,b.getD (k*4+3) 0=x at *;have O:W.cell? ⟨w,k*4,ap⟩=an (aa .u8 g):=by simpa using c 0 _ rfl
  have P:W.cell? ⟨w,k*4+1,ap⟩=an (aa .u8 e):=c 1 _ rfl;have Y:W.cell? ⟨w,k*4+2,ap⟩=an (aa .u8 f):=c 2 _ rfl;have Q:W.cell? ⟨w,k*4+3,ap⟩=an (aa .u8 l):=c 3 _ rfl;have X:W.cell? ⟨w+1,k*4,ap⟩=an (aa .u8 p):=by simpa using d 0 _ rfl
  have R:W.cell? ⟨w+1,k*4+1,ap⟩=an (aa .u8 s):=d 1 _ rfl;have S:W.cell? ⟨w+1,k*4+2,ap⟩=an (aa .u8 n):=d 2 _ rfl;have U:W.cell? ⟨w+1,k*4+3,ap⟩=an (aa .u8 x):=d 3 _ rfl;clear c d;have M:(0:Int)<=(k:Int):=gn
  have c1:(k:Int)<64:=gn
  by_cases F:g=p
  .subst F;by_cases G:e=s
   .subst G;by_cases H:f=n
    .subst H;by_cases I:l=x
     .subst I;(go_wp2_with fail);go_quiet (fail)
      (go_wp2_with fail);exact⟨⟨k+1,gn,by go_num,⟨_,rfl⟩,λi m=>by
       by_cases h:i<k
       .exact B.o i h
       obtain rfl:i=k:=gn;rw [j.o];simp⟩,sy⟩
     (go_wp2_with fail);go_quiet (fail)
     go_wp2;go_ret;have:vZ a b=a3:=List.all_eq_false.2 ⟨k,aX.2 a5,qr⟩;exact⟨ux,(T.drawn _).drawn _⟩
    (go_wp2_with fail);go_quiet (fail)
    go_wp2;go_ret;have:vZ a b=a3:=List.all_eq_false.2 ⟨k,aX.2 a5,qr⟩;exact⟨ux,(T.drawn _).drawn _⟩
   (go_wp2_with fail);go_quiet (fail)
   go_wp2;go_ret;have:vZ a b=a3:=List.all_eq_false.2 ⟨k,aX.2 a5,qr⟩;exact⟨ux,(T.drawn _).drawn _⟩
  go_wp2_with fail
  go_quiet (fail)
  go_wp2;go_ret;have:vZ a b=a3:=List.all_eq_false.2 ⟨k,aX.2 a5,qr⟩;exact⟨ux,(T.drawn _).drawn _⟩
 obtain rfl:k=64:=gn
 go_wp2;go_ret;have:vZ a b=a2:=aZ.2 λi m=>B.o i (aX.1 m);exact⟨ux,T.drawn _⟩
theorem Ox(r g b a:Int)(w:aq): ay aR 274 #[ab #[aa .u8 r,aa .u8 g,aa .u8 b,aa .u8 a]] w λe w'=>
  e=a4 (ab #[aa .u8 (if a=0 then 0 else r),aa .u8 (if a=0 then 0 else g),aa .u8 (if a=0 then 0 else b),aa .u8 (if a=0 then 0 else a)])/\bH [] w w':=by
 by_cases h:a=0
 .subst h;have c:=((tR w).alloc (am #[aa .u8 r,aa .u8 g,aa .u8 b,aa .u8 0] 45)).alloc (am #[aa .u8 0,aa .u8 0,aa .u8 0,aa .u8 0] 45);simp only [if_true];go_enter func274,ntmps274;go_wp2_with fail
  refine ag (v:=ab #[aa .u8 0,aa .u8 0,aa .u8 0,aa .u8 0]) tL rfl ⟨rfl,c⟩
 simp only [h,if_false];have c:=((tR w).alloc (am #[aa .u8 r,aa .u8 g,aa .u8 b,aa .u8 a] 45)).alloc (am #[aa .u8 r,aa .u8 g,aa .u8 b,aa .u8 a] 45);go_enter func274,ntmps274;go_wp2_with fail
 refine ag (v:=ab #[aa .u8 r,aa .u8 g,aa .u8 b,aa .u8 a]) tL rfl ⟨rfl,c⟩
theorem qY(cs p:Array av)(i:Nat)(m:i<64)(h:cs.extract (i*4) (i*4+4)=p)(w:aq): (Instr.index 80 (ab cs) i).run aR w=.ok (ab p) w:=by
 have ar:(prog.info? 45).map (·.size)=an 4:=lB
 have e:(0:Int)<=(i:Int)/\(i:Int)<((64:Nat):Int):=gn
 have f:(isAgg 45).run aR w=.ok a2 w:=lB
 simp only [Instr.index,asIntOf,Sem.run_bind,Sem.run_pure,Result.andThen,run_underlying aL,aG e,qp ar,part,f,Int.toNat_natCast];simp only [if_true,Sem.run_bind,qp ar,Sem.run_pure,Result.andThen,h]
theorem BV(b:List Int)(m:b.length=256)(w:aq):
  CR 262 #[tv b] w (tv (fG b)):=by
 have R:∀u:aq,(Instr.alloc 80 a2 (.tuple #[])).run aR u=.ok (ac (an ⟨u,0,ap⟩)) (u.alloc (am aM 80)):=λu=>oi
 have l:xw w b 0 ((w.alloc (am ⟨b.map (Value.int .u8)⟩ 80)).alloc (am aM 80)):=by
  have s1:∀(u:aq) (o:Obj),(u.alloc o).heap.size=u.heap.size+1:=λu o=>pZ
  refine⟨?_,?_,((tR w).a _).a _⟩
  .rw [(MapKept.heap_alloc _ _).2 _ uy,wB b m];exact (MapKept.heap_alloc _ _).1
  rw [<-s1 w];exact (MapKept.heap_alloc _ _).1
 have n:=aw (P:=aR) _ w.heap.size 80 80 ⟨lN b 0⟩ (0,0) _ l.row aL rfl (by
  rw [iE];show an 256=an (lN b 0).length;rw [jY])
 rw [wB b m]at n;have E:=lh Ox;unfold tv;have x:∀i,i<64->(⟨b.map (Value.int .u8)⟩:Array av).extract (i*4) (i*4+4)=#[aa .u8 (b.getD (i*4) 0),aa .u8 (b.getD (i*4+1) 0),aa .u8 (b.getD (i*4+2) 0),aa .u8 (al b i)]:=by
  intro i hi;apply Array.ext';simp only [Array.toList_extract,List.extract_eq_take_drop];apply List.ext_getElem?;intro j;by_cases hj:j<4
  .have J:j=0\/j=1\/j=2\/j=3:=gn;have M:∀q,q<256->b[q]?=an (b.getD q 0):=λq T=>by simp [List.getD,m,T]
   rw [List.getElem?_take_of_lt gn,List.getElem?_drop,aP,M _ gn];rcases J with rfl|rfl|rfl|rfl<;>rfl
  rw [bC lO,bC lO]
 have C:=lh x;clear x;generalize (⟨b.map (Value.int .u8)⟩:Array av)=I at *;go_enter func262,ntmps262;go_wp2_with (refine fD rfl 80 (.tmp 1) rfl rfl n ?_)
 go_loopw [6] (λs6 wr=>∃k:Nat,k<=64/\s6=k/\xw w b k wr) (λs6 _=>64-(a6 s6).toNat);case atStart=>exact⟨0,gn,rfl,l⟩
 obtain⟨k,O,rfl,c⟩:=hrel;clear l R n;by_cases a5:k<64
 .have Z:=qY I _ k a5 (C.o k a5);have hR:=Ah c.row a5 (aQ k);have p:∀e,bH [] wr e->(Instr.storeAt 45 (ac (an ⟨w,k*4,ap⟩)) (ab #[aa .u8 (if al b k=0 then 0 else b.getD (k*4) 0),aa .u8 (if al b k=0 then 0 else b.getD (k*4+1) 0),aa .u8 (if al b k=0 then 0 else b.getD (k*4+2) 0),aa .u8 (if al b k=0 then 0 else al b k)])).run aR e=.ok () (e.setRow w ⟨lN b (k+1)⟩):=by intro e G;have f:e.heap[w.heap.size]?=an (am ⟨lN b k⟩ 80 (0,0)):=(by rw [G.old _ tV lz];exact c.row);refine xm (L:=lN b k) f (jY b k) rfl lW a5 ?_;refine Iu b k a5 _ _ _ _ ?_ ?_ ?_ ?_<;>simp only [jW,al]<;>(try rw [show (4*k)/4=k by omega])<;>(try rw [show (4*k+1)/4=k by omega])<;>(try rw [show (4*k+2)/4=k by omega])<;>(try rw [show (4*k+3)/4=k by omega])<;>rw [Nat.mul_comm 4 k]
  have N:=lh c;have F:=lh p;clear c p;generalize U:al b k=z at *;clear U;generalize b.getD (k*4) 0=W,b.getD (k*4+1) 0=X,b.getD (k*4+2) 0=Y at *;go_wp2_with (first
   |(go_at_call 274;refine mR (E.o _ _ _ _ _) λe d=>?_)
   |(refine bU rfl 45 (.tmp 13) (.tmp 12) rfl rfl rfl (F.o _ (((tR wr).a _).t d)) ?_))
  have c:=N.o;have q:∀g,g≠w.heap.size->(e.setRow w ⟨lN b (k+1)⟩).heap[g]?=e.heap[g]?:=by intro g h;simp only [World.setRow,au,Ne.symm h,if_false]
  have d:=(((tR wr).alloc (am #[aa .u8 W,aa .u8 X,aa .u8 Y,aa .u8 z] 45)).t d);have A:∀g,g<wr.heap.size->e.heap[g]?=wr.heap[g]?:=λg h=>d.old _ h lz;have V:=(ae.1 c.res).1;have K:xw w b (k+1) (e.setRow w ⟨lN b (k+1)⟩):=by
   refine⟨?_,?_,(c.tn.t d).setRow _ (.inr gn)⟩
   .have f:=(A w.heap.size gn).t c.row;simp only [World.setRow,au,if_true,f];rfl
   rw [q _ gn,A _ V];exact c.res
  exact⟨⟨k+1,gn,by go_num,K⟩,by simp [a6];omega⟩
 obtain rfl:k=64:=gn
 have Q:=aw (P:=aR) wr w.heap.size 80 80 ⟨lN b 64⟩ (0,0) _ c.row aL rfl (by
  rw [iE];show an 256=an (lN b 64).length;rw [jY])
 have a8:=jV (ty:=80) (cells:=⟨lN b 64⟩) c.res (by
  rw [iE];show an 256=an (lN b 64).length;rw [jY]) (by
  rw [<-QQ,vX];show 256=(lN b 64).length;rw [jY]) (by simp [lN,Value.oneCell'])
 have y:(wr.setRow (w+1) ⟨lN b 64⟩).heap[w.heap.size+1]?=an (am ⟨lN b 64⟩ 80 (0,0)):=rv
 have S:=aw (P:=aR) _ (w.heap.size+1) 80 80 ⟨lN b 64⟩ (0,0) _ y aL rfl (by
  rw [iE];show an 256=an (lN b 64).length;rw [jY])
 have s:bH [] w (wr.setRow (w+1) ⟨lN b 64⟩):=c.tn.setRow _ (.inr gn);have H:=lh s;have D:=lh (KJ b);clear s y c O a5;generalize lN b 64=B at *;go_wp2_with (first
  |(refine fD rfl 80 (.tmp 1) rfl rfl Q ?_)
  |(refine bU rfl 80 (.tmp 2) (.tmp 15) rfl rfl rfl a8 ?_))
 go_frame;refine ag (v:=ab ⟨B⟩) ?_ rfl ⟨by rw [D.o],H.o⟩;simp [results,results262,asAddr,S]
def jo(a:List Int): Prop:=a.length=256/\∀v∈a,0<=v/\v<=255
theorem BH{A:Type}(L:List A): ∀n,((List.range n).map λi=>(L.drop (i*4)).take 4).flatten=L.take (n*4)
 |0=>by simp
 |n+1=>by rw [List.range_succ,List.map_append,List.flatten_append,BH L n];simp only [List.map_cons,List.map_nil,List.flatten_cons,List.flatten_nil,List.append_nil];rw [show (n+1)*4=n*4+4 by omega,List.take_add]
theorem Bf{A B:Type}{f:A->Option B}{g:A->B}: ∀{l:List A},(∀i∈l,f i=an (g i))->l.mapM f=an (l.map g)
 | [],_=>rfl
 |a::l,h=>by rw [List.mapM_cons,h a lz,Bf λi m=>h i (by simp [m])];rfl
theorem yL:prog.cellsOf 80=256:=lB
theorem Ba:prog.cellsOf 45=4:=lB
theorem NP:prog.cellsOf 5=1:=lB
theorem NW:prog.keyTypeAt 10 80=a2:=lB
theorem vP{x:Int}(h:0<=x/\x<=255): prog.keyLits 1 5 [.int .u8 x]=an [.int .u8 x]:=by have a:(Lit.int .u8 x).wf=a2:=WalkArith.wf_u8 gn;simp [Program.keyLits,underlying5,a]
theorem MV{c:List Int}(i:c.length=4)(h:∀v∈c,0<=v/\v<=255): prog.keyLits 2 45 (c.map (Value.int .u8))=an (c.map (Lit.int .u8)):=by
 match c,i with
 | [a,b,d,e],_=>
  have C:=vP (h a lz);have g:=vP (h b lz);have E:=vP (h d lz);have k:=vP (h e lz);unfold Program.keyLits;simp [underlying45,Ba,NP,C,g,E,k]
theorem zU{a:List Int}(h:jo a): prog.keyLits 3 80 (a.map (Value.int .u8))=an (a.map (Lit.int .u8)):=by
 have e:=Bf (f:=λi=>prog.keyLits 2 45 (((a.map (Value.int .u8)).drop (i*prog.cellsOf 45)).take (prog.cellsOf 45)))
  (g:=λi=>((a.map (Lit.int .u8)).drop (i*4)).take 4) (l:=List.range 64) λi m=>by
  have m:=aX.1 m
  rw [Ba,<-List.map_drop,<-List.map_take,MV (by simp [h.1];omega) (λv b=>h.2 v (List.mem_of_mem_drop (List.mem_of_mem_take b))),List.map_take,List.map_drop]
 unfold Program.keyLits;simp only [aL,yL,aJ,h.1,if_true];rw [e];have J:((List.range 64).map λi=>((a.map (Lit.int .u8)).drop (i*4)).take 4).flatten=a.map (Lit.int .u8):=by rw [BH (a.map (Lit.int .u8)) 64,aY (by rw [aJ,h.1];exact aQ _)]
 exact congrArg an J
theorem GZ{a b:List Int}(C:jo a)(g:jo b)(w:aq): (Op.equalIn 10000 80 (tv a) (tv b)).run aR w=.ok (decide (a=b)) w:=by
 have l:∀{c:List Int},jo c->(tv c).formed aR 80=a2:=λ{c} h=>by simp [tv,Value.formed,aL,yL,h.1]
 have d:∀c:List Int,(tv c).cells.toList=c.map (Value.int .u8):=λc=>by simp [tv,Value.cells]
 obtain⟨r,i,f⟩:=run_equalIn_deep (P:=aR) 9990 10 80 NW w 3 3 (tv a) (tv b) _ _ (l C) (l g) (by rw [d];exact zU C) (by rw [d];exact zU g);suffices hh:r=decide (a=b) by rw [i,hh]
 clear i;by_cases e:a=b
 .subst e;rw [f.2 rfl];simp
 have:r≠a2:=λh=>by
  have j:=f.1 h;apply e;have k:∀{x y:List Int},x.map (Lit.int .u8)=y.map (Lit.int .u8)->x=y:=by
   intro x;induction x with
   |nil=>intro y h;cases y with
    |nil=>rfl
    |cons _ _=>simp at h
   |cons p x ih=>intro y h;cases y with
    |nil=>simp at h
    |cons q y=>
     simp only [List.map_cons,List.cons.injEq,Lit.int.injEq,true_and]at h
     rw [h.1,ih h.2]
  exact k j
 simp [e,this]
theorem xu{a:List Int}(h:jo a): jo (fG a):=by
 refine⟨by simp [fG],λv e=>?_⟩;obtain⟨j,k,rfl⟩:=List.mem_map.1 e;have k:=aX.1 k;unfold jW;split
 .omega
 have i:=h.1;have:a.getD j 0=a[j]:=by simp [List.getD,show j<a.length by omega]
 rw [this];exact h.2 _ (List.getElem_mem _)
theorem Du{a:List Int}{j:Nat}(k:j<256): (fG a)[j]?=an (jW a j):=by rw [fG,aP,List.getElem?_range k];rfl
theorem Qy{j n:Nat}(k:j<n): (List.replicate n (0:Int))[j]?=an 0:=by rw [List.getElem?_replicate,aG k]
theorem Dv{a:List Int}: oO a=a2↔fG a=List.replicate 256 0:=by
 unfold oO;rw [aZ];constructor
 .intro h;apply List.ext_getElem?;intro j;by_cases k:j<256
  .have:=h (j/4) (aX.2 gn);have e:al a (j/4)=0:=(by simpa using this);rw [Du k,Qy k,jW,aG e]
  rw [bC (by rw [fG,aJ,List.length_range];omega),bC (by rw [List.length_replicate];omega)]
 intro h i m;have m:=aX.1 m;have b:(fG a)[i*4+3]?=an 0:=by rw [h];exact Qy gn
 rw [Du gn]at b;simp only [jW,show (i*4+3)/4=i by omega,Option.some.injEq]at b;by_cases e:al a i=0
 .simp [e]
 rw [aF e]at b;exact absurd b e
theorem KX:tv (List.replicate 256 0)=ab aM:=lB
theorem DZ(c:List Int)(h:jo c)(w:aq):
  CR 235 #[tv c] w (ad (oO c)):=by
 have g:=BV c h.1;have f:=GZ (xu h) (b:=List.replicate 256 0) ⟨lz,λv p=>by rw [(List.mem_replicate.1 p).2];omega⟩;have E:decide (fG c=List.replicate 256 0)=oO c:=by
  cases e:oO c with
  |true=>exact aC (Dv.1 e)
  |false=>exact ak λi=>by rw [Dv.2 i]at e;cases e
 rw [E,KX]at f;clear E;generalize m:fG c=tc,J:oO c=z at *;unfold tv at *;have ar:(⟨c.map (Value.int .u8)⟩:Array av).size=256:=by show (c.map _).length=256;rw [aJ,h.1]
 generalize (⟨c.map (Value.int .u8)⟩:Array av)=d,(⟨tc.map (Value.int .u8)⟩:Array av)=j at *;have n:(loadVar 80 ⟨w,0,ap⟩).run aR (w.alloc (am d 80))=.ok (ab d) (w.alloc (am d 80)):=run_loadVar_new w 80 d 64 45 aL (by rw [iE,ar]);have T:∀w,(Instr.build 80 #[]).run aR w=.ok (ab aM) w:=λw=>by rw [SX,QQ]
 have q:∀w,(binOp .eql 80 (ab j) (ab aM)).run aR w=.ok (ad z) w:=λw=>by have:=f w;simp [binOp,Op.equal,show Op.maxDepth=10000 from rfl,this,Result.andThen]
 have l:=lh g;clear g m J f ar;go_enter func235,ntmps235;go_wp2_with (first
  |(refine fD rfl 80 (.tmp 1) rfl rfl n ?_)
  |(go_at_call 262;refine mR (l.o _) λs k=>?_))
 go_ret;exact⟨rfl,((tR w).a _).t k⟩
def uG(x y:Int): Bool:=decide (x < -65536)||decide (y < -65536)||decide (65536<x)||decide (65536<y)
theorem SC(x y:Int)(w:aq): CR 257 #[ab #[x,y]] w (ad (uG x y)):=by
 unfold uG;by_cases e:x < -65536
 .go_enter func257,ntmps257;go_wp2;go_ret;exact⟨lS,(tR w).a _⟩
 by_cases b:y < -65536
 .go_enter func257,ntmps257;go_wp2;go_ret;exact⟨lS,(tR w).a _⟩
 by_cases f:65536<x
 .go_enter func257,ntmps257;go_wp2;go_ret;exact⟨lS,(tR w).a _⟩
 by_cases g:65536<y
 .go_enter func257,ntmps257;go_wp2;go_ret;exact⟨lS,(tR w).a _⟩
 go_enter func257,ntmps257;go_wp2;go_ret;exact⟨lS,(tR w).a _⟩
theorem Sl(x y:Int)(h:uG x y=a3)(w:aq): CR 238 #[ab #[x,y]] w (ad a3):=by
 simp only [uG,Bool.or_eq_false_iff,decide_eq_false_iff_not]at h;obtain⟨⟨⟨e,c⟩,f⟩,g⟩:=h;have d:decide (min x y < -65536)=a3:=ak gn;have F:decide (65536<max x y)=a3:=ak gn;have i:=lh f;have b:=lh g;clear e c f g;go_enter func238,ntmps238;go_wp2_with (first
  |(refine iV rfl _ _ rfl rfl rfl ?_)
  |(refine iG rfl _ _ rfl rfl rfl ?_)
  |fail)
 all_goals
  go_ret;have z:=i.o;have N:=b.o;exact⟨lS,(tR w).a _⟩
def jy(ps:List (Int×Int)): Bool:=decide (3<=ps.length)&&decide (ps.length<=64)&&ps.all (λp=>!uG p.1 p.2)
def iL(w:aq)(A:Option aE)(n:Nat)(ps:List (Int×Int)): Prop:=n=ps.length/\∀j,j<n->∃g o,A=an ⟨g,o,ap⟩/\w.cell? ⟨g,o+j*2,ap⟩=an (aa .i64 (ps.getD j (0,0)).1)/\w.cell? ⟨g,o+j*2+1,ap⟩=an (aa .i64 (ps.getD j (0,0)).2)
theorem iL.u{w w':aq}{A:Option aE}{n:Nat}{ps:List (Int×Int)}(h:iL w A n ps)(t:bH [] w w'): iL w' A n ps:=by
 refine⟨h.1,λj k=>?_⟩;obtain⟨g,o,e,b,E⟩:=h.2 j k;refine⟨g,o,e,?_,?_⟩
 .rw [(bY t).1 g _ (ai b)];exact b
 rw [(bY t).1 g _ (ai E)];exact E
theorem Ql(ps:List (Int×Int))(A:Option aE)(n cap:Nat)(w:aq)(L:iL w A n ps)(W:3<=n)(X:n<=64):
  CR 227 #[af A n cap] w (ad (jy ps)):=by
 obtain⟨G,f⟩:=L;obtain⟨g,o,rfl,_⟩:=f 0 gn;have D:∀w',bH [] w w'->∀j,j<n->w'.cell? ⟨g,o+j*2,ap⟩=an (aa .i64 (ps.getD j (0,0)).1)/\w'.cell? ⟨g,o+j*2+1,ap⟩=an (aa .i64 (ps.getD j (0,0)).2):=by intro w' t j a;obtain⟨V,o',e,u,E⟩:=f j a;injection e with e;injection e with H K U;subst H;subst K;exact⟨by rw [(bY t).1 g _ (ai u)];exact u,by rw [(bY t).1 g _ (ai E)];exact E⟩
 obtain⟨v,q,N⟩:=lh3 D G SC;clear f D G;have R:decide ((n:Int)<3)=a3:=ak gn;have S:decide (64<(n:Int))=a3:=ak gn;go_enter func227,ntmps227;go_wp2_with fail
 go_loopw [3] (λs3 wr=>∃k:Nat,k<=n/\s3=k/\bH [] w wr/\∀j,j<k->uG (ps.getD j (0,0)).1 (ps.getD j (0,0)).2=a3) (λs3 _=>n-(a6 s3).toNat);case atStart=>exact⟨0,gn,rfl,tR w,λj a=>absurd a (aU j)⟩
 obtain⟨k,Y,rfl,T,s⟩:=hrel;have B:=lh s;clear s;by_cases a5:k<n
 .obtain⟨F,c1⟩:=v.o _ T k a5;have d:ps.getD k (0,0)∈ps:=by have M:k<ps.length:=qe;simp [List.getD,M]
  have C:=lh d;clear d;generalize J:ps.getD k (0,0)=z at *;obtain⟨x,y⟩:=z;simp only at F c1;have c:=N.o x y;have I:=lh J;clear J;have P:(0:Int)<=(k:Int):=gn
  have Q:(k:Int)<(n:Int):=gn
  cases b:uG x y with
  |true=>
   rw [b]at c;have l:=lh c;have Z:=lh b;clear c b;go_wp2_with (first
    |(go_at_call 257;refine mR (l.o _) λO m=>?_)
    |fail)
   go_ret;have i:jy ps=a3:=(by have:ps.all (λp=>!uG p.1 p.2)=a3:=List.all_eq_false.2 ⟨(x,y),C.o,by simp [Z.o]⟩;rw [jy,this,Bool.and_false]);exact⟨by rw [i];rfl,T.t m⟩
  |false=>
   rw [b]at c;have l:=lh c;have Z:=lh b;clear c b;go_wp2_with (first
    |(go_at_call 257;refine mR (l.o _) λO m=>?_)
    |fail)
   go_roundw;case rel=>exact⟨k+1,gn,by go_num,T.t m,λj a=>by
    by_cases h:j<k
    .exact B.o j h
    obtain rfl:j=k:=gn;rw [I.o];exact Z.o⟩
   simp [a6];omega
 obtain rfl:k=n:=gn
 go_wp2;go_ret;have i:jy ps=a2:=by
  have:ps.all (λp=>!uG p.1 p.2)=a2:=by rw [aZ];intro p d;obtain⟨j,a,rfl⟩:=List.getElem_of_mem d;have:=B.o j (by rw [q.o];exact a);simpa [List.getD,a]using this
  rw [jy,this,<-q.o];simp;omega
 exact⟨by rw [i];rfl,T⟩
theorem iL.get{w:aq}{A:Option aE}{n:Nat}{ps:List (Int×Int)}(m:iL w A n ps)(c:1<=n): ∃g o,A=an ⟨g,o,ap⟩/\∀w',bH [] w w'->∀j,j<n->w'.cell? ⟨g,o+j*2,ap⟩=an (aa .i64 (ps.getD j (0,0)).1)/\w'.cell? ⟨g,o+j*2+1,ap⟩=an (aa .i64 (ps.getD j (0,0)).2):=by obtain⟨G,a⟩:=m;obtain⟨g,o,rfl,_⟩:=a 0 gn;refine⟨g,o,rfl,λw' t j k=>?_⟩;obtain⟨O,R,e,b,E⟩:=a j k;injection e with e;injection e with l z N;subst l;subst z;exact⟨by rw [(bY t).1 g _ (ai b)];exact b,by rw [(bY t).1 g _ (ai E)];exact E⟩
theorem nD{ps:List (Int×Int)}(h:jy ps=a2): (3<=ps.length/\ps.length<=64)/\∀j,j<ps.length->uG (ps.getD j (0,0)).1 (ps.getD j (0,0)).2=a3:=by simp only [jy,az,decide_eq_true_eq,aZ]at h;refine⟨h.1,λj k=>?_⟩;have:=h.2 (ps.getD j (0,0)) sB;simpa using this
theorem Om(ps:List (Int×Int))(b:jy ps=a2)(A:Option aE)(n cap:Nat)(w:aq)(m:iL w A n ps):
  CR 265 #[af A n cap,.func (.func 238) #[] #[]] w (aa .i64 (-1)):=by
 obtain⟨⟨h,I⟩,c⟩:=nD b;have G:=m.1;rw [<-G]at h I c;obtain⟨g,o,rfl,j⟩:=m.get gn;obtain⟨d,B,N⟩:=lh3 j c Sl;clear j c b G m;go_enter func265,ntmps265;go_wp2_with fail
 go_loopw [8] (λs8 wr=>∃k:Nat,k<=n/\s8=k/\bH [] w wr) (λs8 _=>n-(a6 s8).toNat);case atStart=>exact⟨0,gn,rfl,tR w⟩
 obtain⟨k,i,rfl,T⟩:=hrel;by_cases a5:k<n
 .obtain⟨e,c1⟩:=d.o _ T k a5;have a:=B.o k a5;generalize ps.getD k (0,0)=z at *;obtain⟨x,y⟩:=z;simp only at e c1 a;have a:=N.o x y a;have l:=lh a;clear a;go_wp2_with (first
   |(go_at_call 238;refine mR (l.o _) λp f=>?_)
   |fail)
  go_roundw;case rel=>exact⟨k+1,gn,by go_num,T.t f⟩
  simp [a6];omega
 obtain rfl:k=n:=gn
 go_wp2;go_ret;exact⟨rfl,T⟩
theorem EJ(ps:List (Int×Int))(g:jy ps=a2)(A:Option aE)(n cap:Nat)(w:aq)(m:iL w A n ps):
  CR 237 #[af A n cap,.func (.func 238) #[] #[]] w (ad a3):=by
 have p:=lh (Om ps g A n cap w m);clear g m;go_enter func237,ntmps237;go_wp2_with (go_at_call 265;refine mR p.o λe a=>?_)
 go_ret;exact⟨lU,a⟩
theorem Dw(ps:List (Int×Int))(g:jy ps=a2)(A:Option aE)(n cap:Nat)(w:aq)(m:iL w A n ps):
  CR 186 #[af A n cap] w (ad a2):=by
 have p:=lh (EJ ps g A n cap w m);obtain⟨⟨h,I⟩,_⟩:=nD g;have G:=m.1;rw [<-G]at h I;clear g m G;have F:decide ((3:Int)<=n)=a2:=aC gn;have b:decide ((n:Int)<=64)=a2:=aC gn;go_enter func186,ntmps186;go_wp2_with (first
  |(go_at_call 237;refine mR p.o λe a=>?_)
  |fail)
 go_ret;exact⟨lU,a⟩
