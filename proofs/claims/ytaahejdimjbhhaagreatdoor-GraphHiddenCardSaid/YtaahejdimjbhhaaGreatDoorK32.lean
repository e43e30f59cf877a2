import Derived.Test.YtaahejdimjbhhaaGreatDoorK24
set_option maxRecDepth 100000
set_option maxHeartbeats 0
set_option linter.all false
namespace Go.Proofs.YtaahejdimjbhhaaGreatDoor
open Tryz Go.RowKit Go.Den
open Go.Obj renaming cells->ab
open Go.Value renaming slice->ad,agg->af,bool->am,pointer->an
open Option renaming some->ao,none->ap
open Go renaming heap_alloc_new->ar,World->ax,Calls->ay,Addr->aD,zero_of_info->aL
open Go.Ending renaming returned->aM
open Bool renaming true->ba,false->bb
theorem LM(m:bI)(w:ax)(P:Program)(U:P=prog)(a:Act)(x:Operand)(b:a.eval x=af ⟨m.row⟩)(d:Option Tmp)(ty:TypeId)(c:String)(k:Array Edge)(g:Option (Tmp×Bool)):
  (execOp a.eval ⟨d,.field 51 x 9,ty,c,k,g⟩).run P w=.ok (.value (ad m.Xi m.Xh m.Xj)) w:=by
 subst U;simp only [execOp,b];kernel_rfl
theorem QH:∀(ks:List Int) (x:Int) (b k:Nat),Cf ks x b=ao k->k<b+ks.length/\b<=k
 | [],_,_,_,h=>by cases h
 |y::ks,x,b,k,h=>by
  unfold Cf at h;split at h
  .cases h;simp
  have:=QH ks x (b+1) k h;rw [List.length_cons];omega
theorem CQ:∀(ls:List bI) (x p:Int) (k:Nat),kE ls x=ao (p,k)->∃q∈ls,q.id=p/\k<q.ag0.length
 | [],_,_,_,h=>by cases h
 |l::ls,x,p,k,h=>by
  have E:=λh=>CQ ls x p k h;unfold kE at h;split at h
  .split at h
   .rename_i j a;simp only [Option.some.injEq,Prod.mk.injEq]at h;obtain⟨rfl,rfl⟩:=h;exact⟨l,List.mem_cons_self,rfl,by have:=QH _ _ _ _ a;omega⟩
   obtain⟨q,e,f⟩:=E h;exact⟨q,List.mem_cons_of_mem _ e,f⟩
  obtain⟨q,e,f⟩:=E h;exact⟨q,List.mem_cons_of_mem _ e,f⟩
theorem JU(d:df)(x p:Int)(k:Nat)(q:bI)(w:ax)(E:d.At w)(a5:∀l∈d.agY,l.Thin)(a7:kE d.agY x=ao (p,k))(i:dh d.agY p=ao q)(G:k<q.ag0.length):
  ay prog 127 #[d.v,x] w λe w'=>(∃v,(∃A c,v=ad A k c/\dn w' A k (q.ag0.take k))/\e=aM v)/\bH [] w w':=by
 have U:=λu (t:bH [] w u)=>Ef d x u (E.u t);rw [a7]at U;have j:=λu (t:bH [] w u)=>uu d p q i u [] (λb R=>absurd R aW) (λZ Y T=>(E.u t).keepD λq i=>T q i lz) a5;simp only [VJ,UY,Option.isSome_some,df.v]at U j;obtain⟨B,K,z⟩:=lh3 U j G;clear U j E a5 a7 i G;obtain⟨W,h⟩:=eX (w.alloc (ab #[ad d.sA d.sn d.sc,d.root,d.next,ad d.lA d.ln d.lc] 94));have C:bH [] w W:=h▸(tR w).a _;have y:=YE h
 have Q:=lh y;obtain⟨L,M,O,X⟩:=iw y;clear y;unfold df.v;go_enter func127,ntmps127;go_upto_region 1 with (fail)
 rw [<-h];clear h;go_upto_region 2 with (go_at_call 188;refine mR (B.o _ C) λw1 s=>?_;obtain⟨L,M,O,X⟩:=iw (s.ox Q.o))
 go_upto_region 4 with fail
 have D:=C.t s;clear B s;go_wp2_with (first
  |(go_at_call 124;(with_reducible refine (K.o _ D).mono ?_);rintro e V ⟨⟨m,n,a8,S,rfl⟩,I⟩;have F:m.Xh=q.ag0.length/\m.ag0=q.ag0:=(by have f:=a8.now.ag0.1;have g:m.ag0=q.ag0:=(by unfold bI.Like at n;rw [n]);rw [g]at f;exact⟨f,g⟩);obtain⟨J,H,ac⟩:=Lj m.Xi m.Xh m.Xj k (by have:=z.o;omega);have b3:=lh H;have N:=lh (bg (ac V m.ag0 (by have:=z.o;omega) a8.now.ag0) (bg F.2 I));clear n a8 S F H ac I)
  |(refine yR 21 (LM m _ _ rfl _ _ rfl _ _ _ _ _) ?_)
  |(refine yR 23 (FK rfl rfl rfl rfl PM (b3.o _)) ?_))
 go_ret;obtain⟨f,g,P⟩:=N.o;exact⟨⟨_,⟨J,m.Xj,rfl,by rw [<-g];exact f⟩,rfl⟩,D.t P⟩
theorem BF{l m:bI}(h:l.Like m): m.ag1=l.ag1/\m.agZ=l.agZ/\m.Xm=l.Xm/\m.tn=l.tn/\m.pts=l.pts/\m.ag0=l.ag0/\m.Xh=l.Xh/\m.of=l.of/\m.id=l.id:=by unfold bI.Like at h;rw [h];exact⟨rfl,rfl,rfl,rfl,rfl,rfl,rfl,rfl,rfl⟩
theorem Oc{l m:bI}(h:l.Like m)(ls:List bI): ∀n,jG ls n m=jG ls n l
 |0=>rfl
 |n+1=>by obtain⟨a,z,N,C,q,b,_,c,_⟩:=BF h;unfold jG;rw [a,z,N,C,q,b,c]
structure kU(d:df): Prop where
 tidy:d.Tidy
 ok:d.Ok
 short:oP d.agY
 kn:∀l∈d.agY,l.Xh=l.ag0.length
 thin:∀l∈d.agY,l.Thin
theorem kU.mem{d:df}{x:Int}{l:bI}(h:dh d.agY x=ao l): l∈d.agY/\l.id=x/\∃k:Nat,d.agY[k]?=ao l:=by obtain⟨k,_,a,e⟩:=iD h;exact⟨aH a,e,k,a⟩
theorem kU.good{d:df}(D:kU d){x:Int}{l:bI}(h:dh d.agY x=ao l): eu l.Xm=ba/\(l.ag1=3->jC l.Xg l.ks l.cs=ba):=by obtain⟨_,_,k,b⟩:=kU.mem h;have a:=D.ok.good k l b;unfold bI.good at a;simp only [az,Bool.or_eq_true,decide_eq_true_eq]at a;exact⟨a.1.2,λg=>a.2.resolve_left λG=>G g⟩
theorem kU.kid{d:df}(D:kU d){x:Int}{l:bI}(h:dh d.agY x=ao l)(f:l.ag1=2): ∀y∈l.ag0,(∃m,dh d.agY y=ao m)/\d.rk y<d.rk x:=by obtain⟨_,rfl,k,b⟩:=kU.mem h;intro y a;have Q:=D.ok.ag0 k l b;unfold pM at Q;rw [az,aZ]at Q;refine⟨QP (Q.1 y a),KO D.tidy D.short D.ok D.kn ?_⟩;rw [rE h];unfold fZ;rw [aF gn];exact a
theorem kU.cl{d:df}(D:kU d){x:Int}{l:bI}(h:dh d.agY x=ao l)(a:l.ag1=4): ∃m,dh d.agY l.of=ao m/\m.ag1≠3/\d.rk l.of<d.rk x:=by obtain⟨_,rfl,k,b⟩:=kU.mem h;obtain⟨m,e,g⟩:=D.ok.clone k l b a;refine⟨m,e,g,KO D.tidy D.short D.ok D.kn ?_⟩;rw [rE h];unfold fZ;rw [aG a];exact aN.2 rfl
theorem sV{d:df}(D:kU d): ∀(n:Nat) (x:Int) (l:bI),dh d.agY x=ao l->l.ag1≠3->d.rk x<n->∀m,l.Like m->∀u,d.At u->m.At u->
  ay prog 64 #[d.v,m.v] u λe w'=>e=aM (jG d.agY n l).v/\bH [] u w'
 |0,_,_,_,_,h,_,_,_,_,_=>absurd h (aU _)
 |n+1,x,l,hl,h3,hr,m,hm,u,hd,hat=>by
  obtain⟨I,_,_⟩:=kU.mem hl;have o:=D.tidy.lay l I;obtain⟨av,_⟩:=D.good hl;obtain⟨a,z,N,P,B,p,Q,s,_⟩:=BF hm;rw [<-Oc hm];have a3:=o.ag1;unfold jG;by_cases c:m.ag1=1
  .rw [aG c];exact Vd d m u c (by rw [z];exact o.agZ (.inl (a▸c))) (by rw [N];exact av) hat
  rw [aF c];by_cases T:m.ag1=5
  .rw [aG T];exact Vp d m u T (by rw [B];exact o.path (a▸T)) hat
  rw [aF T];by_cases S:m.ag1=4
  .rw [aG S];obtain⟨g,F,E,bF⟩:=D.cl hl (a▸S);rw [s,F];simp only;refine Vu d m u S (by rw [z];exact o.agZ (.inr (a▸S))) (jG d.agY n g) (lZ _ _ _) g (λv t=>?_) (λM v U t C=>sV D n l.of g F E gn M U v (hd.u t) C);rw [s];exact wM d l.of g F v [] (λb H=>absurd H aW) (λA R J=>(hd.u t).keepD λq K=>J q K lz) D.thin
  rw [aF S];have k:l.ag1=2:=gn
  have G:=oD (f:=jG d.agY n) (ls:=d.agY) m.ag0 Rc.zero (λ_ _ m _=>lZ _ _ m) qB;have w:=VH d m u (a.t k) (iW (jG d.agY n) d.agY m.ag0 Rc.zero) λv t=>yJ d (jG d.agY n) m.ag0 m.Xi m.Xh m.Xj (by have:=hat.Xk;omega) v (hat.ag0.u t) (hd.u t) D.thin (λy j=>(D.kid hl k y (p▸j)).1) (λy _ V i=>(D.good i).2) (λV=>lZ _ _ V) (λy j V i aE L U A O C=>sV D n y V i aE (by have:=(D.kid hl k y (p▸j)).2;omega) L U A ((hd.u t).u O) C);rw [G.can]at w;exact w
theorem PK:(prog.info? 223).map (λi=>(i.zero,i.size))=ao (ao (af #[(0:Int),(0:Int),(0:Int),(0:Int),(0:Int)]),5):=lB
theorem nP: AL 223 #[(0:Int),(0:Int),(0:Int),(0:Int),(0:Int)]:=λu=>by unfold Instr.alloc;rw [Sem.run_bind,(aL PK).1];rfl
def oI(q:Rc): Array Value:=#[q.x0,q.y0,q.x1,q.y1,(0:Int)]
theorem iO(q:Rc){u:ax}{b:Nat}(g:u.heap[b]?=ao (ab #[(0:Int),(0:Int),(0:Int),(0:Int),(0:Int)] 223 (0,0))): (Instr.storeAt 223 (an (ao ⟨b,0,ap⟩)) (af (oI q))).run prog u=.ok () (u.setRow b (oI q))/\(u.setRow b (oI q)).heap[b]?=ao (ab (oI q) 223 (0,0)):=by refine⟨jV (ty:=223) g (aL PK).2 rfl (by simp [oI,Value.oneCell']),?_⟩;simp only [World.setRow,au,if_true,g];rfl
structure Ut(w wr:ax)(d:df)(m:bI): Prop where
 t:bH [] w wr
 h0:wr.heap[w.heap.size]?=ao (ab #[ad d.sA d.sn d.sc,d.root,d.next,ad d.lA d.ln d.lc] 29 (0,0))
 hl:wr.heap[w.heap.size+1]?=ao (ab ⟨m.row⟩ 51 (0,0))
 h1:wr.heap[w.heap.size+1+1]?=ao (ab (dZ Rc.zero) 59 (0,0))
theorem Ut.u{w wr u:ax}{d:df}{m:bI}(h:Ut w wr d m)(T:bH [] wr u): Ut w u d m:=
 ⟨h.t.t T,T.ox h.h0,T.ox h.hl,T.ox h.h1⟩
theorem Tf(d:df)(m:bI)(w:ax)(M:m.ag1=1)(O:m.agZ.ok=ba)(H:eu m.Xm=ba)(N:m.At w):
  ay prog 92 #[d.v,m.v] w λe w'=>e=aM ((mJ m.agZ (kH m.Xm m.tn)).can).v/\bH [] w w':=by
 have l:=λu (t:bH [] w u)=>FX m.Xm H m.tA m.tn m.tc u (N.Xm.u t);have F:=G8 m.agZ O (kH m.Xm m.tn) (JH H m.tn);have G:=uY (mJ m.agZ (kH m.Xm m.tn));generalize (mJ m.agZ (kH m.Xm m.tn)).can=C at *;generalize mJ m.agZ (kH m.Xm m.tn)=q at *;generalize kH m.Xm m.tn=q0 at *;simp only [Rc.v,Af.v]at l F G;obtain⟨Z,E,S⟩:=lh3 l F G;obtain⟨W,s⟩:=eX (((w.alloc (ab #[ad d.sA d.sn d.sc,d.root,d.next,ad d.lA d.ln d.lc] 29)).alloc (ab ⟨m.row⟩ 51)).alloc (ab #[(0:Int),(0:Int),(0:Int),(0:Int)] 59));have J:bH [] w W:=s▸(((tR w).a _).a _).a _;have P:=dJ s;have L:=Z5 s;have Q:=Zi s;have x:Hid (Ut w W d m):=lh ⟨J,P,L,Q⟩;have R:=cP 1 m.ag1 L;rw [M]at R;clear J P L Q M l F G O H N;unfold df.v bI.v at *;go_enter func92,ntmps92;go_upto_region 1 with (fail)
 rw [<-s];clear s;try simp only [aI]
 go_upto_region 3 with fail
 clear R;go_cut [5] (λs5 wx=>∃z,s5=an (ao ⟨z,0,ap⟩)/\wx.heap[z]?=ao (ab (oI q) 223 (0,0))/\bH [] W wx);case first=>
  refine sN 7 (tR W) λY h=>?_;refine fK 0 ?_;refine fE 1 (af #[m.agZ.a,m.agZ.b,m.agZ.c,m.agZ.d,m.agZ.e,m.agZ.f,m.agZ.den]) ?_ (j:=by intro w' I;obtain⟨a0,a1,a2,a3,a4,a5,a6⟩:=vg (x.o.u I).hl;go_simp);refine fK 2 ?_;refine Xy 3 (af #[ad m.tA m.tn m.tc]) (λw' I=>cP 28 (ad m.tA m.tn m.tc) (x.o.u I).hl) ?_;refine tj 4 6 (λK j=>?_) (λK j=>?_)
  .go_simp;refine mR (Z.o _ (x.o.t.t h)) λp k=>?_;replace h:=h.t k;refine gK j h ?_;clear j K;clear k Y;obtain⟨Y,rfl⟩:=eX p;refine tj 5 6 (λK j=>?_) (λK j=>?_)
   .go_simp;refine mR (E.o _) λp k=>?_;replace h:=h.t k;refine gK j h ?_;clear j K;clear k Y;obtain⟨Y,rfl⟩:=eX p;refine ty 6 rfl (di (t:=223) rfl (nP _)) λK j=>?_;have l:=ar Y (ab #[(0:Int),(0:Int),(0:Int),(0:Int),(0:Int)] 223);have T:Y.heap.size<(Y.alloc (ab #[(0:Int),(0:Int),(0:Int),(0:Int),(0:Int)] 223)).heap.size:=lz;have aw:=h.size;replace h:=h.alloc (ab #[(0:Int),(0:Int),(0:Int),(0:Int),(0:Int)] 223);refine gK j h ?_;clear j K;generalize Y.alloc (ab #[(0:Int),(0:Int),(0:Int),(0:Int),(0:Int)] 223)=p,Y.heap.size=z at *;clear Y;obtain⟨Y,rfl⟩:=eX p;refine iZ λK j=>?_;refine fO (d:=ap) rfl 223 (.tmp 5) (.tmp 17) rfl rfl rfl (iO q l).1 ?_;refine j _ _ ?_;clear j K;(try go_frame);have A:=(iO q l).2;have B:=h.setRow (g:=z) (oI q) (.inr aw);go_wp2;go_meet;exact⟨z,rfl,A,B⟩
   refine bZ (d:=ao 5) rfl (di (t:=223) rfl (nP _)) ?_;have l:=ar Y (ab #[(0:Int),(0:Int),(0:Int),(0:Int),(0:Int)] 223);have T:Y.heap.size<(Y.alloc (ab #[(0:Int),(0:Int),(0:Int),(0:Int),(0:Int)] 223)).heap.size:=lz;have aw:=h.size;replace h:=h.alloc (ab #[(0:Int),(0:Int),(0:Int),(0:Int),(0:Int)] 223);refine gK j h ?_;clear j K;generalize Y.alloc (ab #[(0:Int),(0:Int),(0:Int),(0:Int),(0:Int)] 223)=p,Y.heap.size=z at *;clear Y;obtain⟨Y,rfl⟩:=eX p;refine PR 5 (E.o _) λp n k=>?_;replace h:=n;clear n;replace l:=(k.old z T lz).t l;replace T:=aj T k.size;clear k Y;obtain⟨Y,rfl⟩:=eX p;refine iZ λK j=>?_;refine fO (d:=ap) rfl 223 (.tmp 5) (.tmp 17) rfl rfl rfl (iO q l).1 ?_;refine j _ _ ?_;clear j K;(try go_frame);have A:=(iO q l).2;have B:=h.setRow (g:=z) (oI q) (.inr aw);go_wp2;go_meet;exact⟨z,rfl,A,B⟩
  refine bZ (d:=ao 5) rfl (di (t:=223) rfl (nP _)) ?_;have l:=ar Y (ab #[(0:Int),(0:Int),(0:Int),(0:Int),(0:Int)] 223);have T:Y.heap.size<(Y.alloc (ab #[(0:Int),(0:Int),(0:Int),(0:Int),(0:Int)] 223)).heap.size:=lz
  have aw:=h.size;replace h:=h.alloc (ab #[(0:Int),(0:Int),(0:Int),(0:Int),(0:Int)] 223);refine gK j h ?_;clear j K
  generalize Y.alloc (ab #[(0:Int),(0:Int),(0:Int),(0:Int),(0:Int)] 223)=p,Y.heap.size=z at *;clear Y;obtain⟨Y,rfl⟩:=eX p;refine PR 4 (Z.o _ (x.o.t.t h)) λp n k=>?_;replace h:=n;clear n
  replace l:=(k.old z T lz).t l;replace T:=aj T k.size;clear k Y;obtain⟨Y,rfl⟩:=eX p;refine PR 5 (E.o _) λp n k=>?_;replace h:=n;clear n
  replace l:=(k.old z T lz).t l;replace T:=aj T k.size;clear k Y;obtain⟨Y,rfl⟩:=eX p;refine iZ λK j=>?_;refine fO (d:=ap) rfl 223 (.tmp 5) (.tmp 17) rfl rfl rfl (iO q l).1 ?_;refine j _ _ ?_;clear j K;try go_frame
  have A:=(iO q l).2;have B:=h.setRow (g:=z) (oI q) (.inr aw);go_wp2;go_meet;exact⟨z,rfl,A,B⟩
 obtain⟨z,rfl,y,k⟩:=hcut;have U:=x.o.u k;have e0:=cO 0 q.x0 y;have e1:=cO 1 q.y0 y;have e2:=cO 2 q.x1 y;have e3:=cO 3 q.y1 y;have V:=lh U;clear U k y;go_wp2_with (go_at_call 90;refine mR (S.o _) λw9 ch=>?_;have D:=V.o.u ch;obtain⟨X,z1,z2,z3⟩:=eG D.h1;have zf:=(λi=>dm D.h1 i);have b4:=lh D.t;clear D)
 exact ag (v:=af #[C.x0,C.y0,C.x1,C.y1]) (by simp [results,results92,go_sem,X,z1,z2,z3]) rfl ⟨rfl,(((b4.o.sc).sc).sc).sc⟩
theorem TB(d:df)(m:bI)(w:ax)(O:m.ag1=4)(P:m.agZ.ok=ba)(a:Rc)(N:a.Z)(Q:bI)(a9:∀u,bH [] w u->CR 40 #[d.v,m.of] u Q.v)(H:∀u,bH [] w u->CR 92 #[d.v,Q.v] u a.v):
  ay prog 92 #[d.v,m.v] w λe w'=>e=aM ((mJ m.agZ a).can).v/\bH [] w w':=by
 have I:=G8 m.agZ P a N;have J:=uY (mJ m.agZ a);generalize (mJ m.agZ a).can=E at *;generalize mJ m.agZ a=q at *;simp only [Rc.v,Af.v,df.v,bI.v]at I J a9 H;obtain⟨aa,G,D,X⟩:=lh4 a9 H I J;obtain⟨W,B⟩:=eX (((w.alloc (ab #[ad d.sA d.sn d.sc,d.root,d.next,ad d.lA d.ln d.lc] 29)).alloc (ab ⟨m.row⟩ 51)).alloc (ab #[(0:Int),(0:Int),(0:Int),(0:Int)] 59));have M:bH [] w W:=B▸(((tR w).a _).a _).a _;have R:=dJ B;have L:=Z5 B;have S:=Zi B;have s:Hid (Ut w W d m):=lh ⟨M,R,L,S⟩;have V:=cP 1 m.ag1 L;rw [O]at V;clear M R L S O I J P N a9 H;unfold df.v bI.v at *;go_enter func92,ntmps92;go_upto_region 1 with (fail)
 rw [<-B];clear B;try simp only [aI]
 go_upto_region 8 with fail
 clear V;go_cut [6] (λs6 wx=>∃z,s6=an (ao ⟨z,0,ap⟩)/\wx.heap[z]?=ao (ab (oI q) 223 (0,0))/\bH [] W wx);case first=>
  refine sN 10 (tR W) λY h=>?_;refine fK 0 ?_;refine fE 1 (af #[m.agZ.a,m.agZ.b,m.agZ.c,m.agZ.d,m.agZ.e,m.agZ.f,m.agZ.den]) ?_ (j:=by intro w' A;obtain⟨a0,a1,a2,a3,a4,a5,a6⟩:=vg (s.o.u A).hl;go_simp);refine fE 2 (af #[ad d.sA d.sn d.sc,d.root,d.next,ad d.lA d.ln d.lc]) ?_ (j:=by intro w' A;obtain⟨d0,d1,d2,d3⟩:=iw (s.o.u A).h0;go_simp);refine fE 3 (af #[ad d.sA d.sn d.sc,d.root,d.next,ad d.lA d.ln d.lc]) ?_ (j:=by intro w' A;obtain⟨d0,d1,d2,d3⟩:=iw (s.o.u A).h0;go_simp);refine fK 4 ?_;refine Xy 5 m.of (λw' A=>cP 16 m.of (s.o.u A).hl) ?_;refine tj 6 9 (λK k=>?_) (λK k=>?_)
  .go_simp;refine mR (aa.o _ (s.o.t.t h)) λp j=>?_;replace h:=h.t j;refine gK k h ?_;clear k K;clear j Y;obtain⟨Y,rfl⟩:=eX p;refine tj 7 9 (λK k=>?_) (λK k=>?_)
   .go_simp;refine mR (G.o _ (s.o.t.t h)) λp j=>?_;replace h:=h.t j;refine gK k h ?_;clear k K;clear j Y;obtain⟨Y,rfl⟩:=eX p;refine tj 8 9 (λK k=>?_) (λK k=>?_)
    .go_simp;refine mR (D.o _) λp j=>?_;replace h:=h.t j;refine gK k h ?_;clear k K;clear j Y;obtain⟨Y,rfl⟩:=eX p;refine ty 9 rfl (di (t:=223) rfl (nP _)) λK k=>?_;have l:=ar Y (ab #[(0:Int),(0:Int),(0:Int),(0:Int),(0:Int)] 223);have T:Y.heap.size<(Y.alloc (ab #[(0:Int),(0:Int),(0:Int),(0:Int),(0:Int)] 223)).heap.size:=lz;have aw:=h.size;replace h:=h.alloc (ab #[(0:Int),(0:Int),(0:Int),(0:Int),(0:Int)] 223);refine gK k h ?_;clear k K;generalize Y.alloc (ab #[(0:Int),(0:Int),(0:Int),(0:Int),(0:Int)] 223)=p,Y.heap.size=z at *;clear Y;obtain⟨Y,rfl⟩:=eX p;refine iZ λK k=>?_;refine fO (d:=ap) rfl 223 (.tmp 6) (.tmp 37) rfl rfl rfl (iO q l).1 ?_;refine k _ _ ?_;clear k K;(try go_frame);have x:=(iO q l).2;have y:=h.setRow (g:=z) (oI q) (.inr aw);go_wp2;go_meet;exact⟨z,rfl,x,y⟩
    refine bZ (d:=ao 6) rfl (di (t:=223) rfl (nP _)) ?_;have l:=ar Y (ab #[(0:Int),(0:Int),(0:Int),(0:Int),(0:Int)] 223);have T:Y.heap.size<(Y.alloc (ab #[(0:Int),(0:Int),(0:Int),(0:Int),(0:Int)] 223)).heap.size:=lz;have aw:=h.size;replace h:=h.alloc (ab #[(0:Int),(0:Int),(0:Int),(0:Int),(0:Int)] 223);refine gK k h ?_;clear k K;generalize Y.alloc (ab #[(0:Int),(0:Int),(0:Int),(0:Int),(0:Int)] 223)=p,Y.heap.size=z at *;clear Y;obtain⟨Y,rfl⟩:=eX p;refine PR 8 (D.o _) λp n j=>?_;replace h:=n;clear n;replace l:=(j.old z T lz).t l;replace T:=aj T j.size;clear j Y;obtain⟨Y,rfl⟩:=eX p;refine iZ λK k=>?_;refine fO (d:=ap) rfl 223 (.tmp 6) (.tmp 37) rfl rfl rfl (iO q l).1 ?_;refine k _ _ ?_;clear k K;(try go_frame);have x:=(iO q l).2;have y:=h.setRow (g:=z) (oI q) (.inr aw);go_wp2;go_meet;exact⟨z,rfl,x,y⟩
   refine bZ (d:=ao 6) rfl (di (t:=223) rfl (nP _)) ?_;have l:=ar Y (ab #[(0:Int),(0:Int),(0:Int),(0:Int),(0:Int)] 223);have T:Y.heap.size<(Y.alloc (ab #[(0:Int),(0:Int),(0:Int),(0:Int),(0:Int)] 223)).heap.size:=lz;have aw:=h.size;replace h:=h.alloc (ab #[(0:Int),(0:Int),(0:Int),(0:Int),(0:Int)] 223);refine gK k h ?_;clear k K;generalize Y.alloc (ab #[(0:Int),(0:Int),(0:Int),(0:Int),(0:Int)] 223)=p,Y.heap.size=z at *;clear Y;obtain⟨Y,rfl⟩:=eX p;refine PR 7 (G.o _ (s.o.t.t h)) λp n j=>?_;replace h:=n;clear n;replace l:=(j.old z T lz).t l;replace T:=aj T j.size;clear j Y;obtain⟨Y,rfl⟩:=eX p;refine PR 8 (D.o _) λp n j=>?_;replace h:=n;clear n;replace l:=(j.old z T lz).t l;replace T:=aj T j.size;clear j Y;obtain⟨Y,rfl⟩:=eX p;refine iZ λK k=>?_;refine fO (d:=ap) rfl 223 (.tmp 6) (.tmp 37) rfl rfl rfl (iO q l).1 ?_;refine k _ _ ?_;clear k K;(try go_frame);have x:=(iO q l).2;have y:=h.setRow (g:=z) (oI q) (.inr aw);go_wp2;go_meet;exact⟨z,rfl,x,y⟩
  refine bZ (d:=ao 6) rfl (di (t:=223) rfl (nP _)) ?_;have l:=ar Y (ab #[(0:Int),(0:Int),(0:Int),(0:Int),(0:Int)] 223);have T:Y.heap.size<(Y.alloc (ab #[(0:Int),(0:Int),(0:Int),(0:Int),(0:Int)] 223)).heap.size:=lz
  have aw:=h.size;replace h:=h.alloc (ab #[(0:Int),(0:Int),(0:Int),(0:Int),(0:Int)] 223);refine gK k h ?_;clear k K
  generalize Y.alloc (ab #[(0:Int),(0:Int),(0:Int),(0:Int),(0:Int)] 223)=p,Y.heap.size=z at *;clear Y;obtain⟨Y,rfl⟩:=eX p;refine PR 6 (aa.o _ (s.o.t.t h)) λp n j=>?_;replace h:=n;clear n
  replace l:=(j.old z T lz).t l;replace T:=aj T j.size;clear j Y;obtain⟨Y,rfl⟩:=eX p;refine PR 7 (G.o _ (s.o.t.t h)) λp n j=>?_;replace h:=n;clear n
  replace l:=(j.old z T lz).t l;replace T:=aj T j.size;clear j Y;obtain⟨Y,rfl⟩:=eX p;refine PR 8 (D.o _) λp n j=>?_;replace h:=n;clear n
  replace l:=(j.old z T lz).t l;replace T:=aj T j.size;clear j Y;obtain⟨Y,rfl⟩:=eX p;refine iZ λK k=>?_;refine fO (d:=ap) rfl 223 (.tmp 6) (.tmp 37) rfl rfl rfl (iO q l).1 ?_;refine k _ _ ?_;clear k K;try go_frame
  have x:=(iO q l).2;have y:=h.setRow (g:=z) (oI q) (.inr aw);go_wp2;go_meet;exact⟨z,rfl,x,y⟩
 obtain⟨z,rfl,C,j⟩:=hcut;have U:=s.o.u j;have e0:=cO 0 q.x0 C;have e1:=cO 1 q.y0 C;have e2:=cO 2 q.x1 C;have e3:=cO 3 q.y1 C;have a7:=lh U;clear U j C;go_wp2_with (go_at_call 90;refine mR (X.o _) λw9 ch=>?_;have F:=a7.o.u ch;obtain⟨z0,z1,z2,z3⟩:=eG F.h1;have zf:=(λi=>dm F.h1 i);have b4:=lh F.t;clear F)
 exact ag (v:=af #[E.x0,E.y0,E.x1,E.y1]) rM rfl ⟨rfl,(((b4.o.sc).sc).sc).sc⟩
theorem Sr(d:df)(m:bI)(w:ax)(l:m.ag1=5)(b6:jy m.pts=ba)(n:m.At w):
  ay prog 92 #[d.v,m.v] w λe w'=>e=aM (((gY m.pts).meet (gY m.pts)).can).v/\bH [] w w':=by
 have g:=λu (t:bH [] w u)=>Hw m.pts b6 m.pA m.pn m.pc u (n.pts.u t);have h:=uY ((gY m.pts).meet (gY m.pts));generalize ((gY m.pts).meet (gY m.pts)).can=j at *;generalize (gY m.pts).meet (gY m.pts)=q at *;simp only [Rc.v]at g h;have Z:=lh g;have y:=lh h;obtain⟨W,b⟩:=eX (((w.alloc (ab #[ad d.sA d.sn d.sc,d.root,d.next,ad d.lA d.ln d.lc] 29)).alloc (ab ⟨m.row⟩ 51)).alloc (ab #[(0:Int),(0:Int),(0:Int),(0:Int)] 59));have k:bH [] w W:=b▸(((tR w).a _).a _).a _;have p:=dJ b;have L:=Z5 b;have s:=Zi b;have f:Hid (Ut w W d m):=lh ⟨k,p,L,s⟩;have x:=cP 1 m.ag1 L;rw [l]at x;clear k p L s l g h b6 n;unfold df.v bI.v at *;go_enter func92,ntmps92;go_upto_region 1 with (fail)
 rw [<-b];clear b;try simp only [aI]
 go_upto_region 6 with fail
 clear x;have N:=cP 27 (ad m.pA m.pn m.pc) f.o.hl;go_wp2_with (first
  |(go_at_call 152;refine mR (Z.o _ f.o.t) λY z=>?_;have a6:=lh (f.o.u z))
  |(go_at_call 90;refine mR (y.o _) λM ch=>?_;have c:=a6.o.u ch;obtain⟨B,J,Q,D⟩:=eG c.h1;have C:=(λi=>dm c.h1 i);have b4:=lh c.t;clear c))
 exact ag (v:=af #[j.x0,j.y0,j.x1,j.y1]) sl rfl ⟨rfl,(((b4.o.sc).sc).sc).sc⟩
theorem Uj(d:df)(m:bI)(w:ax)(g:m.ag1=2)(cc:Rc)(_:m.Xh<=50)(F:∀u,bH [] w u->CR 153 #[d.v,ad m.Xi m.Xh m.Xj,m.Xh] u cc.v):
  ay prog 92 #[d.v,m.v] w λe w'=>e=aM (cc).v/\bH [] w w':=by
 simp only [Rc.v,df.v]at F;have Z:=lh F;obtain⟨W,b⟩:=eX (((w.alloc (ab #[ad d.sA d.sn d.sc,d.root,d.next,ad d.lA d.ln d.lc] 29)).alloc (ab ⟨m.row⟩ 51)).alloc (ab #[(0:Int),(0:Int),(0:Int),(0:Int)] 59));have f:bH [] w W:=b▸(((tR w).a _).a _).a _;have h:=dJ b;have L:=Z5 b;have k:=Zi b;have c:Hid (Ut w W d m):=lh ⟨f,h,L,k⟩;have l:=cP 1 m.ag1 L;rw [g]at l;clear f h L k g F;unfold df.v bI.v at *;go_enter func92,ntmps92;go_upto_region 1 with (fail)
 rw [<-b];clear b;try simp only [aI]
 go_upto_region 11 with fail
 clear l;have A:=cP 15 (ad m.Xi m.Xh m.Xj) c.o.hl;obtain⟨n,p,G,X⟩:=iw c.o.h0;go_wp2_with (go_at_call 153;refine mR (Z.o _ c.o.t) λM ch=>?_;have j:=c.o.u ch;obtain⟨B,J,Q,D⟩:=eG j.h1;have C:=(λi=>dm j.h1 i);have b4:=lh j.t;clear j)
 exact ag (v:=af #[cc.x0,cc.y0,cc.x1,cc.y1]) sl rfl ⟨rfl,(((b4.o.sc).sc).sc).sc⟩
theorem TQ(d:df)(m:bI)(w:ax)(M:m.ag1=3)(a:Rc)(K:a.Z)(B:m.At w)(p:Int)(k:Nat)(_:k<=50)(g:bI)(a7:∀u,bH [] w u->CR 99 #[d.v,m.id] u (af #[p,k,am ba]))(a9:∀u,bH [] w u->CR 40 #[d.v,p] u g.v)(C:∀u,bH [] w u->CR 153 #[d.v,ad g.Xi g.Xh g.Xj,k] u a.v):
  ay prog 92 #[d.v,m.v] w λe w'=>e=aM ((m.spread a).can).v/\bH [] w w':=by
 have E:=λu (t:bH [] w u)=>zJ m.Xg m.ks m.cs a K.bd u (B.ks.u t) (B.cs.u t);rw [show m.Xg.area (jC m.Xg m.ks m.cs) a 1=m.spread a from rfl]at E;have A:=uY (m.spread a);generalize (m.spread a).can=s at *;generalize m.spread a=q at *;simp only [Rc.v,Fv.v,df.v,bI.v]at E A a7 a9 C;obtain⟨S,aa,T,a0,R⟩:=lh5 a7 a9 C E A;obtain⟨W,n⟩:=eX (((w.alloc (ab #[ad d.sA d.sn d.sc,d.root,d.next,ad d.lA d.ln d.lc] 29)).alloc (ab ⟨m.row⟩ 51)).alloc (ab #[(0:Int),(0:Int),(0:Int),(0:Int)] 59));have H:bH [] w W:=n▸(((tR w).a _).a _).a _;have O:=dJ n;have L:=Z5 n;have P:=Zi n;have b:Hid (Ut w W d m):=lh ⟨H,O,L,P⟩;have Q:=cP 1 m.ag1 L;rw [M]at Q;clear H O L P M E A K B a7 a9 C;unfold df.v bI.v at *;go_enter func92,ntmps92;go_upto_region 1 with (fail)
 rw [<-n];clear n;try simp only [aI]
 go_upto_region 12 with fail
 clear Q;have y0:=cP 0 m.id b.o.hl;obtain⟨z,F,G,X⟩:=iw b.o.h0;go_upto_region 13 with (go_at_call 99;refine mR (S.o _ b.o.t) λN aw=>?_)
 obtain⟨V,y⟩:=eX (N.alloc (ab #[p,k,am ba] 177));have I:bH [] W V:=y▸aw.a _;have J:=YE y
 rw [<-y];have U:=b.o.u I;have D:=lh J;clear y I aw J b y0 z F G X;have b:=lh U;clear U;generalize N.heap.size=b7,a1:W=W0 at *;clear a1;obtain⟨W,rfl⟩:=eX V;refine sN 13 (tR W) λY f=>?_;refine fK 0 ?_;refine fE 1 (af #[m.Xg.ag1,m.Xg.Xf,ad m.Xg.kA m.Xg.kn m.Xg.kc,m.Xg.div,m.Xg.value,ad m.Xg.cA m.Xg.cn m.Xg.cc]) ?_ (j:=by intro w' c;obtain⟨g0,g1,g2,g3,g4,g5⟩:=ve (b.o.u c).hl;go_simp);refine fE 2 (af #[ad d.sA d.sn d.sc,d.root,d.next,ad d.lA d.ln d.lc]) ?_ (j:=by intro w' c;obtain⟨z,F,G,X⟩:=iw (b.o.u c).h0;go_simp);refine fE 3 (af #[ad d.sA d.sn d.sc,d.root,d.next,ad d.lA d.ln d.lc]) ?_ (j:=by intro w' c;obtain⟨z,F,G,X⟩:=iw (b.o.u c).h0;go_simp);refine fK 4 ?_;refine Xy 5 p (λw' c=>cO 0 p (c.ox D.o)) ?_;refine fK 8 ?_;refine Xy 9 k (λw' c=>cO 1 k (c.ox D.o)) ?_;refine PR 6 (aa.o _ (b.o.t.t f)) λh l j=>?_;replace f:=l;clear l
 clear j Y;obtain⟨Y,rfl⟩:=eX h;refine fE 7 (ad g.Xi g.Xh g.Xj) ?_ rfl (j:=λw' c=>LM g _ _ rfl _ _ rfl _ _ _ _ _);refine PR 10 (T.o _ (b.o.t.t f)) λh l j=>?_;replace f:=l;clear l
 clear j Y;obtain⟨Y,rfl⟩:=eX h;refine PR 11 (a0.o _ (b.o.t.t f)) λh l j=>?_;replace f:=l;clear l
 clear j Y;obtain⟨Y,rfl⟩:=eX h;refine PR 12 (R.o _) λh l j=>?_;replace f:=l;clear l
 clear j Y;obtain⟨Y,rfl⟩:=eX h;have x:=b.o.u f;obtain⟨z0,z1,z2,z3⟩:=eG x.h1;have zf:=λi=>dm x.h1 i;have b4:=lh x.t;clear x;refine Yo ?_
 go_wp2_with fail
 exact ag (v:=af #[s.x0,s.y0,s.x1,s.y1]) rM rfl ⟨rfl,(((b4.o.sc).sc).sc).sc⟩
theorem sU{d:df}(D:kU d): ∀(n:Nat) (x:Int) (l:bI),dh d.agY x=ao l->l.ag1≠3->d.rk x<n->∀u,d.At u->
  ay prog 92 #[d.v,l.v] u λe w'=>e=aM (jG d.agY n l).v/\bH [] u w'
 |0,_,_,_,_,h,_,_=>absurd h (aU _)
 |n+1,x,m,hl,h3,hr,u,hd=>by
  have i:=nH hl hd;obtain⟨p,_,_⟩:=kU.mem hl;have o:=D.tidy.lay m p;obtain⟨av,_⟩:=D.good hl;have a3:=o.ag1;unfold jG;by_cases c:m.ag1=1
  .rw [aG c];exact Tf d m u c (o.agZ (.inl c)) av i
  rw [aF c];by_cases T:m.ag1=5
  .rw [aG T];exact Sr d m u T (o.path T) i
  rw [aF T];by_cases S:m.ag1=4
  .rw [aG S];obtain⟨a,F,E,bF⟩:=D.cl hl S;rw [F];simp only;exact TB d m u S (o.agZ (.inr S)) (jG d.agY n a) (lZ _ _ _) a (λv t=>zq d m.of a F v (hd.u t)) (λv t=>sU D n m.of a F E gn v (hd.u t))
  rw [aF S];have g:m.ag1=2:=gn
  have k:=Uj d m u g (iW (jG d.agY n) d.agY m.ag0 Rc.zero) i.Xk λv t=>by have j:=Hq d (jG d.agY n) m.ag0 m.Xi m.Xh m.Xh m.Xj i.Xk (aQ _) v (i.ag0.u t) (hd.u t) (λy f=>(D.kid hl g y f).1) (λy _ V b=>(D.good b).2) (λV=>lZ _ _ V) (λy f V b aE s q=>sU D n y V b aE (by have:=(D.kid hl g y f).2;omega) s ((hd.u t).u q));rw [aY (by have:=i.ag0.1;omega)]at j;exact j
  exact k
theorem Uh{ls:List bI}(b:(ls.map (·.id)).Pairwise (· < ·)){k:Nat}{q:bI}(h:ls[k]?=ao q): dh ls q.id=ao q:=by
 have d:(ls.map (·.id))[k]?=ao q.id:=by rw [aP,h];rfl
 have C:=vS d λi m e=>by obtain⟨a,l⟩:=ah.1 d;obtain⟨f,z⟩:=ah.1 e;have:=List.pairwise_iff_getElem.1 b i k f a m;omega
 unfold dh;rw [C];exact h
theorem Hr:∀(ks:List Int) (x:Int) (b:Nat),Cf ks x b=ap->x∉ks
 | [],_,_,_=>aW
 |y::ks,x,b,h=>by
  unfold Cf at h;split at h
  .cases h
  rename_i G;have:=Hr ks x (b+1) h;simp only [aS,not_or];exact⟨λe=>G e.symm,this⟩
theorem xq:∀(ls:List bI) (x:Int),kE ls x=ap->∀l∈ls,l.ag1=2->x∉l.ag0
 | [],_,_,_,h,_=>absurd h aW
 |a::ls,x,h,l,i,h2=>by
  unfold kE at h;split at h
  .rename_i C;split at h
   .cases h
   rename_i m;rcases aS.1 i with rfl|i
   .exact Hr _ _ _ m
   exact xq ls x h l i h2
  rename_i C;rcases aS.1 i with rfl|i
  .exact absurd h2 C
  exact xq ls x h l i h2
theorem kU.Xq{d:df}(D:kU d){l:bI}(h:l∈d.agY)(f:l.ag1≠2): l.ag0=[]:=by have e:=(D.tidy.lay l h).Xq f;rw [D.kn l h]at e;exact List.eq_nil_of_length_eq_zero e
theorem kU.par{d:df}(D:kU d){x:Int}{l:bI}(h:dh d.agY x=ao l)(m:l.ag1=3): ∃p k q,kE d.agY x=ao (p,k)/\dh d.agY p=ao q/\q.ag1=2/\k<q.ag0.length:=by
 obtain⟨u,e,t,P⟩:=kU.mem h;have Q:=D.ok.ag0 t l P;unfold pM at Q;rw [az,e]at Q;have S:x≠d.root:=λz=>by obtain⟨r,C,f⟩:=D.tidy.root;rw [<-z,h]at C;injection C with C;rw [C]at m;omega
 have b:=Q.2;rw [aF S,beq_iff_eq]at b;unfold jJ at b;rw [List.take_length]at b;have s:x∈((d.agY.map (·.ag0)).flatten):=List.count_pos_iff.1 gn;obtain⟨v,o,gw⟩:=List.mem_flatten.1 s;obtain⟨q,c,rfl⟩:=List.mem_map.1 o;have H:q.ag1=2:=by
  by_cases f:q.ag1=2
  .exact f
  rw [D.Xq c f]at gw;cases gw
 cases a:kE d.agY x with
 |none=>exact absurd gw (xq _ _ a q c H)
 |some pk=>
  obtain⟨p,k⟩:=pk;obtain⟨i,g,rfl,a5⟩:=CQ _ _ _ _ a;obtain⟨j,n⟩:=bu.1 g;refine⟨_,k,i,rfl,Uh D.tidy.inc n,?_,a5⟩;by_cases f:i.ag1=2
  .exact f
  rw [D.Xq g f]at a5;cases a5
theorem KC(d:df)(y:Int): d.rk y<3000:=by have:=qN d.agY 2502 y;unfold df.rk;omega
theorem Ik{d:df}{x p:Int}{k:Nat}{q:bI}(h:kE d.agY x=ao (p,k))(a:dh d.agY p=ao q): JW d.agY x=q.ag0.take k:=by unfold JW;rw [h];simp only;rw [a]
theorem Kt{d:df}(D:kU d)(x:Int)(l:bI)(i:dh d.agY x=ao l)(m:bI)(a:l.Like m)(u:ax)(E:d.At u)(f:m.At u):
  ay prog 64 #[d.v,m.v] u λe w'=>e=aM (uk d.agY 3000 l).v/\bH [] u w':=by
 unfold uk;by_cases g:l.ag1=3
 .rw [aG g];obtain⟨p,k,q,h,b,H,F⟩:=D.par i g;obtain⟨w,_,_,_,_,_,_,_,z⟩:=BF a;have o:l.id=x:=(kU.mem i).2.1;rw [o,Ik h b,<-yN a];have j:=nH b E;refine UT d m u (w.t g) (iW (jG d.agY 3000) d.agY (q.ag0.take k) Rc.zero) (oD _ _ (λ_ _ m _=>lZ _ _ m) qB) (BN a ((D.good i).2 g)) f (λw' v=>∃A c,v=ad A k c/\dn w' A k (q.ag0.take k)) (λv t=>?_) (λv s t G=>?_)
  .rw [z,o];exact JU d x p k q v (E.u t) D.thin h b F
  obtain⟨A,c,rfl,B⟩:=G;exact yJ d (jG d.agY 3000) (q.ag0.take k) A k c (by have M:=j.Xk;have N:=j.ag0.1;omega) v B (E.u t) D.thin (λy I=>(D.kid b H y (List.mem_of_mem_take I)).1) (λy _ V n=>(D.good n).2) (λV=>lZ _ _ V) (λy _ V n aE L U K J C=>sV D 3000 y V n aE (KC d y) L U K ((E.u t).u J) C)
 rw [aF g];exact sV D 3000 x l i g (KC d x) m a u E f
theorem Ou{d:df}(D:kU d)(x:Int)(l:bI)(i:dh d.agY x=ao l)(u:ax)(E:d.At u):
  ay prog 92 #[d.v,l.v] u λe w'=>e=aM (uk d.agY 3000 l).v/\bH [] u w':=by
 have o:=nH i E;unfold uk;by_cases g:l.ag1=3
 .rw [aG g];obtain⟨p,k,q,c,a,H,B⟩:=D.par i g;have f:l.id=x:=(kU.mem i).2.1;rw [f,Ik c a];have j:=nH a E;have s:k<=q.Xh:=by have A:=j.ag0.1;omega
  refine TQ d l u g (iW (jG d.agY 3000) d.agY (q.ag0.take k) Rc.zero) (oD _ _ (λ_ _ m _=>lZ _ _ m) qB) o p k (by have b:=j.Xk;omega) q (λv t=>?_) (λv t=>zq d p q a v (E.u t)) (λv t=>Hq d (jG d.agY 3000) q.ag0 q.Xi q.Xh k q.Xj j.Xk s v (j.ag0.u t) (E.u t) (λy h=>(D.kid a H y h).1) (λy _ V n=>(D.good n).2) (λV=>lZ _ _ V) (λy h V n aE z w=>sU D 3000 y V n aE (KC d y) z ((E.u t).u w)));have b:=Gq d x v (E.u t);rw [c]at b;rw [f];exact b
 rw [aF g];exact sU D 3000 x l i g (KC d x) u E
def iJ(d:df)(a7:Option Nat)(id:Int): Option Rc:=match a7 with
 |some _=>ap
 |none=>(dh d.agY id).map (uk d.agY 3000)
theorem Oq(d:df)(a7:Option Nat)(id:Int)(w:ax)(h:d.At w)(n:E5 d a7)(a5:∀l∈d.agY,l.Thin):
  ay prog 31 #[d.v,id] w λe w'=>(∃(E:df) (m:bI) (b:Bool),e=aM (.tuple #[E.v,m.v,am b])/\(b=ba->a7=ap/\E=d/\(∃l,dh d.agY id=ao l/\l.Like m)/\gG [] w' λu=>m.At u)/\(b=bb->iJ d a7 id=ap))/\bH [] w w':=by
 have o:gG [] w λu=>d.At u:=λu B y=>h.keepD λq z=>y q z lz;cases a7 with
 |none=>
  refine (AA d id w [] (λb g=>absurd g aW) o a5 ba 0 0 (λe=>by cases e) (λ_=>rfl) (λu t=>(Dc d ap u (h.u t) n).mono λe w' c=>c)).mono ?_;rintro e w' ⟨a,k⟩;refine⟨?_,k⟩;unfold sD at a;rw [aG rfl]at a;unfold Ky at a;cases a1:dh d.agY id with
  |none=>
   rw [a1]at a;exact⟨d,dF,bb,a,λg=>rJ,λ_=>(by unfold iJ;simp only;rw [a1];rfl)⟩
  |some l=>
   rw [a1]at a;obtain⟨m,s,f,j⟩:=a;exact⟨d,m,ba,j,λ_=>⟨rfl,rfl,⟨l,rfl,s⟩,f⟩,λg=>rJ⟩
 |some i=>
  obtain⟨p,x,_⟩:=n.badl i rfl;refine (AA d id w [] (λb g=>absurd g aW) o a5 bb 1 p.id (λ_=>lG) (λe=>by cases e) (λu t=>(Dc d (ao i) u (h.u t) n).mono λe w' c=>⟨?_,c.2⟩)).mono ?_
  .obtain⟨A,f,j⟩:=c.1;obtain rfl:p=A:=(by rw [x]at f;injection f);exact j
  rintro e w' ⟨a,k⟩;refine⟨?_,k⟩;unfold sD at a;rw [aF lz]at a;exact⟨⟨ap,0,0,[],0,0,ap,0,0,[]⟩,dF,bb,a,λg=>rJ,λ_=>rfl⟩
theorem BQ(d:df)(a7:Option Nat)(id:Int)(w:ax)(h:d.At w)(H:E5 d a7)(N:∀l∈d.agY,l.Thin)(G:a7=ap->kU d):
  CR 22 #[d.v,id] w (.tuple #[((iJ d a7 id).getD Rc.zero).v,am (iJ d a7 id).isSome]):=by
 obtain⟨W,f⟩:=eX ((w.alloc (ab #[ad d.sA d.sn d.sc,d.root,d.next,ad d.lA d.ln d.lc] 29)).alloc (ab #[(0:Int),(0:Int),(0:Int),(0:Int)] 59));have p:bH [] w W:=by rw [f];exact ((tR w).a _).a _
 have O:W.heap[w.heap.size]?=ao (ab #[ad d.sA d.sn d.sc,d.root,d.next,ad d.lA d.ln d.lc] 29 (0,0)):=f▸bO bN;have P:W.heap[w.heap.size+1]?=ao (ab (dZ Rc.zero) 59 (0,0)):=f▸bN;have cl:=Oq d a7 id W (h.u p) H N;obtain⟨Y,q1,q2,q3⟩:=iw O;obtain⟨cD,a6,z,R,eq,F⟩:=lh6 cl P p h G gI;clear cl O P p h H N G;unfold df.v at *;go_enter func22,ntmps22;go_upto_region 1 with fail
 rw [<-f];clear f;go_upto_region 2 with (first
  |(go_at_call 31;refine cD.o.mono ?_;rintro e b ⟨⟨E,m,X,rfl,K,a8⟩,aR⟩;have Z:=lh (bg K a8);have n:=lh aR;clear K a8 aR;unfold bI.v)
  |(refine yR 7 (di (t:=51) rfl (F.o _)) ?_)
  |(refine sR (WV b _ m _ (aI _ _)) ?_))
 try simp only [aI]
 obtain⟨V,c⟩:=eX ((b.alloc (ab #[ad E.sA E.sn E.sc,E.root,E.next,ad E.lA E.ln E.lc] 94)).alloc (ab ⟨m.row⟩ 51));have aq:bH [] b V:=by rw [c];exact ((tR b).a _).a _
 have s:V.heap[b.heap.size]?=ao (ab #[ad E.sA E.sn E.sc,E.root,E.next,ad E.lA E.ln E.lc] 94 (0,0)):=c▸bO bN;have x:V.heap[b.heap.size+1]?=ao (ab ⟨m.row⟩ 51 (0,0)):=c▸bN;have j:=n.o.t aq;have g:=j.ox a6.o;rw [<-c];clear c Y q1 q2 q3 F a6;have a6:=lh g;have a5:=lh (z.o.t j);cases X with
 |false=>
  have y:=Z.o.2 rfl;have k:=lh y;obtain⟨C,J,Q,D⟩:=eG g;have zf:=λi=>dm g i;clear y g j aq s x Z n z;go_wp2_with fail
  exact ag (v:=.tuple #[af #[(0:Int),(0:Int),(0:Int),(0:Int)],am bb]) so rfl ⟨by rw [k.o];rfl,(((a5.o.sc).sc).sc).sc⟩
 |true=>
  obtain⟨rfl,rfl,⟨l,A,U⟩,M⟩:=Z.o.1 rfl;have L:m.At V:=(M.u aq).now;have a0:=Kt (eq.o rfl) id l A m U V (R.o.u (a5.o)) L;have y:iJ E ap id=ao (uk E.agY 3000 l):=by unfold iJ;simp only;rw [A];rfl
  have k:=lh y;generalize uk E.agY 3000 l=q at *;have I:=BP x;obtain⟨p0,p1,p2,p3⟩:=iw s;unfold df.v bI.v Rc.v at a0;have S:=lh a0;have T:=lh I;clear y g j aq s x Z n z L a0 A U M I eq cD;go_wp2_with (first
   |(refine lR 20 T.o ?_)
   |(go_at_call 64;refine mR S.o λw9 ch=>?_;have B:=ch.ox a6.o;obtain⟨C,J,Q,D⟩:=eG B;have zf:=(λi=>dm B i);have b4:=lh (a5.o.t ch);clear B))
  exact ag (v:=.tuple #[af #[q.x0,q.y0,q.x1,q.y1],am ba]) so rfl ⟨by rw [k.o];rfl,(((b4.o.sc).sc).sc).sc⟩
def aad:List dC:=acB 0 0 (acO (List.replicate 256 0) 3 4 0 0 0 1)
def aac(A:Option aD)(cap:Nat): bI:={ fB 1 with id:=2,tA:=A,tn:=1,tc:=cap,Xm:=aad }
def ab6(g:Nat): bI:={ jK with Xi:=ao ⟨g,0,ap⟩,Xh:=1,Xj:=1,ag0:=[2] }
def Z4(lA:Option aD)(lc:Nat)(A:Option aD)(cap g:Nat): df:=⟨ap,0,0,[],1,3,lA,2,lc,[ab6 g,aac A cap]⟩
def abr(g:Nat): df:=⟨ap,0,0,[],1,2,ao ⟨g,0,ap⟩,1,1,[jK]⟩
theorem aec:aad.length=1:=lB
theorem aet:eu aad=ba:=lB
theorem ad8(g:Nat): (ab6 g).Tidy 0:=by refine⟨of_decide_eq_true lB,by simp [ab6,jK,fB,kW],of_decide_eq_true lB,of_decide_eq_true lB,λh=>absurd h (of_decide_eq_false lB),λ_ _=>rfl,of_decide_eq_true lB,λ_=>⟨rfl,rfl⟩,λh=>absurd rfl h,λ_=>rfl,λ_=>rfl,λ_=>⟨rfl,rfl,rfl,rfl,rfl⟩,λh=>absurd h (of_decide_eq_false lB),λ_=>rfl⟩
theorem abM(A:Option aD)(cap:Nat): (aac A cap).Tidy 0:=by refine⟨of_decide_eq_true lB,by simp [aac,fB,kW],of_decide_eq_true lB,of_decide_eq_true lB,λ_=>by kernel_rfl,λh=>absurd rfl h,of_decide_eq_true lB,λh=>absurd rfl h,λ_=>rfl,λ_=>rfl,λ_=>rfl,λ_=>⟨rfl,rfl,rfl,rfl,rfl⟩,λh=>absurd h (of_decide_eq_false lB),λ_=>rfl⟩
theorem acQ{ls:List bI}{x:Int}(h:eP ls x=[]): ∀{y:Int},¬iY ls x y:=by
 intro y C;induction C with
 |one h1=>rw [h]at h1;cases h1
 |tail _ _ ih=>exact ih
theorem aah(lA:Option aD)(lc:Nat)(A:Option aD)(cap g:Nat): (Z4 lA lc A cap g).Tidy:=by
 refine⟨λs n=>absurd n aW,of_decide_eq_true lB,of_decide_eq_true lB,of_decide_eq_true lB,?_,?_,⟨ab6 g,rfl,rfl⟩,?_⟩
 .show [(1:Int),2].Pairwise (· < ·);decide
 .intro x a;have a:x∈[(1:Int),2]:=a;have:x=1\/x=2:=by simpa using a
  show 1<=x/\x<3;omega
 intro l i;have i:l∈[ab6 g,aac A cap]:=i;rcases aS.1 i with rfl|i
 .exact ad8 g
 rw [aN.1 i];exact abM A cap
theorem ab4{lA:Option aD}{lc:Nat}{A:Option aD}{cap g:Nat}{k:Nat}{l:bI}(h:(Z4 lA lc A cap g).agY[k]?=ao l): l=ab6 g\/l=aac A cap:=by have e:=aH h;have e:l∈[ab6 g,aac A cap]:=e;simpa using e
theorem acf(lA:Option aD)(lc:Nat)(A:Option aD)(cap g:Nat): (Z4 lA lc A cap g).Ok:=by
 refine⟨λk l h=>?_,λk l h=>?_,λk l h d=>?_,λk y h C=>?_,?_⟩
 .rcases ab4 h with rfl|rfl
  .kernel_rfl
  show (eu []&&eu aad&&_)=ba;rw [aet];kernel_rfl
 .rcases ab4 h with rfl|rfl
  .kernel_rfl
  kernel_rfl
 .rcases ab4 h with rfl|rfl
  .exact absurd d (of_decide_eq_false lB)
  exact absurd d (of_decide_eq_false lB)
 .have c:=aH h;have c:y∈[(1:Int),2]:=c;have s2:eP (Z4 lA lc A cap g).agY 2=[]:=by kernel_rfl
  have s1:eP (Z4 lA lc A cap g).agY 1=[2]:=lB
  have f:y=1\/y=2:=mx
  have all:∀{a b:Int},iY (Z4 lA lc A cap g).agY a b->a=1->b=2:=by
   intro a b C;induction C with
   |one h1=>intro e;rw [e,s1]at h1;exact aN.1 h1
   |tail _ k ih=>intro e;rw [ih e,s2]at k;cases k
  rcases f with rfl|rfl
  .exact absurd (all C rfl) lG
  exact acQ s2 C
 exact of_decide_eq_true lB
theorem afQ(lA:Option aD)(lc:Nat)(A:Option aD)(cap g:Nat)(w:ax)(h:(Z4 lA lc A cap g).At w): kU (Z4 lA lc A cap g):=by refine⟨aah _ _ _ _ _,acf _ _ _ _ _,h.agY.short (of_decide_eq_true lB),λl i=>?_,zY h (aah _ _ _ _ _) (acf _ _ _ _ _)⟩;obtain⟨k,d⟩:=bu.1 i;exact (h.agY.2 k l d).1.ag0.1
theorem aeW(lA:Option aD)(lc:Nat)(A:Option aD)(cap g:Nat): iJ (Z4 lA lc A cap g) ap 2=ao ⟨3,4,4,5⟩:=lB
theorem abP(g:Nat): (abr g).Tidy:=by
 refine⟨λs n=>absurd n aW,of_decide_eq_true lB,of_decide_eq_true lB,of_decide_eq_true lB,?_,?_,⟨jK,rfl,rfl⟩,?_⟩
 .show [(1:Int)].Pairwise (· < ·);decide
 .intro x a;have a:x∈[(1:Int)]:=a;have:x=1:=by simpa using a
  show 1<=x/\x<2;omega
 intro l i;have i:l∈[jK]:=i;rw [aN.1 i];exact ML _ (Int.natCast_nonneg _)
theorem adG(g:Nat): (abr g).Ok:=by
 have a:∀{k:Nat} {l:bI},(abr g).agY[k]?=ao l->l=jK:=λh=>by have e:=aH h;have e:_∈[jK]:=e;exact aN.1 e
 refine⟨λk l h=>?_,λk l h=>?_,λk l h b=>?_,λk y h C=>?_,?_⟩
 .rw [a h];kernel_rfl
 .rw [a h];kernel_rfl
 .rw [a h]at b;exact absurd b (of_decide_eq_false lB)
 .have e:=aH h;have e:y∈[(1:Int)]:=e;rw [aN.1 e]at C;exact acQ lB C
 exact of_decide_eq_true lB
theorem aea(g:Nat): Yx (abr g) ap 1 ⟨0,0,9,9⟩=[]:=lB
