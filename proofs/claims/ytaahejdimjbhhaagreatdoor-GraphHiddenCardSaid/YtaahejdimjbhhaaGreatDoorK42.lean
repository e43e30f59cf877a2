import Derived.Test.YtaahejdimjbhhaaGreatDoorK25
import Derived.Test.YtaahejdimjbhhaaGreatDoorK41
set_option maxRecDepth 100000
set_option maxHeartbeats 0
set_option linter.all false
namespace Go.Proofs.YtaahejdimjbhhaaGreatDoor
open Tryz Go.RowKit Go.Den
open Go.Value renaming slice->c1,pointer->c2,bool->c3,int->c4,agg->c5
open Option renaming none->e2,some->fa
open Go.Obj renaming cells->fd
open Go renaming World->fe,heap_alloc_new->ff,Value->fg,run_loadAt_mid->fh
open Bool renaming true->fj,false->fl
section
open Go.RowKit Go.Den Go.Shelf
theorem Kc.of_turn{W d:fe}(T:bH [] W d): Kc W d:=⟨T.size,λk o h _=>(T.old k (ae.1 h).1 lz).t h⟩
theorem wP{W d:fe}(B:Nat)(T:bH [] W d): KeepsFrom B W d:=⟨T.size,λk o _ h _=>(T.old k (ae.1 h).1 lz).t h⟩
theorem bH.below{W d:fe}(T:bH [] W d): Below W.heap.size W d:=⟨T.os,T.tape,T.output,T.size,λk a=>T.old k a lz⟩
theorem vT{W d:fe}(T:Below W.heap.size W d): bH [] W d:=⟨T.size,λk a _=>T.block k a,T.os,T.tape,T.output⟩
theorem wL{g:Operand}{ps:Array Tmp}{assign body:Code}{Q:Exit->Act->fe->Prop}{a:Act}{w:fe}{c:Nat}{j:Int×Int->Nat->Act}
  (r:Rc) (J:r.empty=fl) (O:-1048576<=r.x0/\r.x0<=1048576) (P:-1048576<=r.y0/\r.y0<=1048576) (R:-1048576<=r.x1/\r.x1<=1048576) (S:-1048576<=r.y1/\r.y1<=1048576)
  (H:w.heap[c]?=fa (fd #[r.x0,r.y0,r.x1,r.y1] 59 (0,0)))
  (q:a.eval g=.func (.func 109) #[] #[c2 (fa ⟨c,0,e2⟩)]) (M:ps.size=1)
  (F:∀(l:Nat) (x:Int×Int) (W:fe) (K:Act->fe->Prop),(∀b d,bH [] W d->d.heap[b]?=fa (fd #[x.1,x.2] 24 (0,0))->K (j x b) d)->
   assign.wpIn (Fence.wide.inRound l) (9-1-1) prog (Exit.then K (λ_ _ _=>False)) { tmps:=(ps.zip #[Y8 x.1 x.2]).foldl (λt (p,v)=>t.setIfInBounds p v) a.tmps,defers:=[] } W)
  (G:∀(l:Nat) (x:Int×Int) (b:Nat) (W:fe),bH [] w W->W.heap[b]?=fa (fd #[x.1,x.2] 24 (0,0))->
   body.wpIn (Fence.wide.inRound l) (9-1-1) prog (λe _ d=>e=.normal/\bH [] W d) (j x b) W)
  (I:∀(D:Nat) (W:fe),bH [] w W->w.heap.size<=D->W.heap[D]?=fa (.deferred (fa []))->Q .normal { a with defers:={ target:=.collected D,args:=#[] } :: a.defers } W) :
  (Code.rangeFunc g ps assign body).wp prog Q a w:=by
 refine (wpIn_wide (n:=9)).1 (wpIn_rangeFunc_ownH rfl lG (gf:=109) (lb:=#[c2 (fa ⟨c,0,e2⟩)]) q trivial (enters_of func109 lB rfl)
  (vV 8 r J O P R S c w H) xR (λW l o U _ z L _=>⟨lz,λk V s f=>?_⟩) (Below.refl _ _) (λ_=>M.symm)
  (λ_ W=>Below w.heap.size w W) (λ_ _ _=>False) (ownFrom_below (aQ _) (aQ _)) (λ_ _ _ _ _ u _ _=>u) (Below.refl _ _)
  (λx i W=>∃b,W.heap[b]?=fa (fd #[x.1,x.2] 24 (0,0))/\i=j x b)
  (λx i _ X Y a0 u q N=>?_) ?assign ?body ?done ?stop)
 .rw [World.putObj_heap_other (λe=>by subst e;rw [z]at s;cases s;rw [L]at f;cases f)];exact s
 .obtain⟨b,f,B⟩:=u;exact⟨b,(q.block b (ae.1 f).1 (λe=>by obtain⟨_,o,y,C⟩:=N b e.symm;rw [f]at y;cases y;cases C)).t f,B⟩
 case assign=>
  intro l pre x W K Z m;exact F l x W K λb d T h=>m _ _ (wP _ T) (.of_turn T) ((vT Z).t T).below ⟨b,h,rfl⟩
 case body=>
  rintro l pre x i W z _ Z ⟨b,h,rfl⟩ _;refine wpIn_mono (G l x b W (vT Z) h) ?_;rintro e a d ⟨rfl,T⟩;exact⟨wP _ T,.of_turn T,((vT Z).t T).below⟩
 case done=>exact λD xs W E _ Z m=>I D W (vT Z) E m
 exact λD c pre W _ _ h _=>h.elim
end
section
structure wO(X:fe)(c:Nat)(F:Bool)(r:List Int)(z:Int)(v:fg)(q:Nat)(Y:fe): Prop where
 h:bH [] X Y
 o:Il Y X.heap.size v r
 f:F=fj->Y.heap[q]?=fa (fd #[z] 3 (0,0))/\q∉dI v
section
variable {X Y:fe} {c:Nat} {F:Bool} {r:List Int} {z:Int} {v:fg} {q:Nat}
theorem wO.s56(H:wO X 0 F [] z v q Y): wO X 1 F [] z (c1 (fa ⟨Y,0,e2⟩) 0 0) q (Y.alloc (fd #[] 3)):=by
 refine⟨H.h.a _,(mg Y).base H.h.size,λe=>⟨dA (H.f e).1,λb=>?_⟩⟩;have h:=(ae.1 (H.f e).1).1;have b:q=Y.heap.size:=by simpa [dI,Value.ownBlock]using b
 omega
theorem wO.s66(H:wO X c F r z v q Y): wO X c fj r z v Y.heap.size (Y.alloc (fd #[z] 3)):=
 ⟨H.h.a _,H.o.u ((tR Y).a _),λ_=>⟨ff _ _,λe=>absurd (H.o.lt _ e).2.1 (Nat.lt_irrefl _)⟩⟩
theorem wO.s63(H:wO X 1 F [] z v q Y){A:Option Addr}{n cap:Nat}{ks:List Int}(m:dn Y A n ks)(G:n<=50): ∃d Z,(Builtin.append_ #[22,22] 22 #[v,c1 A n cap]).run prog Y=.ok d Z/\wO X 2 F ks z d q Z:=by
 obtain⟨d,Z,l,a,N,C⟩:=iQ H.o m (cap:=cap) H.h.size lO 22;refine⟨d,Z,l,kN H.h N H.o (aQ _),a,λe=>?_⟩;have i:=(ae.1 (H.f e).1).1;refine⟨(N.old _ i (H.f e).2).t (H.f e).1,λb=>?_⟩;rcases C q b with h|h
 .exact (H.f e).2 h
 omega
theorem wO.s67(H:wO X 2 fj r z v q Y)(b:r.length<=50): ∃d Z,(Builtin.append_ #[22,22] 22 #[v,c1 (fa ⟨q,0,e2⟩) 1 1]).run prog Y=.ok d Z/\Il Z X.heap.size d (r++[z])/\bH [] X Z:=by
 have m:dn Y (fa ⟨q,0,e2⟩) 1 [z]:=⟨rfl,λj k=>⟨_,_,rfl,by
  rw [aA _ _ _ _ _ _ (H.f rfl).1,Nat.zero_add];match j,k with
  |0,_=>rfl⟩⟩
 obtain⟨d,Z,l,a,N,C⟩:=iQ H.o m (cap:=1) H.h.size gn 22;exact⟨d,Z,l,a,kN H.h N H.o (aQ _)⟩
theorem wF(c:Nat)(F:Bool)(r:List Int)(z:Int){p:fg->fg->Nat->fe->Prop}{g:Prop}(k:(∀v u q Y,wO X c F r z v q Y->p v u q Y)->g)(h:∀v u q Y,wO X c F r z v q Y->p v u q Y): g:=k h
end
end
section
open Go.RowKit Go.Den Go.Shelf
attribute [local go_sem] Oper.semAt_some
theorem vG(r:Rc)(w:fe): Calls prog 49 #[r.v] w λe w'=>e=.returned (.func (.func 109) #[] #[c2 (fa ⟨w,0,e2⟩)])/\w'=w.alloc (fd #[r.x0,r.y0,r.x1,r.y1] 59):=by
 unfold Rc.v;go_enter func49,ntmps49;go_wp2;go_ret;exact⟨rfl,rfl⟩
theorem wJ{b d:df}(A:kU b)(B:kU d)(ca:E5 b e2)(cb:E5 d e2){la lb:bI}(a2:dh b.agY b.root=fa la)(a3:dh d.agY d.root=fa lb)
  (hk:∀r,Zf Jd d.agY d.ag2 3000 lb r=Zf Jd b.agY b.ag2 3000 la r) (w:fe) (ha:b.At w) (hb:d.At w) (hG:YQ w) :
  CR 18 #[b.v,d.v,c5 #[(-16:Int),(-16:Int),(24:Int),(24:Int)]] w (c1 e2 0 0):=by
 obtain⟨W,y⟩:=eX (((w.alloc (fd #[c1 b.sA b.sn b.sc,b.root,b.next,c1 b.lA b.ln b.lc] 29)).alloc (fd #[c1 d.sA d.sn d.sc,d.root,d.next,c1 d.lA d.ln d.lc] 29)).alloc (fd #[(-16:Int),(-16:Int),(24:Int),(24:Int)] 59));have i:bH [] w W:=by rw [y];exact (((tR w).a _).a _).a _
 have x0:=dJ y;have x1:=Z5 y;have x2:=Zi y;obtain⟨c7,ao,b6⟩:=lh3 (Oq b e2 b.root W (ha.u i) ca A.thin) (λu (t:bH [] W u)=>Oq d e2 d.root u (hb.u (i.t t)) cb B.thin) (λm (hm:la.Like m) r u (t:bH [] W u) (h:m.At u)=>ad7 A b.root la a2 m hm r u (ha.u (i.t t)) (hG.u (i.t t)) h);have b2:=lh (λm (hm:lb.Like m) r u (t:bH [] W u) (h:m.At u)=>(ad7 B d.root lb a3 m hm r u (hb.u (i.t t)) (hG.u (i.t t)) h).mono λe w' h=>by rw [hk r]at h;exact h);have gD:Hid (iJ b e2 b.root≠e2):=lh (by unfold iJ;rw [a2];nofun);have gE:Hid (iJ d e2 d.root≠e2):=lh (by unfold iJ;rw [a3];nofun);obtain⟨ar,bB,a5,ap,av,am,ab,HW⟩:=lh8 a2 a3 x0 x1 x2 i gI y;clear x0 x1 x2 i ha hb hG A B ca cb a2 a3 hk y;have aw:b.v=c5 #[c1 b.sA b.sn b.sc,b.root,b.next,c1 b.lA b.ln b.lc]:=rfl;have b3:d.v=c5 #[c1 d.sA d.sn d.sc,d.root,d.next,c1 d.lA d.ln d.lc]:=rfl;rw [aw,b3];clear aw b3;refine callsIn_wide.1 (callsIn_of_wp_marks (n:=9) func18 rfl trivial (wpIn_wide.2 ?_));simp only [ntmps18,List.size_toArray,List.length_cons,List.length_nil,Nat.reduceAdd,Nat.reduceSub,Array.replicate_succ,Array.replicate_zero,List.push_toArray,List.append_toArray,List.nil_append,List.cons_append];go_upto_region 1 with fail
 rw [<-HW.o];clear HW;have r1:W.cell? ⟨w,1,e2⟩=fa (c4 .i64 b.root):=bK a5.o rfl;go_upto_region 2 with (first
  |(refine lR 16 (YI a5.o) ?_)
  |(go_at_call 31;refine c7.o.mono ?_;rintro e w1 ⟨⟨g,m,bb,rfl,a7,a8⟩,aR⟩;have p:=lh (bg a7 a8);have M:=lh aR;clear a7 a8 aR;unfold bI.v df.v)
  |(refine yR 8 (di (t:=51) rfl (ab.o _)) ?_)
  |(refine sR (WV w1 _ m _ (aI _ _)) ?_))
 try simp only [aI]
 cases bb with
 |false=>exact absurd (p.o.2 rfl) gD.o
 |true=>
 obtain⟨_,rfl,⟨l1,cG,U⟩,a0⟩:=p.o.1 rfl;rw [ar.o]at cG;cases cG;obtain⟨V,R⟩:=eX ((w1.alloc (fd #[c1 g.sA g.sn g.sc,g.root,g.next,c1 g.lA g.ln g.lc] 94)).alloc (fd ⟨m.row⟩ 51));have aq:bH [] w1 V:=by rw [R];exact ((tR w1).a _).a _
 have O:=fU R;have Q:=ZH R;rw [<-R];have bs:=lh (a0.u aq).now;have b8:=lh U;have a4:=lh (M.o.t aq);have H7:=lh O;have H8:=lh Q;have a6:=lh (a4.o.ox ap.o);clear R a0 U O Q aq p M c7 gD ar r1;have r1:V.cell? ⟨w+1,1,e2⟩=fa (c4 .i64 d.root):=bK a6.o rfl;generalize w1.heap.size=b7 at *;go_upto_region 3 with (first
  |(refine lR 24 (YI a6.o) ?_)
  |(go_at_call 31;refine (ao.o _ a4.o).mono ?_;rintro e w2 ⟨⟨E,n,bb,rfl,a7,a8⟩,aR⟩;have p:=lh (bg a7 a8);have M:=lh aR;clear a7 a8 aR;unfold bI.v df.v)
  |(refine yR 11 (di (t:=51) rfl (ab.o _)) ?_)
  |(refine sR (WV w2 _ n _ (aI _ _)) ?_))
 try simp only [aI]
 cases bb with
 |false=>exact absurd (p.o.2 rfl) gE.o
 |true=>
 obtain⟨_,rfl,⟨l1,cG,U⟩,a0⟩:=p.o.1 rfl;rw [bB.o]at cG;cases cG;obtain⟨Y,S⟩:=eX ((w2.alloc (fd #[c1 E.sA E.sn E.sc,E.root,E.next,c1 E.lA E.ln E.lc] 94)).alloc (fd ⟨n.row⟩ 51));have aq:bH [] w2 Y:=by rw [S];exact ((tR w2).a _).a _
 have O:=fU S;have Q:=ZH S;rw [<-S];have ba:=lh (a0.u aq).now;obtain⟨b9,T,aM,ay⟩:=lh4 U (M.o.t aq) O Q;clear S a0 U O Q aq p M ao gE bB r1 a6 a5 ap;have ax:=a4.o.t T.o;have af:=lh (ax.ox av.o);clear ax;have z:Y.cell? ⟨w+1+1,0,e2⟩=fa (c4 .i64 (-16)):=bK af.o rfl;have C:Y.cell? ⟨w+1+1,1,e2⟩=fa (c4 .i64 (-16)):=bK af.o rfl;have F:Y.cell? ⟨w+1+1,2,e2⟩=fa (c4 .i64 24):=bK af.o rfl;have G:Y.cell? ⟨w+1+1,3,e2⟩=fa (c4 .i64 24):=bK af.o rfl;generalize w2.heap.size=bd at *;have q0:=z;have q:=C;have q2:=F;have q3:=G;have an:=lh (λu=>IK ⟨-16,-16,24,24⟩ ⟨lG,lG,lG,lG,lG,lG⟩ u);go_upto_region 5 with (go_at_call 48;refine (an.o _).mono ?_;rintro e w3 ⟨rfl,H⟩;replace z:=((bY H).1 _ _ (ai z)).t z;replace C:=((bY H).1 _ _ (ai C)).t C;replace F:=((bY H).1 _ _ (ai F)).t F;replace G:=((bY H).1 _ _ (ai G)).t G)
 obtain⟨X,hX⟩:=eX (w3.alloc (fd #[c1 e2 0 0] 63));have s:bH [] Y X:=by rw [hX];exact H.a _
 have hO:=YE hX
 go_upto_region 6 with fail
 rw [<-hX];clear hX af av;generalize w3.heap.size=cF at *;replace z:X.cell? ⟨w+1+1,0,e2⟩=fa (c4 .i64 (-16)):=((bY s).1 _ _ (ai q0)).t q0;replace C:X.cell? ⟨w+1+1,1,e2⟩=fa (c4 .i64 (-16)):=((bY s).1 _ _ (ai q)).t q;replace F:X.cell? ⟨w+1+1,2,e2⟩=fa (c4 .i64 24):=((bY s).1 _ _ (ai q2)).t q2;replace G:X.cell? ⟨w+1+1,3,e2⟩=fa (c4 .i64 24):=((bY s).1 _ _ (ai q3)).t q3;clear q0 q q2 q3;obtain⟨bc,a1,HO⟩:=lh3 (T.o.t s) s hO;clear s hO H;have bR:=lh (λu=>vG ⟨-16,-16,24,24⟩ u);have HC:=lh (ff X (fd #[(-16:Int),(-16:Int),(24:Int),(24:Int)] 59));go_wp2_with (go_at_call 49;refine (bR.o _).mono ?_;rintro e w4 ⟨rfl,rfl⟩)
 obtain⟨X6,ih⟩:=eX (X.alloc (fd #[(-16:Int),(-16:Int),(24:Int),(24:Int)] 59));have t6:bH [] X X6:=by rw [ih];exact (tR X).a _
 rw [<-ih]at HC;rw [<-ih];clear ih bR z C F G an;generalize X.heap.size=b1 at *;have N:=lh t6;have HH:=lh (bg HC.o HO.o);apply wL (c:=b1) ⟨-16,-16,24,24⟩ lG ⟨lG,lG⟩ ⟨lG,lG⟩ ⟨lG,lG⟩ ⟨lG,lG⟩ HC.o rfl rfl
 .intro l x P K hK;simp only [Y8];gi_wp2;have tz:=(tR P).alloc (fd #[x.1,x.2] 24);have hz:=ff P (fd #[x.1,x.2] 24);generalize P.alloc (fd #[x.1,x.2] 24)=Z,P.heap.size=bm at *;exact hK bm Z tz hz
 .intro l x bm P I h5;gi_wp2;have J:=T.o.t (a1.o.t (N.o.t I));have tY:=a1.o.t (N.o.t I);have a9:=J.ox H7.o;have aa:=J.ox H8.o;have ac:=tY.ox aM.o;have bj:=tY.ox ay.o;obtain⟨aD,aE,aL,b0,HP,b4,b5,ad⟩:=lh8 a9 aa ac bj h5 (λu (t:bH [] P u)=>b6.o m b8.o (ZJ x.1 x.2) u (a4.o.t (J.t t)) (bs.o.u (J.t t))) (λu (t:bH [] P u)=>b2.o n b9.o (ZJ x.1 x.2) u (a4.o.t (J.t t)) (ba.o.u (tY.t t))) (λu=>acs x.1 x.2 u);generalize ZJ x.1 x.2=rf at *;generalize x.1=px,x.2=py at *;clear J tY a9 aa ac bj h5;refine cu.round (λw'=>bH [] P w') 10 (fun⟨_,_,h⟩=>by have h1:Exit.outgrown=Exit.normal:=h.1;cases h1) lB rfl ?_;have k:bH [] P P.drew:=(tR P).drawn 1;generalize P.drew=Z at *;refine Xz 0 (g.v) (λw' f=>XP (f.ox aD.o)) ?_;refine Xz 1 (m.v) (λw' f=>XU (f.ox aE.o)) ?_;refine Xz 2 (Y8 px py) (λw' f=>YC (f.ox HP.o)) ?_;refine Xz 5 (E.v) (λw' f=>XP (f.ox aL.o)) ?_;refine Xz 6 (n.v) (λw' f=>XU (f.ox b0.o)) ?_;refine Xz 7 (Y8 px py) (λw' f=>YC (f.ox HP.o)) ?_;refine PR 3 (ad.o _) λq k _=>?_
  refine PR 4 (b4.o _ k) λq k _=>?_
  refine PR 8 (ad.o _) λq k _=>?_
  refine PR 9 (b5.o _ k) λq k _=>?_
  refine eH 10 (λK hK=>?_);go_simp;refine gZ hK ?_;clear hK K
  refine Wy ?_;have HS:=lh k;clear k;gi_wp2;exact HS.o
 intro D P I hD h5;have be:P.cell? ⟨cF,0,e2⟩=fa (c1 e2 0 0):=bK ((N.o.t I).ox HO.o) rfl;have bf:=aK (am.o.t (a4.o.t (T.o.t (a1.o.t N.o)))).size hD;have L:=lh (am.o.t (a4.o.t (T.o.t (a1.o.t (N.o.t I)))));clear I;go_wp2_with fail
 refine⟨lz,.inl ⟨_,_,rfl,run_takeDeferred h5,?_⟩⟩;exact⟨_,results_tmp rfl _ _ _,rfl,⟨by simpa using L.o.size,λj hj hn=>(World.putObj_heap_other gn).t (L.o.old j hj hn),L.o.os,L.o.tape,L.o.output⟩⟩
end
theorem abf(u:fe)(a b:Int): (Instr.build 24 #[(0,a),(1,b)]).run prog u=.ok (c5 #[a,b]) u:=lB
theorem xE{u:fe}{b:Nat}{a I c k q s A B:Int}(h:u.heap[b]?=fa (fd #[a,I,c,k,q,s,A,B] 66 (0,0))): (Instr.loadAt 66 (c2 (fa ⟨b,0,e2⟩))).run prog u=.ok (c5 #[a,I,c,k,q,s,A,B]) u:=
 fh u b 0 66 [a,I,c,k,q,s,A,B] _ (gp h rfl) underlying66 rfl lB
theorem wZ{u:fe}{b:Nat}{x0 y0 x1 y1:Int}(h:u.heap[b]?=fa (fd #[x0,y0,x1,y1] 59 (0,0))): (Instr.loadAt 59 (c2 (fa ⟨b,0,e2⟩))).run prog u=.ok (c5 #[x0,y0,x1,y1]) u:=
 fh u b 0 59 [x0,y0,x1,y1] _ (gp h rfl) underlying59 rfl lB
def xU(Z X wx:fe)(Q a b c:Nat)(d:df)(x0:bI)(i:Nat): Prop:=∃(y:bI) (l:Option Addr) (n m:Nat),X.heap.size<=wx.heap.size/\(y=x0/\i=0\/0<i/\y=x0.Xn l n m (x0.ag0++[d.next])/\Il wx X.heap.size (c1 l n m) (x0.ag0++[d.next]))/\JM Z wx Q d.sA d.sn d.sc (d.next+1) (fa ⟨a,b,e2⟩) d.ln c ((d.agY.set 0 y).map bI.row)
theorem wI(A:Option Addr)(n cap:Nat)(xs:List Int)(l0 l1 l2 l3 l4 l5 l6 l7 m:Int)(w:fe)(hx:dn w A n xs)(hG:YQ w):
  CR 6 #[c1 A n cap,c5 #[l0,l1,l2,l3,l4,l5,l6,l7],m] w (c3 fj):=by
 have HX:=lh hx;have HG:=lh hG;clear hx hG;obtain⟨W0,be⟩:=eX (w.alloc (fd #[l0,l1,l2,l3,l4,l5,l6,l7] 66));have T0:bH [] w W0:=by rw [be];exact (tR w).a _
 have h5:=YE be
 obtain⟨cH,cm,cQ⟩:=lh3 T0 h5 be;clear T0 h5 be;go_enter func6,ntmps6;go_upto_region 1 with fail
 rw [<-cQ.o];clear cQ;go_upto_region 2 with (go_at_call 7;refine mR (JS _) λw1 t1=>?_)
 have T1:bH [] w w1:=cH.o.t t1;have cn:=lh (t1.ox cm.o);have HM:=lh ((OJ A n cap xs 5 lG w1 (HX.o.u T1)).mono λe w' hh=>(show (∃d:df,d.At w'/\Ny d 5/\e=.returned (c5 #[c1 d.sA d.sn d.sc,d.root,d.next,c1 d.lA d.ln d.lc]))/\bH [] w1 w' from hh));have cI:=lh T1;clear t1 T1 HX cH cm;go_upto_region 3 with (go_at_call 8;refine HM.o.mono ?_;rintro e w2 ⟨⟨d,hd,dq,rfl⟩,t2⟩)
 have D:=lh dq;obtain⟨W3,bj⟩:=eX (w2.alloc (fd #[c1 d.sA d.sn d.sc,d.root,d.next,c1 d.lA d.ln d.lc] 29));have t3:bH [] w2 W3:=by rw [bj];exact (tR w2).a _
 have h8:=YE bj
 rw [<-bj];clear bj;obtain⟨H8,b3,H5,U⟩:=lh4 h8 (cI.o.t (t2.t t3)) ((t2.t t3).ox cn.o) (hd.u t3);clear hd dq t2 t3 h8 cI HM cn;generalize w2.heap.size=b8 at *;have cB:=lh (Nb l0 l1 l2 l3 l4 l5 l6 l7 W3);have cp:=lh gI;go_upto_region 4 with (first
  |(refine yR 21 (dw (p:=c2 (fa ⟨w,0,e2⟩)) rfl rfl (xE H5.o)) ?_)
  |(go_at_call 20;refine cB.o.mono ?_;rintro e w3 ⟨⟨l,de,dg,dj,rfl⟩,t4⟩;have HL:=lh (bg de (bg dg dj));have c6:=lh t4;clear de dg dj t4;unfold bI.v)
  |(refine yR 9 (di (t:=51) rfl (cp.o _)) ?_)
  |(refine sR (gX w3 l) ?_))
 have tz:=(tR w3).alloc (fd ⟨l.row⟩ 51);have e5:gG [w3.heap.size] (w3.alloc (fd ⟨l.row⟩ 51)) (λu=>l.At u):=AC tz (λb hb=>td) λu hu=>HL.o.2.1.at_.keep hu;have hP:ND W3 (w3.alloc (fd ⟨l.row⟩ 51)) w3.heap.size l:=⟨c6.o.t tz,ff _ _,e5,HL.o.2.1.frl (aQ _),HL.o.2.2.1,c6.o.size⟩;have cM:=lh HL.o.1;clear e5 tz HL c6 cB cp;generalize w3.alloc (fd ⟨l.row⟩ 51)=Z,w3.heap.size=b9 at *;have HP:=lh hP;have y3:=cP 3 (c3 l.ag3) hP.h7;have yf:=dD hP.h7 3;clear hP;go_upto_region 5 with fail
 have d1:ND W3 (Z.setCell ⟨b9,3,e2⟩ (c3 fj)) b9 { l with ag3:=fj }:=HP.o.cell rfl (λu h=>⟨h.ag0,h.ks,h.cs,h.pts,h.Xm,h.mask,h.Xk⟩) ⟨HP.o.fr.fi,HP.o.fr.fk,HP.o.fr.fc,HP.o.fr.fp⟩ HP.o.kz;have an:=lh d1;clear y3 yf HP d1;generalize Z.setCell ⟨b9,3,e2⟩ (c3 fj)=Z1 at *;have cY:=an.o.t.ox H8.o;have r2:=cP 2 d.next cY;have y0:=cP 0 l.id an.o.h7;have yf:=dD an.o.h7 0;clear cY;go_upto_region 6 with fail
 have d2:ND W3 (Z1.setCell ⟨b9,0,e2⟩ d.next) b9 { l with ag3:=fj,id:=d.next }:=an.o.cell rfl (λu h=>⟨h.ag0,h.ks,h.cs,h.pts,h.Xm,h.mask,h.Xk⟩) ⟨an.o.fr.fi,an.o.fr.fk,an.o.fr.fc,an.o.fr.fp⟩ an.o.kz;have a6:=lh d2;clear y0 yf r2 an d2;generalize Z1.setCell ⟨b9,0,e2⟩ d.next=O at *;have aw:Hid (({ l with ag3:=fj,id:=d.next }:bI).Tidy d.sn):=lh (have h:=cM.o;{ h with space:=⟨h.space.1,by have:=h.space.2;show l.space<=_;omega⟩ });have b5:Hid (({ l with ag3:=fj,id:=d.next }:bI).id=d.next/\({ l with ag3:=fj,id:=d.next }:bI).ag3=fj):=lh ⟨rfl,rfl⟩;generalize ({ l with ag3:=fj,id:=d.next }:bI)=x at *;clear cM;have bS:=lh (a6.o.t.ox H8.o);go_upto_region 7 with ((with_reducible refine yA 27 (c5 #[c1 d.sA d.sn d.sc,d.root,d.next,c1 d.lA d.ln d.lc]) O ?_ ?_);(next=>exact dw (p:=c2 (fa ⟨b8,0,e2⟩)) rfl rfl (YI bS.o));try go_frame)
 obtain⟨W6,bk⟩:=eX (O.alloc (fd #[c1 d.sA d.sn d.sc,d.root,d.next,c1 d.lA d.ln d.lc] 29));have t6:bH [] O W6:=by rw [bk];exact (tR O).a _
 have ac:=YE bk
 rw [<-bk];clear bk;have eK:O.heap.size<W6.heap.size:=(ae.1 ac).1;have co:=lh (t6.ox bS.o);have r2:=cP 2 d.next co.o;have y2:=cP 2 d.next ac;have yf:=dD ac 2;have eN:=D.o.next;have eM:=D.o.tidy.next;have eR:wrap64 (d.next+1)=d.next+1:=fC _ gn gn;go_upto_region 8 with fail
 have t7:bH [] O (W6.setCell ⟨O,2,e2⟩ (c4 .i64 (d.next+1))):=t6.setCell _ (.inr (aQ _));have c8:(W6.setCell ⟨O,2,e2⟩ (c4 .i64 (d.next+1))).heap[O.heap.size]?=fa (fd #[c1 d.sA d.sn d.sc,d.root,(d.next+1:Int),c1 d.lA d.ln d.lc] 29 (0,0)):=dU (L:=[c1 d.sA d.sn d.sc,d.root,d.next,c1 d.lA d.ln d.lc]) ac rfl;clear r2 y2 yf eN eM eR ac t6 co;generalize a8:O.heap.size=s at *;generalize W6.setCell ⟨s,2,e2⟩ (c4 .i64 (d.next+1))=V at *;have bc:s<V.heap.size:=(ae.1 c8).1;have b7:=U.o.u (a6.o.t.t t7);have cc:=b7.agY.1;have e0:=b7.small;have du:0<d.ln:=by
  obtain⟨r,hr,_⟩:=D.o.tidy.root;rcases Nat.eq_zero_or_pos d.ln with e|e
  .have:d.agY=[]:=List.length_eq_zero_iff.1 gn;rw [this]at hr;cases hr
  exact e
 obtain⟨gl,ol,dl,dx⟩:=b7.agY.cell gn;have TA:bH [] _ _:=(tR V).alloc (fd #[] 51);have ey:∃A' n' G W8,(Builtin.append_ #[27,27] 27 #[c1 (fa ⟨V,0,e2⟩) 0 0,c1 d.lA d.ln d.lc]).run prog (V.alloc (fd #[] 51))=.ok (c1 A' n' G) W8/\iK jS W8 V.heap.size (c1 A' n' G) (d.agY.map bI.row)/\bH [] V W8:=by
  obtain⟨v',w',e1,P,e3,e4⟩:=zH (k:=jS) (t:=27) (news:=d.agY.map bI.row) underlying27 (lQ jS V) gl ol d.lc d.ln (by rw [aJ];exact cc) (λr hr=>by
   obtain⟨x,_,rfl⟩:=List.mem_map.1 hr;exact kT x) (λj r hj=>by
   rw [aP]at hj;cases hx:d.agY[j]? with
   |none=>rw [hx]at hj;cases hj
   |some x=>
    rw [hx]at hj;injection hj with hj;subst hj;exact (dx _ TA j x hx).2) lz lO 27
  rw [<-dl]at e1;obtain⟨A',n',G,rfl⟩:∃A n c,v'=c1 A n c:=by rcases iK.form P with ⟨e,_⟩|⟨_,_,_,e,_⟩<;>exact⟨_,_,_,e⟩
  exact⟨A',n',G,w',e1,by simpa using P,fH TA e3 (λq B=>by rw [show q=V.heap.size by simpa [dI,Value.ownBlock]using B];exact aQ _)⟩
 obtain⟨A',n',G,W8,e1,P,T8⟩:=ey;have cd:∀q,q<V.heap.size->q∉dI (c1 A' n' G):=λq B R=>by have:=(P.2.lt q R).1;omega
 have b6:=(T8.old s bc lz).t c8;have c9:=b6;rw [D.o.root]at c9;have hN:JM O (W8.setCell ⟨s,3,e2⟩ (c1 A' n' G)) s d.sA d.sn d.sc (d.next+1) A' n' G (d.agY.map bI.row):=
  ⟨(t7.t T8).setCell _ (.inr (Nat.le_of_eq a8)),dU (L:=[c1 d.sA d.sn d.sc,(1:Int),c4 .i64 (d.next+1),c1 d.lA d.ln d.lc]) c9 rfl,iK.kept (iK.base P gn) ((bH.refl [s] W8).setCell _ (.inl lz)) (λq B R=>by rw [aN]at R;subst R;exact cd _ bc B),cd _ bc,Nat.le_of_eq a8⟩
 have eg:=lh (t7.ox bS.o);have r3:=cO 3 (c1 d.lA d.ln d.lc) (TA.ox eg.o);have z3:=cO 3 (c1 d.lA d.ln d.lc) b6;have zf:=dm b6 3;have ar:=lh e1;have HN:=lh hN;have cr:=lh (λu:fe=>(show (Instr.buildSlice 27 0 #[]).run prog u=.ok (c1 (fa ⟨u,0,e2⟩) 0 0) (u.alloc (fd #[] 51)) by kernel_rfl));have bt:=lh (bg cc (bg e0 du));clear e1 P T8 cd c8 b6 c9 hN b7 cc e0 du dl dx TA t7 bc eK;go_upto_region 9 with (first
  |(refine yR 32 (gm (vs:=#[]) rfl rfl (cr.o _)) ?_)
  |(at_builtin;refine bQ rfl (dL (v:=c1 (fa ⟨V,0,e2⟩) 0 0) (y:=c1 d.lA d.ln d.lc) (.tmp 32) (.tmp 34) 27 rfl rfl rfl ar.o) ?_;try go_frame))
 clear r3 z3 zf ar cr;generalize W8.setCell ⟨s,3,e2⟩ (c1 A' n' G)=X at *;obtain⟨C,ls,bE,bs,d8,dt⟩:=wK D.o;have ce:d.agY[0]?=fa C:=by rw [bE];rfl
 obtain⟨z,N,ex,fR,d6,a9⟩:=HN.o.rowAt ce;subst ex;have eL:n'=d.ln:=fR.t bt.o.1.symm;subst eL;have dz:d.agY.set 0 C=d.agY:=by rw [bE];rfl
 have cF:Hid (xU O X X s z N G d C 0):=lh ⟨C,e2,0,0,aQ _,.inl ⟨rfl,rfl⟩,by rw [dz];exact HN.o⟩;have d5:=HN.o.own.2.lt z mo;have ek:=lh d5.2.1;have ej:=lh (ae.1 HN.o.h11).1;clear d5;obtain⟨a3,aR,av,cD,en⟩:=lh5 ce (bg bs d8) bE dt d6;clear a9 fR dz ce bs d8 bE dt d6;go_wp2_with fail
 go_loopw [11] (λs11 wr=>∃i:Nat,i<=d.ln/\s11=(i:Int)/\xU O X wr s z N G d C i) (λs11 _=>d.ln-(intOf s11).toNat);case atStart=>exact⟨0,Nat.zero_le _,rfl,cF.o⟩
 obtain⟨i,hi,rfl,F⟩:=hrel;obtain⟨y,J,I,M,e6,hy,hN⟩:=F;have cS:=lh e6;clear e6;have T:=lh hN;have bq:=lh hy;have r3:=cO 3 (c1 (fa ⟨z,N,e2⟩) d.ln G) hN.h11;clear hy hN;have eJ:d.ln<=40:=D.o.tidy.ln;by_cases f4:i<d.ln
 .have b1:(i:Int)<(d.ln:Int):=by omega
  clear hi;go_upto_region 12 with fail
  obtain⟨q,B⟩:∃q,(d.agY.set 0 y)[i]?=fa q:=⟨_,aB (by rw [List.length_set];have:=bt.o.1;omega)⟩;obtain⟨_,_,e,cf,cg,a9⟩:=T.out.rowAt B;cases e;clear cf cg;have eO:(q.id==1)=decide (i=0):=by
   rcases bq.out with ⟨rfl,rfl⟩|⟨hp,_,_⟩
   .rw [av.o,List.set_cons_zero]at B;cases B;rw [aR.o.1];rfl
   obtain⟨j,rfl⟩:∃j,i=j+1:=⟨i-1,gn⟩;rw [av.o,List.set_cons_zero,List.getElem?_cons_succ]at B;simpa using cD.o q (aH B)
  have K3:=lh (λu (t:bH [] wr u)=>cO 3 (c1 (fa ⟨z,N,e2⟩) d.ln G) (t.ox T.out.h11));have K1:=lh (λu (t:bH [] wr u)=>cO 1 (1:Int) (t.ox T.out.h11));have KI:Hid (∀u,bH [] wr u->u.cell? ⟨z,N+i*31,e2⟩=fa (c4 .i64 q.id)):=lh λu t=>by simpa using a9 u t 0 q.id rfl
  clear a9 B;have b0:(0:Int)<=(i:Int):=gn
  generalize q.id=qi,d3:decide (i=0)=bb at *;have cq:=lh d3;clear d3 r3;go_cut [52] (λs52 wx=>s52=c3 bb/\bH [] wr wx);case first=>
   refine sN 8 (tR wr) λY F=>?_;refine fK 0 ?_;refine Xy 1 (c1 (fa ⟨z,N,e2⟩) d.ln G) (λw' f=>K3.out w' f) ?_;refine fE 2 (i:Int) ?_;refine fK 3 ?_;refine fK 4 ?_;refine Xy 5 qi (λw' f=>KI.out w' f) ?_;refine fK 6 ?_;refine Xy 7 (1:Int) (λw' f=>K1.out w' f) ?_;refine eH 8 (λK E=>?_);go_simp;refine gZ E ?_;clear E K;refine Wy ?_;have HT:=lh F;clear F;go_wp2;go_meet;exact⟨rfl,HT.o⟩
  obtain⟨rfl,ck⟩:=hcut;have ay:=lh ck;clear ck eO;rcases Nat.eq_zero_or_pos i with bs|bs
  .have eA:bb=fj:=(by rw [<-cq.o];simpa using bs);subst eA;subst bs;(go_upto_region 13 with fail);have eS:y=C:=by
    rcases bq.out with ⟨h,_⟩|⟨h,_⟩
    .exact h
    omega
   subst eS;have af:=T.out.u ay.out;have a5:=a6.o.u af.t;have ax:=U.o.u a5.t;have cb:=ax.kidsAt a3.o;have ca:=(ax.agY.2 0 y a3.o).1.Xk;have dd:y.ag0.length<=50:=(by rw [<-cb.1];exact ca);obtain⟨_,_,e,cf,cg,a9⟩:=af.rowAt (g:=0) (x:=y) (by rw [av.o];rfl);cases e;clear cf cg;have K3:=lh (λu (t:bH [] wc u)=>cO 3 (c1 (fa ⟨z,N,e2⟩) d.ln G) (t.ox af.h11));have K0:=lh (λu (t:bH [] wc u)=>(cO 0 x.id (t.ox a5.h7)));rw [b5.o.1]at K0;have KS:Hid (∀u,bH [] wc u->u.cell? ⟨z,N+15,e2⟩=fa (c1 y.Xi y.Xh y.Xj)):=lh λu t=>a9 u t 15 (c1 y.Xi y.Xh y.Xj) rfl;obtain⟨em,bf,cR,eo,cx⟩:=lh5 (λu (t:bH [] wc u)=>cb.u t) (af.own.2.lt z mo) (aK cS.o ay.out.size) af (bg ca dd);have eh:=lh (λu:fe=>(show (Instr.buildSlice 22 0 #[]).run prog u=.ok (c1 (fa ⟨u,0,e2⟩) 0 0) (u.alloc (fd #[] 3)) by kernel_rfl));have b0:(0:Int)<=0:=Int.le_refl _;clear af a5 ax cb ca dd a9 T aR cD cF;apply wF (X:=wc) 2 fj (y.ag0) d.next;intro ev;apply wF (X:=wc) 1 fj ([]) d.next;intro es;apply wF (X:=wc) 2 fl (y.ag0) d.next;intro et;apply wF (X:=wc) 0 fj ([]) d.next;intro eq;apply wF (X:=wc) 1 fl ([]) d.next;intro er;refine cu.start (λw'=>bH [] wc w') 17 lB ?_;obtain⟨v,u,q,H⟩:∃(v u:fg) (q:Nat),wO wc 0 fl [] d.next v q wc.drew:=⟨c1 e2 0 0,c1 e2 0 0,0,(tR wc).drawn 1,⟨lz,.inl ⟨rfl,rfl⟩⟩,nofun⟩;generalize wc.drew=Y at *;have F:=H.h;refine fK 0 ?_;refine Xy 1 (c1 (fa ⟨z,N,e2⟩) d.ln G) (λw' f=>K3.out w' f) ?_;refine fE 2 (0:Int) ?_;refine fK 4 ?_;refine Xy 5 (c1 (fa ⟨z,N,e2⟩) d.ln G) (λw' f=>K3.out w' f) ?_;refine fE 6 (0:Int) ?_;refine fK 7 ?_;refine fK 8 ?_;refine Xy 9 (c1 y.Xi y.Xh y.Xj) (λw' f=>KS.out w' f) ?_;refine fK 11 ?_;refine Xy 12 d.next (λw' f=>K0.out w' f) ?_;clear F;refine tj 3 13 (λK E=>?_) (λK E=>?_);iterate 11
    first
    |((revert E;intro E);(first
     |(refine bZ (d:=fa 56) rfl (acD (t:=22) rfl (eh.o _)) ?_;replace H:=H.s56;generalize Y.alloc (fd #[] 3)=Z,Value.slice (fa ⟨Y,0,e2⟩) 0 0=p at H ⊢)
     |(refine bZ (d:=fa 66) rfl (dV (t:=22) (x:=.tmp 65) rfl rfl (yZ d.next _)) ?_;replace H:=H.s66;generalize Y.alloc (fd #[d.next] 3)=Z,Y.heap.size=p at H ⊢)
     |(obtain⟨p,Z,a1,H2⟩:=H.s63 (cap:=y.Xj) (em.o _ H.h) cx.o.1;refine bZ (d:=fa 63) rfl (dL (.tmp 56) (.tmp 62) 22 rfl rfl rfl a1) ?_;clear H a1;obtain⟨u,rfl⟩:=eX v;have H:=H2;clear H2));refine E _ _ (λ_=>H.h) ?_;clear E K;(try go_frame);first
     |exact (er _ u _ _ H :)
     |exact (eq _ u _ _ H :)
     |exact (et _ u _ _ H :)
     |exact (es _ u _ _ H :)
     |exact (ev _ u _ _ H :))
    |(intro v u q Y H;first
     |refine cu.two (i:=10) (j:=13) rfl rfl (by decide +kernel) rfl rfl (λK E=>?_) (λK E=>?_)
     |refine cu.one (i:=3) rfl (by decide +kernel) rfl (λK E=>?_)
     |refine cu.one (i:=13) rfl (by decide +kernel) rfl (λK E=>?_)
     |refine cu.one (i:=10) rfl (by decide +kernel) rfl (λK E=>?_))
   intro v u q Y H;obtain⟨v2,Z,e1,P,F⟩:=H.s67 cx.o.2;obtain⟨J,I,M,rfl,eE⟩:=P.ints;refine ty 14 rfl (dL (.tmp 63) (.tmp 66) 22 rfl rfl rfl e1) λK E=>?_;refine gK E F ?_;clear E K e1 H;refine fK 15 ?_;refine fK 16 ?_;have eV:=KS.out Z F;have eW:Z.frozen? ⟨z,N+15,e2⟩=fl:=(by obtain⟨eY,fb⟩:=bf.o.2.2;exact dm ((F.old _ bf.o.2.1 lz).t fb) _);refine eH 17 (λK E=>?_);go_simp;refine gZ E ?_;clear E K;refine Wy ?_;have ad:=eo.o.u F;have dy:(((d.agY.set 0 y).map bI.row).set 0 (y.row.set 15 (c1 J I M)))=((d.agY.set 0 (y.Xn J I M (y.ag0++[d.next]))).map bI.row):=(by rw [av.o];rfl);have ba:JM O (Z.setCell ⟨z,N+15,e2⟩ (c1 J I M)) s d.sA d.sn d.sc (d.next+1) (fa ⟨z,N,e2⟩) d.ln G ((d.agY.set 0 (y.Xn J I M (y.ag0++[d.next]))).map bI.row):=
    ⟨ad.t.setCell _ (.inr bf.o.1),(dG _ z _ _ s (Ne.symm en.o)).t ad.h11,by rw [<-dy];exact vW (k:=jS) (g:=0) (i:=15) ad.own (by rw [av.o];rfl) lG _ rfl,ad.nb,ad.lt⟩
   have d9:Il (Z.setCell ⟨z,N+15,e2⟩ (c1 J I M)) X.heap.size (c1 J I M) (y.ag0++[d.next]):=(P.base cR.o).kept ((bH.refl [z] Z).setCell _ (.inl lz)) (λq B R=>by
    rw [aN]at R;subst R;have h1:=(P.lt q B).1;have h2:=bf.o.2.1;omega)
   have e8:X.heap.size<=(Z.setCell ⟨z,N+15,e2⟩ (c1 J I M)).heap.size:=(by simpa using aK cR.o F.size);have HF:=lh (bg ba (bg d9 e8));clear ad dy ba d9 e8 eV eW F P eE;(go_wp2_with fail);exact⟨⟨1,gn,rfl,y.Xn J I M (y.ag0++[d.next]),J,I,M,HF.o.2.2,.inr ⟨gn,rfl,HF.o.2.1⟩,HF.o.1⟩,by simp only [intOf];omega⟩
  have ez:bb=fl:=by rw [<-cq.o];simpa using (by omega:i≠0)
  subst ez;go_wp2_with fail
  have ba:=T.out.u ay.out;refine⟨⟨i+1,gn,lz,y,J,I,M,aK cS.o ay.out.size,?_,ba⟩,by simp only [intOf];omega⟩;rcases bq.out with ⟨_,h0⟩|⟨_,h1,h2⟩
  .omega
  exact .inr ⟨Nat.succ_pos _,h1,h2.u ay.out⟩
 have b1:¬(i:Int)<(d.ln:Int):=gn
 go_upto_region 14 with fail
 obtain⟨bs,e7,bd⟩:0<i/\y=C.Xn J I M (C.ag0++[d.next])/\Il wr X.heap.size (c1 J I M) (C.ag0++[d.next]):=by
  rcases bq.out with ⟨_,h⟩|h
  .have:=bt.o.2.2;omega
  exact h
 have hT:=T.out.t;have a5:=a6.o.u hT;have ax:=U.o.u a5.t;have bP:=T.out.own;rw [List.map_set,e7]at bP;have dp:=XU a5.h7;have eC:=T.out.own.2.lt z mo;have dT:=nG (k:=jS) (t:=27) underlying27 (kT x) wr;obtain⟨kB,X8,e1,P,e3,e4⟩:=kV (k:=jS) (t:=27) underlying27 bP (kT x) hT.size (by simp;have:=bt.o.1;omega) 27;obtain⟨a0,kl,W,rfl⟩:∃A n c,kB=c1 A n c:=by rcases iK.form P with ⟨e,_⟩|⟨_,_,_,e,_⟩<;>exact⟨_,_,_,e⟩
 have j8:kl=d.ln+1:=by have:=(iK.rowsAt P).2;rw [this];simp [bt.o.1]
 subst j8;have a8:=(e3.old s (ae.1 T.out.h11).1 T.out.nb).t T.out.h11;have dr:s∉dI (c1 a0 (d.ln+1) W):=λR=>by
  rcases e4 s R with e|e
  .exact T.out.nb e
  have:=(ae.1 T.out.h11).1;omega
 have z3:=cO 3 (c1 (fa ⟨z,N,e2⟩) d.ln G) a8;have zf:=dm a8 3;have T8:bH [] O X8:=fH hT e3 (λq B=>(bP.2.lt q B).1);have T9:bH [] O (X8.setCell ⟨s,3,e2⟩ (c1 a0 (d.ln+1) W)):=T8.setCell _ (.inr T.out.lt);have eD:z<X.heap.size:=ek.o;have eB:s<X.heap.size:=ej.o;have da:Il X8 X.heap.size (c1 J I M) (C.ag0++[d.next]):=bd.kept e3 (λq B R=>by
  have h1:=(bd.lt q B).1;simp [dI,Value.ownBlock]at R;omega)
 have fy:Il (X8.setCell ⟨s,3,e2⟩ (c1 a0 (d.ln+1) W)) X.heap.size (c1 J I M) (C.ag0++[d.next]):=da.kept ((bH.refl [s] X8).setCell _ (.inl lz)) (λq B R=>by
  have h1:=(bd.lt q B).1;simp at R;omega)
 have fT:=iK.kept P ((bH.refl [s] X8).setCell (a:=⟨s,3,e2⟩) (c1 a0 (d.ln+1) W) (.inl lz)) (λq B R=>by
  rw [aN]at R;subst R;exact dr B)
 have dk:=(a6.o.u T9).st.now;have eI:C.ag0.length<=5:=by have h1:=D.o.kb C (aH a3.o);have h2:=(U.o.kidsAt a3.o).1;omega
 have bB:I=C.ag0.length+1:=by have:=bd.ints'.1;simpa using this
 have d0:=U.o.u (a6.o.t.t T9);have cw:=TM (nx:=d.next+1) (c:=W) d0 a3.o fy.ints' gn dk (by have:=D.o.ln;omega) fT;have a7:(d.grow a0 W (d.next+1) 0 (C.Xn J I M (C.ag0++[d.next])) x).Tidy:=D8 D.o.tidy a3.o aR.o.2 b5.o.1 aw.o gn (by have:=D.o.next;omega) (by have:=D.o.ln;omega);have ac:(X8.setCell ⟨s,3,e2⟩ (c1 a0 (d.ln+1) W)).heap[s]?=fa (fd #[c1 d.sA d.sn d.sc,(1:Int),(d.next+1:Int),c1 a0 (d.ln+1) W] 29 (0,0)):=dU (L:=[c1 d.sA d.sn d.sc,(1:Int),c4 .i64 (d.next+1),c1 (fa ⟨z,N,e2⟩) d.ln G]) a8 rfl;obtain⟨HE,cz,cG,ar⟩:=lh4 (bg cw (bg a7 (bg T9 ac))) dp dT e1;clear hT a5 ax bP dp eC dT e1 P e3 e4 a8 dr T8 T9 eD eB da fy fT dk eI bB d0 cw a7 ac bd e7 bs eJ b1 hi;go_upto_region 15 with (first
  |(refine yR 72 (dw (p:=c2 (fa ⟨b9,0,e2⟩)) (v:=c5 ⟨x.row⟩) rfl rfl cz.o) ?_)
  |(refine yR 73 (dV (x:=.tmp 72) (y:=c5 ⟨x.row⟩) rfl rfl cG.o) ?_)
  |(at_builtin;refine bQ rfl (dL (v:=c1 (fa ⟨z,N,e2⟩) d.ln G) (y:=c1 (fa ⟨wr,0,e2⟩) 1 1) (.tmp 71) (.tmp 73) 27 rfl rfl rfl ar.o) ?_;try go_frame))
 clear z3 zf ar cG cz r3;generalize X8.setCell ⟨s,3,e2⟩ (c1 a0 (d.ln+1) W)=X9 at *;obtain⟨y2,eT,aD,ao,aq,ap,am⟩:=xh D.o.tidy D.o.ok a0 J W I M a3.o (by rw [aR.o.1,D.o.root]) b5.o.1 b5.o.2;subst eT;obtain⟨cw,a7,T9,ac⟩:=HE.o;obtain⟨Q,bL⟩:=eX (d.grow a0 W (d.next+1) 0 (C.Xn J I M (C.ag0++[d.next])) x);have a2:Q.root=d.root:=by rw [bL];rfl
 have cU:X9.heap[s]?=fa (fd #[c1 Q.sA Q.sn Q.sc,Q.root,Q.next,c1 Q.lA Q.ln Q.lc] 29 (0,0)):=by rw [a2,D.o.root,bL];exact ac
 rw [<-bL]at cw a7 ao aq ap am;have bh:=lh (bg cw (bg a7 (bg T9 cU)));have c0:=lh (show Q.root=d.root/\dh d.agY d.root=fa C/\dh Q.agY Q.root=fa (C.Xn J I M (C.ag0++[d.next]))/\(∀r,Zf Jd Q.agY Q.ag2 3000 (C.Xn J I M (C.ag0++[d.next])) r=Zf Jd d.agY d.ag2 3000 C r)/\(∀u v,YO Q e2 Q.root u v=YO d e2 d.root u v)/\iJ Q e2 Q.root=iJ d e2 d.root from ⟨a2,aD,by rw [a2];exact ao,aq,λu v=>by rw [a2];exact ap u v,by rw [a2];exact am⟩);have d4:=Df Q X9 cw a7;have ct:=lh d4;clear cw a7 T9 ac cU a2 aD ao aq ap am d4 HE bL;go_upto_region 16 with (first
  |((with_reducible refine yA 76 Q.v X9 ?_ ?_);(next=>exact dw (p:=c2 (fa ⟨s,0,e2⟩)) rfl rfl (YI bh.o.2.2.2));try go_frame)
  |(go_at_call 21;refine ct.o.mono ?_;rintro e w9 ⟨⟨ee,ii,d7⟩,t9⟩))
 have cv:=lh d7;obtain⟨ab,bl⟩:=eX (w9.alloc (fd #[ee,ii] 69));have e9:bH [] X9 ab:=by rw [bl];exact t9.a _
 have ew:ab.cell? ⟨w9,0,e2⟩=fa (c4 .i64 ee):=by rw [bl];exact bK (ff _ _) rfl
 rw [<-bl];clear bl d7 t9;have bv:=lh e9;clear e9 ct;generalize w9.heap.size=eZ at *;by_cases he:ee=0
 .subst he;go_upto_region 18 with fail
  have ds:=cv.o.1 rfl;obtain⟨b2,cE,ei⟩:=lh3 ds (λx u=>IJ x 5 lG lG u) abf;clear ds cv ew;go_upto_region 19 with (first
   |(go_at_call 10;refine mR (cE.o _ _) λq1 B=>?_;rw [B];clear B))
  generalize wrap64 (vC m 5-2)=px,wrap64 (vC (wrap64 (m.tdiv 5)) 5-2)=py at *;obtain⟨aM,bm⟩:=eX (ab.alloc (fd #[px,py] 24));have ea:bH [] ab aM:=by rw [bm];exact (tR ab).a _
  have cV:=YE bm
  rw [<-bm];clear bm cE ei;have TN:=bh.o.2.2.1;have a4:=bv.o.t ea;have bA:=U.o.u ((a6.o.t.t TN).t a4);have bF:=bh.o.1.u a4;have hG:=HG.o.u (((b3.o.t a6.o.t).t TN).t a4);have bx:=RU U.o D.o.tidy D.o.ok;have gj:=zY U.o D.o.tidy D.o.ok;have dc:∀l∈d.agY,l.Xh=l.ag0.length:=λl hl=>by obtain⟨k,hk⟩:=bu.1 hl;exact (U.o.agY.2 k l hk).1.ag0.1
  have br:kU d:=⟨D.o.tidy,D.o.ok,U.o.agY.short U.o.small,dc,gj⟩;have bz:=RU bh.o.1 bh.o.2.1 b2.o;have bM:=zY bh.o.1 bh.o.2.1 b2.o;have bB:∀l∈Q.agY,l.Xh=l.ag0.length:=λl hl=>by obtain⟨k,hk⟩:=bu.1 hl;exact (bh.o.1.agY.2 k l hk).1.ag0.1
  have bw:kU Q:=⟨bh.o.2.1,b2.o,bh.o.1.agY.short bh.o.1.small,bB,bM⟩;obtain⟨a2,aD,ao,aq,ap,am⟩:=c0.o;have bX:=lh (λu (t:bH [] aM u)=>BQ d e2 d.root u (bA.u t) bx gj λ_=>br);have bf:=lh (λu (t:bH [] aM u)=>BQ Q e2 Q.root u (bF.u t) bz bM λ_=>bw);rw [am]at bf;have el:=lh (λu (t:bH [] aM u)=>abz d e2 d.root px py u (bA.u t) bx gj (λ_=>br) (hG.u t));have cy:=lh (λu (t:bH [] aM u)=>abz Q e2 Q.root px py u (bF.u t) bz bM (λ_=>bw) (hG.u t));rw [ap px py]at cy;have ep:=lh (λu (t:bH [] aM u)=>wJ br bw bx bz aD ao aq u (bA.u t) (bF.u t) (hG.u t));generalize YO d e2 d.root px py=KB at *;have HT:=lh ((((b3.o.t a6.o.t).t TN).t a4));obtain⟨aL,ch,ci⟩:=lh3 (((a6.o.t.t TN).t a4).ox H8.o) (a4.ox bh.o.2.2.2) cV;clear ea cV TN a4 bA bF hG bx gj dc br bz bM bB bw a2 aD ao aq ap am c0 b2 bh D bv HG b3;generalize ab.heap.size=f0 at *;obtain⟨S,dv⟩:=eX ((iJ d e2 d.root).getD Rc.zero);obtain⟨ka,db⟩:=eX ((iJ d e2 d.root).isSome);rw [<-dv,<-db]at bX bf;clear dv db;have r1:=cP 1 d.root aL.o;go_upto_region 20 with (first
   |((with_reducible refine yA 91 d.v aM ?_ ?_);(next=>exact dw (p:=c2 (fa ⟨b8,0,e2⟩)) rfl rfl (YI aL.o));try go_frame)
   |(go_at_call 22;refine mR (bX.o _ (tR aM)) λeb ck=>?_;have cJ:=lh ck;clear ck;unfold Rc.v))
  obtain⟨c7,bo⟩:=eX (eb.alloc (fd #[S.x0,S.y0,S.x1,S.y1] 59));have ck:bH [] aM c7:=by rw [bo];exact cJ.o.a _
  have cW:=YE bo
  rw [<-bo];clear bo r1;obtain⟨aw,cl,aE⟩:=lh3 ck cW (ck.ox ch.o);clear ck cW cJ;generalize eb.heap.size=f1 at *;have r1:=cP 1 Q.root aE.o;go_upto_region 21 with (first
   |((with_reducible refine yA 98 Q.v c7 ?_ ?_);(next=>exact dw (p:=c2 (fa ⟨s,0,e2⟩)) rfl rfl (YI aE.o));try go_frame)
   |(go_at_call 22;refine mR (bf.o _ aw.o) λec aa=>?_;have cK:=lh aa;clear aa;unfold Rc.v))
  obtain⟨cT,bp⟩:=eX (ec.alloc (fd #[S.x0,S.y0,S.x1,S.y1] 59));have aa:bH [] c7 cT:=by rw [bp];exact cK.o.a _
  have cX:=YE bp
  rw [<-bp];clear bp r1;generalize ec.heap.size=f2 at *;have TZ:=aw.o.t aa;obtain⟨bT,bR,cj,ed,ef,b4⟩:=lh6 (TZ.ox aL.o) (aa.ox aE.o) (TZ.ox ci.o) (aa.ox cl.o) cX TZ;clear TZ aa cX cK aw aL aE ch ci cl bX bf;refine sN 27 (tR cT) λY F=>?_;refine fE 0 (c3 fj) ?_;refine fE 1 (c3 fj) ?_;refine Xz 2 (d.v) (λw' f=>YI (f.ox bT.o)) ?_;refine fK 3 ?_;refine Xy 4 d.root (λw' f=>cO 1 _ (f.ox bT.o)) ?_;refine Xz 5 (Y8 px py) (λw' f=>YC (f.ox cj.o)) ?_;refine Xz 7 (Q.v) (λw' f=>YI (f.ox bR.o)) ?_;refine fK 8 ?_;refine Xy 9 Q.root (λw' f=>cO 1 _ (f.ox bR.o)) ?_;refine Xz 10 (Y8 px py) (λw' f=>YC (f.ox cj.o)) ?_;refine PR 6 (el.o _ (b4.o.t F)) λq1 F _=>?_
  refine PR 11 (cy.o _ (b4.o.t F)) λq2 F _=>?_
  refine fE 12 (c3 fj) ?_;refine fE 13 (c3 fj) ?_;refine fE 14 (c3 fj) ?_;refine Xz 15 (c5 #[S.x0,S.y0,S.x1,S.y1]) (λw' f=>wZ (f.ox ed.o)) ?_;refine Xz 16 (c5 #[S.x0,S.y0,S.x1,S.y1]) (λw' f=>wZ (f.ox ef.o)) ?_;refine fE 17 (c3 fj) ?_;refine fE 18 (c3 fj) ?_;refine fE 19 (c3 fj) ?_;refine Xz 20 (d.v) (λw' f=>YI (f.ox bT.o)) ?_;refine Xz 21 (Q.v) (λw' f=>YI (f.ox bR.o)) ?_;refine fE 22 (c5 #[(-16:Int),(-16:Int),(24:Int),(24:Int)]) ?_;refine PR 23 (ep.o _ (b4.o.t F)) λq3 F _=>?_
  refine fE 24 (0:Int) ?_;refine fE 25 (c3 fj) ?_;refine fE 26 (c3 fj) ?_;refine eH 27 (λK E=>?_);go_simp;refine gZ E ?_;clear E K
  refine Wy ?_;have HF:=lh (HT.o.t (b4.o.t F));clear F;go_wp2;go_ret;exact⟨rfl,HF.o⟩
 have f3:(ee != 0)=fj:=by simpa using he
 clear c0;have HT:=lh ((b3.o.t a6.o.t).t (bh.o.2.2.1.t bv.o));clear bh bv;go_wp2;go_ret;exact⟨rfl,HT.o⟩
