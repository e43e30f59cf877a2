import Derived.Test.YtaahejdimjbhhaaGreatDoorK25
import Derived.Test.YtaahejdimjbhhaaGreatDoorK35
import Derived.Test.YtaahejdimjbhhaaGreatDoorK36
set_option maxRecDepth 100000
set_option maxHeartbeats 0
set_option linter.all false
namespace Go.Proofs.YtaahejdimjbhhaaGreatDoor
open Tryz Go.RowKit Go.Den
open Go.Value renaming string->bc,slice->be,bool->bf,agg->bh,pointer->bj
open Go.Obj renaming cells->bk
open Option renaming some->bm,none->bo
open Go renaming World->bp,heap_alloc_new->bq
open Bool renaming true->br,false->bt
def af7(d:df)(n:Nat): Prop:=∀(x:Int) (l:bI),dh d.agY x=bm l->l.ag1≠3->d.rk x<n->∀(r:Rc) (u:bp),d.At u->
 CR 39 #[bh #[bf bt],d.v,l.v,r.v] u (bc ⟨(YU Jd d.agY d.ag2 n l r).toArray⟩)
theorem abh{d:df}(D:kU d)(n:Nat)(F:af7 d n)(p:Int)(g:bI)(s:dh d.agY p=bm g)(B:g.ag1=2)(k:Nat)(N:k<=g.ag0.length)(bF:∀y∈g.ag0,d.rk y<n)(r:Rc)(K:r.InC)(w:bp)(E:d.At w):
  Calls prog 98 #[bh #[bf bt],d.v,be g.Xi g.Xh g.Xj,k,r.v] w λe w'=>(∃v,e=.returned v/\Yg w' w.heap.size v (YS Jd (YU Jd d.agY d.ag2 n) (jG d.agY n) r [] (Yc d.agY (g.ag0.take k))))/\bH [] w w':=by
 have b7:∀y∈g.ag0,∃m,dh d.agY y=bm m:=λy h=>(D.kid s B y h).1;have G:∀y∈g.ag0.take k,∃m,dh d.agY y=bm m:=λy h=>b7 y (List.mem_of_mem_take h);have A:=(kU.mem s).1;have O:=D.kn g A;have a3:=(D.thin g A).k;have an:=nH s E;have H:∀(j:Nat) (l:bI),(Yc d.agY (g.ag0.take k))[j]?=bm l->∃x,x∈g.ag0/\g.ag0[j]?=bm x/\dh d.agY x=bm l:=by
  intro j l f;obtain⟨x,a,b⟩:=aam G j l f;have J:j<k:=by have C:=(ah.1 a).1;rw [List.length_take]at C;omega
  rw [List.getElem?_take_of_lt J]at a;exact⟨x,aH a,a,b⟩
 have t:∀l,l∈Yc d.agY (g.ag0.take k)->∃x,x∈g.ag0/\dh d.agY x=bm l:=by intro l c;obtain⟨j,f⟩:=bu.1 c;obtain⟨x,a,_,b⟩:=H j l f;exact⟨x,a,b⟩
 refine ade d (YU Jd d.agY d.ag2 n) (jG d.agY n) (λl r=>ZE _ _ l r n) g.ag0 (Yc d.agY (g.ag0.take k)) k g.Xh ⟨gn,a3⟩ (by rw [YH G,List.length_take];omega) (λj l f=>?_) g.Xi g.Xj r K (λl c=>?_) w E an.ag0 (λl c b q u T=>?_) (λl c b u T=>?_) (λi I u T=>?_)
 .obtain⟨x,_,a,b⟩:=H j l f;rw [List.getD_eq_getElem?_getD,a];exact b
 .obtain⟨x,_,a⟩:=t l c;exact D.thin l (kU.mem a).1
 .obtain⟨x,o,a⟩:=t l c;exact F x l a b (bF x o) q u (E.u T)
 .obtain⟨x,o,a⟩:=t l c;exact sU D n x l a b (bF x o) u (E.u T)
 have e:ZR (jG d.agY n) ((Yc d.agY (g.ag0.take k)).take i)=iW (jG d.agY n) d.agY (g.ag0.take i) Rc.zero:=by rw [aaR,<-ZZ G,List.take_take,Nat.min_eq_left (Nat.le_of_lt I)];rfl
 rw [e];exact Hq d (jG d.agY n) g.ag0 g.Xi g.Xh i g.Xj a3 gn u (an.ag0.u T) (E.u T) b7 (λy _ V z=>(D.good z).2) (λV=>lZ _ _ V) (λy h V z aE M L=>sU D n y V z aE (bF y h) M ((E.u T).u L))
theorem aaU{d:df}(D:kU d): ∀n,af7 d n
 |0=>λx l i g C=>absurd C (aU _)
 |n+1=>λx l i g C r u E=>by
  obtain⟨c,X,_⟩:=kU.mem i;have o:=D.tidy.lay l c;have a5:=D.thin l c;have I:=D.kn l c;have a3:=o.ag1;have J:=i;have z:=nH i E;unfold YU;refine acN d l (jG d.agY (n+1) l) r _ a5 a3 u E z (λv T=>sU D (n+1) x l i g C v (E.u T)) (λq=>?_) (λG=>?_) (λS=>?_) (λA h=>?_) (λ_ B=>absurd B g)
  .rw [aG q];refine⟨o.agZ (.inl q),by have b:=o.space;have t:=D.tidy.sn;omega,λK=>?_,rfl⟩;have b:=o.space;have t:=E.ag2.1;have j:(l.space-1).toNat<d.ag2.length:=gn;exact⟨_,aB j,D.tidy.spc _ (List.getElem_mem j)⟩
  .rw [aF gn,aG G]
  .rw [aF gn,aF gn,aG S];obtain⟨s,F,w,bF⟩:=D.cl i S;rw [F];exact⟨o.agZ (.inr S),s,_,rfl,ZE _ _ _ _ n,rfl,λv T=>aaU D n l.of s F w gn _ v (E.u T)⟩
  rw [aF gn,aF gn,aF gn];have ao:(Yc d.agY l.ag0).length<=50:=by have b:=YH (ls:=d.agY) (ks:=l.ag0) (λy f=>(D.kid i h y f).1);rw [b];have:=a5.k;omega
  have p:=YF (YU Jd d.agY d.ag2 n) (jG d.agY n) r.can _ ao;refine⟨_,aK p.1 lG,?_,rfl,λv T=>?_⟩
  .have e:∀a:List Bs,Le (XY::a)=Le [XY]++Le a:=λa=>by simp [Le]
   have H:(Le [XY]).length<=1000:=lG;rw [e,aO];have:=p.2;omega
  have m:=abh D n (aaU D n) x l i h l.Xh gn (λy f=>by have:=(D.kid i h y f).2;omega) r.can (YM A) v (E.u T);rw [aY gn]at m;exact m
theorem ae1{d:df}(D:kU d)(x:Int)(l:bI)(i:dh d.agY x=bm l)(r:Rc)(u:bp)(E:d.At u):
  CR 39 #[bh #[bf bt],d.v,l.v,r.v] u (bc ⟨(Zf Jd d.agY d.ag2 3000 l r).toArray⟩):=by
 unfold Zf;by_cases g:l.ag1=3
 .rw [aG g];obtain⟨p,k,q,j,c,H,w⟩:=D.par i g;obtain⟨o,X,_⟩:=kU.mem i;have z:=D.tidy.lay l o;have a5:=D.thin l o;have f:=nH i E;have I:=(kU.mem c).1;have b7:∀y∈q.ag0,∃m,dh d.agY y=bm m:=λy n=>(D.kid c H y n).1;have ao:(Yc d.agY (q.ag0.take k)).length<=50:=by have t:=YH (ls:=d.agY) (ks:=q.ag0.take k) (λy n=>b7 y (List.mem_of_mem_take n));rw [t,List.length_take];have:=(D.thin q I).k;have:=D.kn q I;omega
  have a0:uk d.agY 3000 l=(l.spread (iW (jG d.agY 3000) d.agY (q.ag0.take k) Rc.zero)).can:=by unfold uk;rw [aG g,X,Ik j c]
  rw [X,Ik j c];refine acN d l (uk d.agY 3000 l) r _ a5 z.ag1 u E f (λv T=>Ou D x l i v (E.u T)) (λh=>absurd h gn) (λh=>absurd h gn) (λh=>absurd h gn) (λ_ h=>absurd h gn) (λC _=>?_);rw [a0]at C;have s:=YF (YU Jd d.agY d.ag2 3000) (jG d.agY 3000) (l.nd r.can).can _ ao;refine⟨p,k,q,_,by rw [X];exact j,c,aK s.1 lG,?_,rfl,λv T=>?_⟩
  .have e:∀(b:Bs) (a:List Bs),Le (XF::b::a)=Le [XF,b]++Le a:=λb a=>by simp [Le]
   have B:=Zy l.Xg l.ks l.cs;have F:=(f.ks).1;have G:=(f.cs).1;have A:(Le [XF,XR l.Xg l.ks l.cs]).length<=1000+(XR l.Xg l.ks l.cs).length:=oF;rw [e,aO];have:=a5.a;have:=a5.b;have:=s.2;omega
  exact abh D 3000 (aaU D 3000) p q c H k (Nat.le_of_lt w) (λy _=>KC d y) _ (af6 (YM C) (oD _ _ (λ_ _ m _=>lZ _ _ m) qB) C) v (E.u T)
 rw [aF g];exact aaU D 3000 x l i g (KC d x) r u E
def YO(d:df)(a7:Option Nat)(id x y:Int): Bs:=match a7 with
 |some _=>[]
 |none=>match dh d.agY id with
  |some l=>fM [Zj,Qz x,Qz y,Zf Jd d.agY d.ag2 3000 l (ZJ x y)]
  |none=>[]
theorem acA{d:df}{a7:Option Nat}{id:Int}(x y:Int)(h:iJ d a7 id=bo): YO d a7 id x y=[]:=by
 unfold YO;unfold iJ at h;cases a7 with
 |some _=>rfl
 |none=>
  simp only at h ⊢;cases i:dh d.agY id with
  |none=>rfl
  |some l=>rw [i]at h;cases h
theorem acP(ls:List bI)(g:List eF)(l:bI)(r:Rc): (Zf Jd ls g 3000 l r).length<=32:=by
 unfold Zf;have e:∀x:List Bs,(Jd.join x).length<=32:=λx=>Nat.le_of_eq (XN _);split
 .split
  .exact e _
  exact e _
 exact ZE ls g l r 3000
theorem YC{u:bp}{b:Nat}{x y:Int}(h:u.heap[b]?=bm (bk #[x,y] 24 (0,0))): (Instr.loadAt 24 (bj (bm ⟨b,0,bo⟩))).run prog u=.ok (Y8 x y) u:=
 run_loadAt_mid u b 0 24 [x,y] _ (gp h rfl) underlying24 rfl lB
theorem YI{u:bp}{b:Nat}{d:df}(h:u.heap[b]?=bm (bk #[be d.sA d.sn d.sc,d.root,d.next,be d.lA d.ln d.lc] 29 (0,0))): (Instr.loadAt 29 (bj (bm ⟨b,0,bo⟩))).run prog u=.ok d.v u:=XK h
theorem abz(d:df)(a7:Option Nat)(id x y:Int)(w:bp)(h:d.At w)(S:E5 d a7)(a9:∀l∈d.agY,l.Thin)(Q:a7=bo->kU d)(R:YQ w):
  CR 11 #[d.v,id,Y8 x y] w (bc ⟨(YO d a7 id x y).toArray⟩):=by
 obtain⟨W,j⟩:=eX ((w.alloc (bk #[be d.sA d.sn d.sc,d.root,d.next,be d.lA d.ln d.lc] 29)).alloc (bk #[x,y] 24));have B:bH [] w W:=by rw [j];exact ((tR w).a _).a _
 have H:=fU j;have I:=ZH j;have cl:=Oq d a7 id W (h.u B) S a9;obtain⟨N,cD,a6,z,HA,eq,L,J⟩:=lh8 (YI H) cl I B h Q R gI;have O:=lh j;clear cl H I B h S a9 Q R j;have T:d.v=bh #[be d.sA d.sn d.sc,d.root,d.next,be d.lA d.ln d.lc]:=rfl;have a3:Y8 x y=bh #[x,y]:=rfl;rw [T,a3];clear T a3;go_enter func11,ntmps11;go_upto_region 1 with fail
 rw [<-O.o];clear O;go_upto_region 2 with (first
  |(refine lR 11 N.o ?_)
  |(go_at_call 31;refine cD.o.mono ?_;rintro e q ⟨⟨E,m,bb,rfl,a1,a2⟩,aR⟩;have Z:=lh (bg a1 a2);have A:=lh aR;clear a1 a2 aR;unfold bI.v df.v)
  |(refine yR 8 (di (t:=51) rfl (J.o _)) ?_)
  |(refine sR (WV q _ m _ (aI _ _)) ?_))
 try simp only [aI]
 obtain⟨V,f⟩:=eX ((q.alloc (bk #[be E.sA E.sn E.sc,E.root,E.next,be E.lA E.ln E.lc] 94)).alloc (bk ⟨m.row⟩ 51));have aq:bH [] q V:=by rw [f];exact ((tR q).a _).a _
 have C:=fU f;have D:=ZH f;have p:=A.o.t aq;have n:=p.ox a6.o;rw [<-f];clear f J a6 N;have a6:=lh n;have a5:=lh (z.o.t p);cases bb with
 |false=>
  have k:=acA x y (Z.o.2 rfl);have s:=lh k;clear k n p aq C D Z A z cD eq;go_wp2;go_ret;exact⟨by rw [s.o];rfl,a5.o⟩
 |true=>
  obtain⟨rfl,rfl,⟨l,F,X⟩,a8⟩:=Z.o.1 rfl;have a4:=lh (a8.u aq).now;have aa:=lh (λu (t:bH [] V u)=>ad7 (eq.o rfl) id l F m X (ZJ x y) u (HA.o.u (a5.o.t t)) (L.o.u (a5.o.t t)) (a4.o.u t));have k:YO E bo id x y=fM [Zj,Qz x,Qz y,Zf Jd E.agY E.ag2 3000 l (ZJ x y)]:=by unfold YO;simp only;rw [F]
  have af:=acP E.agY E.ag2 l (ZJ x y);have a0:(Le [Zj,Qz x,Qz y,Zf Jd E.agY E.ag2 3000 l (ZJ x y)]).length<=100000000000:=mE
  have M:=lh (λ(g:Nat) u (t:bH [] V u) (h:DR u (bm ⟨g,0,bo⟩) 4 [Zj,Qz x,Qz y,Zf Jd E.agY E.ag2 3000 l (ZJ x y)])=>abV _ _ 4 4 a0 u h (L.o.u (a5.o.t t)));have bs:Hid (∀U:bp,DR (U.alloc (bk #[bc ⟨#[116,105,108,101]⟩,bc (MZ x),bc (MZ y),bc ⟨(Zf Jd E.agY E.ag2 3000 l (ZJ x y)).toArray⟩] 9)) (bm ⟨U,0,bo⟩) 4 [Zj,Qz x,Qz y,Zf Jd E.agY E.ag2 3000 l (ZJ x y)]):=lh λU=>XO [Zj,Qz x,Qz y,Zf Jd E.agY E.ag2 3000 l (ZJ x y)] U;obtain⟨s,H7,H8⟩:=lh3 k C D;have P:=cP 0 x n;have c1:=cP 1 y n;clear k af a0 n p aq C D Z A z F X a8 eq cD a4;rw [<-s.o]at M;generalize (⟨(Zf Jd E.agY E.ag2 3000 l (ZJ x y)).toArray⟩:BAr)=KB at *;have ab:=lh (λu=>acs x y u);generalize ZJ x y=rf at *;have ac:=lh (λu=>NL x u);have ad:=lh (λu=>NL y u);generalize MZ x=VX,MZ y=VY at *;go_upto_region 4 with fail
  as_aux_lemma=>
  refine sN 13 (tR V) λY i=>?_;refine fK 0 ?_;refine Xy 1 x (λw' c=>((bY c).1 _ _ (ai P)).t P) ?_;refine fK 3 ?_;refine Xy 4 y (λw' c=>((bY c).1 _ _ (ai c1)).t c1) ?_;refine Xz 6 (E.v) (λw' c=>XP (c.ox H7.o)) ?_;refine Xz 7 (m.v) (λw' c=>XU (c.ox H8.o)) ?_;refine Xz 8 (Y8 x y) (λw' c=>YC (c.ox a6.o)) ?_;refine PR 2 (ac.o _) λq1 i _=>?_
  refine PR 5 (ad.o _) λq2 i _=>?_
  refine PR 9 (ab.o _) λq3 i _=>?_
  refine PR 10 (aa.o _ i) λq4 i _=>?_
  have G:=i.alloc (bk #[bc ⟨#[116,105,108,101]⟩,bc VX,bc VY,bc KB] 9);have a8:=bs.o q4;refine ty 11 rfl (XI (t:=107) (x0:=.const (bc ⟨#[116,105,108,101]⟩)) (x1:=.tmp 21) (x2:=.tmp 24) (x3:=.tmp 29) rfl rfl rfl rfl rfl (Zr _ _ _ _ q4)) λK b=>?_;refine gK b G ?_;clear b K i
  have i:=G;clear G;refine PR 12 (M.o _ _ i a8) λq5 i _=>?_;clear a8
  refine eH 13 (λK b=>?_);go_simp;refine gZ b ?_;clear b K
  refine Wy ?_;have HT:=lh (a5.o.t i);clear i;go_wp2;go_ret;exact⟨rfl,HT.o⟩
theorem afJ{d:df}(D:kU d)(id x y:Int)(w:bp)(h:d.At w):
  CR 12 #[d.v,id,Y8 x y,bf bt] w (bc ⟨(YO d bo id x y).toArray⟩):=by
 obtain⟨W,m⟩:=eX ((w.alloc (bk #[be d.sA d.sn d.sc,d.root,d.next,be d.lA d.ln d.lc] 29)).alloc (bk #[x,y] 24));have s:bH [] w W:=by rw [m];exact ((tR w).a _).a _
 have n:=fU m;have F:=ZH m;obtain⟨L,a5,a2,a6,z,p,q,G⟩:=lh8 (OD d id W (h.u s) D.tidy D.ok) (YI n) n F s h D m;clear n F s h m D;have M:d.v=bh #[be d.sA d.sn d.sc,d.root,d.next,be d.lA d.ln d.lc]:=rfl;have a3:Y8 x y=bh #[x,y]:=rfl;rw [M,a3];clear M a3;go_enter func12,ntmps12;go_upto_region 1 with fail
 rw [<-G.o];clear G;cases b:dh d.agY id with
 |none=>
  rw [b]at L;have E:Hid (YO d bo id x y=[]):=lh uB;clear b q;go_wp2_with (first
   |(refine lR 11 a5.o ?_)
   |(go_at_call 36;refine mR L.o λC k=>?_))
  go_ret;exact⟨by rw [E.o];rfl,z.o.t k⟩
 |some l=>
  rw [b]at L;have N:YO d bo id x y=fM [Zj,Qz x,Qz y,Zf Jd d.agY d.ag2 3000 l (ZJ x y)]:=uB
  have aa:=lh (λu (t:bH [] w u)=>zq d id l b u (p.o.u t));have a1:=lh (λu (t:bH [] w u)=>ae1 q.o id l b (ZJ x y) u (p.o.u t));have a7:=acP d.agY d.ag2 l (ZJ x y);have a0:(Le [Zj,Qz x,Qz y,Zf Jd d.agY d.ag2 3000 l (ZJ x y)]).length<=100000000000:=mE
  have J:=lh (λ(g:Nat) u (h:DR u (bm ⟨g,0,bo⟩) 4 [Zj,Qz x,Qz y,Zf Jd d.agY d.ag2 3000 l (ZJ x y)])=>XQ _ _ 4 4 a0 u h);have bs:Hid (∀U:bp,DR (U.alloc (bk #[bc ⟨#[116,105,108,101]⟩,bc (MZ x),bc (MZ y),bc ⟨(Zf Jd d.agY d.ag2 3000 l (ZJ x y)).toArray⟩] 9)) (bm ⟨U,0,bo⟩) 4 [Zj,Qz x,Qz y,Zf Jd d.agY d.ag2 3000 l (ZJ x y)]):=lh λU=>XO [Zj,Qz x,Qz y,Zf Jd d.agY d.ag2 3000 l (ZJ x y)] U;have E:=lh N;clear N a7 a0 b q p;rw [<-E.o]at J;generalize (⟨(Zf Jd d.agY d.ag2 3000 l (ZJ x y)).toArray⟩:BAr)=X at *;have Q:=lh (λu=>adw x y u);generalize ZJ x y=rf at *;have S:=lh (λu=>Yj x u);have ad:=lh (λu=>Yj y u);generalize MZ x=Z,MZ y=VY at *;go_upto_region 4 with (first
   |(refine lR 11 a5.o ?_)
   |(go_at_call 36;refine mR L.o λC k=>?_))
  go_upto_region 5 with fail
  obtain⟨V,f⟩:=eX (C.alloc (bk #[bf bt] 103));have B:bH [] W V:=f▸k.a _;have ac:=YE f
  rw [<-f];have O:=B.ox a2.o;have j:=B.ox a6.o;have I:=cP 0 x j;have c1:=cP 1 y j;obtain⟨H,T,aM,a4⟩:=lh4 O j ac (z.o.t B);clear f B ac O j k a2 a6 z a5 L;generalize C.heap.size=a9 at *;as_aux_lemma=>
  refine sN 17 (tR V) λY i=>?_;refine Xz 0 (bh #[bf bt]) (λw' c=>XG (c.ox aM.o)) ?_;refine fK 1 ?_;refine Xy 2 x (λw' c=>((bY c).1 _ _ (ai I)).t I) ?_;refine fK 4 ?_;refine Xy 5 y (λw' c=>((bY c).1 _ _ (ai c1)).t c1) ?_;refine Xz 7 (bh #[bf bt]) (λw' c=>XG (c.ox aM.o)) ?_;refine Xz 8 (d.v) (λw' c=>YI (c.ox H.o)) ?_;refine Xz 9 (d.v) (λw' c=>YI (c.ox H.o)) ?_;refine fE 10 id ?_;refine Xz 12 (Y8 x y) (λw' c=>YC (c.ox T.o)) ?_;refine PR 3 (S.o _) λq1 i _=>?_
  refine PR 6 (ad.o _) λq2 i _=>?_
  refine PR 11 (aa.o _ (a4.o.t i)) λq3 i _=>?_
  refine PR 13 (Q.o _) λq4 i _=>?_
  refine PR 14 (a1.o _ (a4.o.t i)) λP i _=>?_
  have A:=i.alloc (bk #[bc ⟨#[116,105,108,101]⟩,bc Z,bc VY,bc X] 9);have a8:=bs.o P;refine ty 15 rfl (XI (t:=107) (x0:=.const (bc ⟨#[116,105,108,101]⟩)) (x1:=.tmp 21) (x2:=.tmp 24) (x3:=.tmp 32) rfl rfl rfl rfl rfl (Zr _ _ _ _ P)) λK e=>?_;refine gK e A ?_;clear e K i
  have i:=A;clear A;refine PR 16 (J.o _ _ a8) λq6 i _=>?_;clear a8
  refine eH 17 (λK e=>?_);go_simp;refine gZ e ?_;clear e K
  refine Wy ?_;have R:=lh (a4.o.t i);clear i;go_wp2;go_ret;exact⟨rfl,R.o⟩
theorem aa5: AL 24 #[(0:Int),(0:Int)]:=λu=>lB
theorem abf(u:bp)(a b:Int): (Instr.build 24 #[(0,a),(1,b)]).run prog u=.ok (bh #[a,b]) u:=lB
theorem acX:(prog.info? 24).map (·.size)=bm 2:=lB
theorem afo(A:Option Addr)(n cap:Nat)(xs:List Int)(id x y:Int)(w:bp)(hx:dn w A n xs)(hG:YQ w):
  CR 3 #[be A n cap,id,Y8 x y] w (bf br):=by
 have HX:=lh hx;have HG:=lh hG;clear hx hG;obtain⟨W0,P⟩:=eX (w.alloc (bk #[x,y] 24));have T0:bH [] w W0:=by rw [P];exact (tR w).a _
 have h5:=YE P
 obtain⟨af,a6,aq⟩:=lh3 T0 h5 P;clear T0 h5 P;have aD:Y8 x y=bh #[x,y]:=rfl;rw [aD];clear aD;go_enter func3,ntmps3;go_upto_region 1 with fail
 rw [<-aq.o];clear aq;go_upto_region 2 with (go_at_call 7;refine mR (JS _) λw1 t1=>?_)
 have T1:bH [] w w1:=af.o.t t1;have a7:=lh (t1.ox a6.o);have HM:=lh ((OJ A n cap xs 6 lG w1 (HX.o.u T1)).mono λe w' hh=>(show (∃d:df,d.At w'/\Ny d 6/\e=.returned (bh #[be d.sA d.sn d.sc,d.root,d.next,be d.lA d.ln d.lc]))/\bH [] w1 w' from hh));have am:=lh T1;clear t1 T1 HX af a6;go_upto_region 3 with (go_at_call 8;refine HM.o.mono ?_;rintro e S ⟨⟨d,hd,ay,rfl⟩,t2⟩)
 have h:=lh ay;obtain⟨W3,R⟩:=eX (S.alloc (bk #[be d.sA d.sn d.sc,d.root,d.next,be d.lA d.ln d.lc] 29));have G:bH [] S W3:=by rw [R];exact (tR S).a _
 have h8:=YE R
 rw [<-R];clear R;obtain⟨W,ad,ao,a9,s⟩:=lh5 h8 (QN d id W3 (hd.u G)) (am.o.t (t2.t G)) ((t2.t G).ox a7.o) (hd.u G);clear hd ay t2 G h8 am HM a7;generalize S.heap.size=b8 at *;go_upto_region 4 with (first
  |(refine lR 15 (YI W.o) ?_)
  |(go_at_call 9;refine mR ad.o λT L=>?_))
 obtain⟨j,bd⟩:=eX (QE d id);rw [<-bd];clear bd ad;have av:=RU s.o h.o.tidy h.o.ok;have a5:=zY s.o h.o.tidy h.o.ok;have aR:=s.o.agY.short (by have:=h.o.ln;omega);have ax:∀l∈d.agY,l.Xh=l.ag0.length:=λl hl=>by obtain⟨k,hk⟩:=bu.1 hl;exact (s.o.agY.2 k l hk).1.ag0.1
 have a3:kU d:=⟨h.o.tidy,h.o.ok,aR,ax,a5⟩;have I:=lh (λ(B C:Int) u (t:bH [] T u)=>abz d bo j B C u (s.o.u (L.t t)) av a5 (λ_=>a3) (HG.o.u (ao.o.t (L.t t))));have J:=lh (λ(B C:Int) u (t:bH [] T u)=>afJ a3 j B C u (s.o.u (L.t t)));have a0:Hid (∀(B C:Int) u,bH [] T u->Calls prog 13 #[d.v,id] u λe w'=>(∃dv,(∀H,bH [] w' H->Calls prog 11 #[dv,j,Y8 B C] H λe ba=>e=.returned (bc ⟨#[]⟩)/\bH [] H ba)/\e=.returned dv)/\bH [] u w'):=lh λB C u t=>
  (IZ d id u (s.o.u (L.t t)) h.o.tidy h.o.ok h.o.root).mono λe w' hh=>by obtain⟨⟨d',k,b5,b4,b9,rfl⟩,tt⟩:=hh;exact⟨⟨d'.v,λH t'=>abz d' (bm k) j B C H (b5.u t') b4 b9 (λe=>by cases e) (HG.o.u (((ao.o.t (L.t t)).t tt).t t')),rfl⟩,tt⟩
 obtain⟨q,m,an⟩:=lh3 (L.ox a9.o) (L.ox W.o) (ao.o.t L);clear av a5 aR ax a3 s h HG ao a9 W L;have N:=cP 0 x q.o;have c1:=cP 1 y q.o;have aE:=λu=>IJ x 7 lG lG u;have aL:=λu=>IJ y 7 lG lG u;have b2:=GM x (n:=7) lG;have b3:=GM y (n:=7) lG;generalize vC x 7=rx,vC y 7=ry at *;have ex:IntKind.i64.wrap (rx-3)=rx-3:=(ku _).t (gV gn gn);have ey:IntKind.i64.wrap (ry-3)=ry-3:=(ku _).t (gV gn gn);generalize b6:rx-3=E,b7:ry-3=F at *;have a2:=lh aE;have M:=lh aL;clear aE aL b2 b3;generalize T=X at *;go_upto_region 4 with fail
 go_cut [10] (λs10 wx=>∃Q,s10=bj (bm ⟨Q,0,bo⟩)/\wx.heap[Q]?=bm (bk #[E,F] 24 (0,0))/\bH [] X wx);case first=>
  clear I J a0;refine sN 10 (tR X) λY i=>?_;refine fK 0 ?_;refine Xy 1 x (λw' b=>((bY b).1 _ _ (ai N)).t N) ?_;refine fK 4 ?_;refine Xy 5 y (λw' b=>((bY b).1 _ _ (ai c1)).t c1) ?_;clear N c1;refine tj 2 9 (λK c=>?_) (λK c=>?_)
  .go_simp;refine mR (a2.o _) λO f=>?_;rw [f];clear f;refine gK c i ?_;clear c K;refine fE 3 E ?_ rfl (j:=λw' b=>nJ);refine tj 6 9 (λK c=>?_) (λK c=>?_)
   .go_simp;refine mR (M.o _) λO f=>?_;rw [f];clear f;refine gK c i ?_;clear c K;refine fE 7 F ?_ rfl (j:=λw' b=>nJ);refine fE 8 (bh #[E,F]) ?_ rfl (j:=λw' b=>oN rfl rfl rfl (abf w' E F));refine eH 9 (λK c=>?_);refine bZ (d:=bm 10) rfl (di rfl (aa5 _)) ?_;have z:=bq Y (bk #[(0:Int),(0:Int)] 24);have a4:=i.size;replace i:=i.alloc (bk #[(0:Int),(0:Int)] 24);generalize Y.alloc (bk #[(0:Int),(0:Int)] 24)=Z,Y.heap.size=Q at *;refine gK c i ?_;clear c K;have a8:=jV (ty:=24) (cells:=#[E,F]) z acX rfl lW;refine eH 10 (λK c=>?_);refine fO (d:=bo) rfl 24 (.tmp 10) (.tmp 26) rfl rfl rfl a8 ?_;refine gZ c ?_;clear c K a8;refine Wy ?_;have D:=i.setRow (g:=Q) #[E,F] (.inr a4);have a1:=eQ (L':=[E,F]) z;go_wp2;go_meet;exact⟨Q,rfl,a1,D⟩
   refine bZ (d:=bm 10) rfl (di rfl (aa5 _)) ?_;have z:=bq Y (bk #[(0:Int),(0:Int)] 24);have a4:=i.size;replace i:=i.alloc (bk #[(0:Int),(0:Int)] 24);generalize Y.alloc (bk #[(0:Int),(0:Int)] 24)=Z,Y.heap.size=Q at *;refine gK c i ?_;clear c K;refine eH 6 (λK c=>?_);go_simp;refine mR (M.o _) λO f=>?_;rw [f];clear f;refine gK c i ?_;clear c K;refine fE 7 F ?_ rfl (j:=λw' b=>nJ);refine fE 8 (bh #[E,F]) ?_ rfl (j:=λw' b=>oN rfl rfl rfl (abf w' E F));have a8:=jV (ty:=24) (cells:=#[E,F]) z acX rfl lW;refine eH 10 (λK c=>?_);refine fO (d:=bo) rfl 24 (.tmp 10) (.tmp 26) rfl rfl rfl a8 ?_;refine gZ c ?_;clear c K a8;refine Wy ?_;have D:=i.setRow (g:=Q) #[E,F] (.inr a4);have a1:=eQ (L':=[E,F]) z;go_wp2;go_meet;exact⟨Q,rfl,a1,D⟩
  refine bZ (d:=bm 10) rfl (di rfl (aa5 _)) ?_;have z:=bq Y (bk #[(0:Int),(0:Int)] 24);have a4:=i.size;replace i:=i.alloc (bk #[(0:Int),(0:Int)] 24);generalize Y.alloc (bk #[(0:Int),(0:Int)] 24)=Z,Y.heap.size=Q at *;refine gK c i ?_;clear c K
  refine eH 2 (λK c=>?_);go_simp;refine mR (a2.o _) λO f=>?_;rw [f];clear f;refine gK c i ?_;clear c K
  refine fE 3 E ?_ rfl (j:=λw' b=>nJ);refine eH 6 (λK c=>?_);go_simp;refine mR (M.o _) λO f=>?_;rw [f];clear f;refine gK c i ?_;clear c K
  refine fE 7 F ?_ rfl (j:=λw' b=>nJ);refine fE 8 (bh #[E,F]) ?_ rfl (j:=λw' b=>oN rfl rfl rfl (abf w' E F));have a8:=jV (ty:=24) (cells:=#[E,F]) z acX rfl lW;refine eH 10 (λK c=>?_);refine fO (d:=bo) rfl 24 (.tmp 10) (.tmp 26) rfl rfl rfl a8 ?_;refine gZ c ?_;clear c K a8
  refine Wy ?_;have D:=i.setRow (g:=Q) #[E,F] (.inr a4);have a1:=eQ (L':=[E,F]) z;go_wp2;go_meet;exact⟨Q,rfl,a1,D⟩
 obtain⟨Q,rfl,ar,p⟩:=hcut;clear N c1 ex ey b6 b7 a2 M;obtain⟨q,m,aM,ap,cm,ab,gC,ac⟩:=lh8 (p.ox q.o) (p.ox m.o) ar (an.o.t p) (λu (t:bH [] wc u)=>I.o E F u (p.t t)) (λu (t:bH [] wc u)=>J.o E F u (p.t t)) (λu (t:bH [] wc u)=>I.o x y u (p.t t)) (λu (t:bH [] wc u)=>J.o x y u (p.t t));have aa:=lh (λu (t:bH [] wc u)=>a0.o E F u (p.t t));clear I J a0 ar p an;generalize (⟨(YO d bo j E F).toArray⟩:BAr)=O1,(⟨(YO d bo j x y).toArray⟩:BAr)=O2,wc=V at *;go_upto_region 5 with fail
 refine sN 20 (tR V) λY i=>?_;refine Xz 0 (d.v) (λw' b=>YI (b.ox m.o)) ?_;refine fE 1 j ?_;refine Xz 2 (Y8 E F) (λw' b=>YC (b.ox aM.o)) ?_;refine Xz 4 (d.v) (λw' b=>YI (b.ox m.o)) ?_;refine fE 5 j ?_;refine Xz 6 (Y8 E F) (λw' b=>YC (b.ox aM.o)) ?_;refine PR 3 (cm.o _ i) λcf i _=>?_
 refine PR 7 (ab.o _ i) λcj i _=>?_
 refine fE 8 (bf br) ?_;refine fE 9 (bf br) ?_;refine Xz 10 (d.v) (λw' b=>YI (b.ox m.o)) ?_;refine fE 11 j ?_;refine Xz 12 (Y8 x y) (λw' b=>YC (b.ox q.o)) ?_;refine Xz 14 (d.v) (λw' b=>YI (b.ox m.o)) ?_;refine fE 15 j ?_;refine Xz 16 (Y8 x y) (λw' b=>YC (b.ox q.o)) ?_;refine PR 13 (gC.o _ i) λck i _=>?_
 refine PR 17 (ac.o _ i) λbl i _=>?_
 refine fE 18 (bf br) ?_;refine fE 19 (bf br) ?_;refine eH 20 (λK c=>?_);go_simp;refine gZ c ?_;clear c K
 refine Wy ?_;obtain⟨q,m,aM,b0,b1⟩:=lh5 (i.ox q.o) (i.ox m.o) (i.ox aM.o) (λu (t:bH [] bl u)=>aa.o u (i.t t)) (ap.o.t i);clear i cm ab gC ac aa ap;generalize bl=U at *;go_upto_region 6 with fail
 refine sN 13 (tR U) λY i=>?_;refine fE 0 (bf br) ?_;refine fE 1 (bf br) ?_;refine fE 2 (bf br) ?_;refine fE 3 (bf br) ?_;refine fE 4 (bf br) ?_;refine Xz 5 (d.v) (λw' b=>YI (b.ox m.o)) ?_;refine fE 6 id ?_;refine fE 8 j ?_;refine Xz 9 (Y8 E F) (λw' b=>YC (b.ox aM.o)) ?_;refine eH 7 (λK c=>?_);go_simp;refine (b0.o _ i).mono ?_;rintro e cl ⟨⟨dv,aw,rfl⟩,u5⟩;replace i:=i.t u5;refine gK c i ?_;clear c K u5
 refine PR 10 (aw _ (tR _)) λcz i _=>?_;clear aw
 refine fE 11 (bf br) ?_;refine fE 12 (bf br) ?_;refine eH 13 (λK c=>?_);go_simp;refine gZ c ?_;clear c K
 refine Wy ?_;have HT:=lh (b1.o.t i);clear i;go_wp2;go_ret;exact⟨rfl,HT.o⟩
