import Derived.Test.YtaahejdimjbhhaaGreatDoorK30
import Derived.Test.YtaahejdimjbhhaaGreatDoorK32
set_option maxRecDepth 100000
set_option maxHeartbeats 0
set_option linter.all false
namespace Go.Proofs.YtaahejdimjbhhaaGreatDoor
open Tryz Go.RowKit Go.Den
open Go.Value renaming slice->b2,pointer->cK,agg->cM
open Option renaming none->cQ,some->cR
open Go.Obj renaming cells->cS
open Go renaming World->cT,Value->cU,heap_alloc_new->cV,wpOp_step->cW,Addr->cX,yielded->cY
open Bool renaming true->c1,false->c2
section
variable {P:Program} {ops:Array Oper} {Q:Exit->Act->cT->Prop} {md:Region.Mode} {S:cT->Prop} {z:Nat}
theorem cu.three{i j k:Nat}{l m J:Oper}{n:Nat}{done:Array Bool}{a:Act}{w:cT}(C:ops[i]?=cR l)(E:ops[j]?=cR m)(F:ops[k]?=cR J)(G:(Region.ready md ops done==[i,j,k])=c1)(t:Region.wanted l (cY ops a.tmps)=c1)(u:Region.wanted m (cY ops a.tmps)=c1)(x:Region.wanted J (cY ops a.tmps)=c1)
  (y:∀K:Act->cT->Prop,(∀d w',(i≠z->S w')->cu P md ops Q S z n (done.setIfInBounds i c1) d w'->K d w')->Oper.wp P l a w K Q)
  (A:∀K:Act->cT->Prop,(∀d w',(j≠z->S w')->cu P md ops Q S z n (done.setIfInBounds j c1) d w'->K d w')->Oper.wp P m a w K Q)
  (B:∀K:Act->cT->Prop,(∀d w',(k≠z->S w')->cu P md ops Q S z n (done.setIfInBounds k c1) d w'->K d w')->Oper.wp P J a w K Q):cu P md ops Q S z (n+1) done a w:=by
 have s:Region.ready md ops done=[i,j,k]:=qv
 refine⟨λo=>(by rw [s]at o;cases o),λq p=>?_⟩;rw [s,aS,aS,aN]at p;rcases p with rfl|rfl|rfl
 .refine cW C λK f=>?_;rw [aG t];exact y K λd w' h e=>f d w' ⟨h,e⟩
 .refine cW E λK f=>?_;rw [aG u];exact A K λd w' h e=>f d w' ⟨h,e⟩
 refine cW F λK f=>?_;rw [aG x];exact B K λd w' h e=>f d w' ⟨h,e⟩
end
theorem acD{P:Program}{o:Oper}{a:Act}{w w':cT}{t:TypeId}{v:cU}(e:o.op=.buildSlice t 0 #[])(C:(Instr.buildSlice t 0 #[]).run P w=.ok v w'): (execOp a.eval o).run P w=.ok (.value v) w':=gm (vs:=#[]) e lz C
theorem afe(w:cT)(A:Option cX)(n c:Nat): (Instr.build 29 #[(1,(1:Int)),(2,(3:Int)),(3,b2 A n c)]).run prog w=.ok (cM #[b2 cQ 0 0,(1:Int),(3:Int),b2 A n c]) w:=lB
theorem aer: AL 29 #[b2 cQ 0 0,(0:Int),(0:Int),b2 cQ 0 0]:=λu=>lB
theorem afT(A:Option cX)(cap:Nat): ((({ fB 1 with id:=2 }:bI).row.set 28 (b2 A 1 cap)):List cU)=(aac A cap).row:=rfl
structure agy(X:cT)(nl ml:bI)(b4:Nat)(v:cU)(w:cT): Prop where
 t:bH [] X w
 h4:w.heap[b4]?=cR (cS #[b2 cQ 0 0,(1:Int),(3:Int),v] 29 (0,0))
 own:iK jS w X.heap.size v [nl.row,ml.row]
 ne:b4∉dI v
 ge:X.heap.size<=b4
theorem aaV{k:kD}{w:cT}{base:Nat}{v:cU}{a:List (List cU)}(h:iK k w base v a){g:Nat}(d:g∈dI v): base<=g/\g<w.heap.size:=⟨(h.2.lt g d).1,(h.2.lt g d).2.1⟩
structure cZ(X:cT)(ml:bI)(c:Nat)(r:List (List cU))(T D:Bool)(g b:Nat)(v:cU)(Y:cT): Prop where
 h:bH [] X Y
 o:iK jS Y X.heap.size v r
 t:T=c1->Y.heap[g]?=cR (cS ⟨ml.row⟩ 51 (0,0))/\g∉dI v
 d:D=c1->Y.heap[b]?=cR (cS #[b2 cQ 0 0,(0:Int),(0:Int),b2 cQ 0 0] 29 (0,0))/\b∉dI v/\X.heap.size<=b
section
variable {X:cT} {ml:bI} {c:Nat} {r:List (List cU)} {T D:Bool} {g b:Nat} {v:cU} {Y:cT}
theorem dA{o o':Obj}(h:Y.heap[g]?=cR o): (Y.alloc o').heap[g]?=cR o:=((tR Y).alloc o').ox h
theorem cZ.s5(H:cZ X ml 0 [] T D g b v Y): cZ X ml 5 [] T D g b (b2 (cR ⟨Y,0,cQ⟩) 0 0) (Y.alloc (cS #[] 51)):=by
 refine⟨H.h.a _,(lQ jS Y).base H.h.size,λe=>⟨dA (H.t e).1,λf=>?_⟩,λe=>⟨dA (H.d e).1,λf=>?_,(H.d e).2.2⟩⟩
 .have h:=(ae.1 (H.t e).1).1;have f:g=Y.heap.size:=by simpa [dI,Value.ownBlock]using f
  omega
 have h:=(ae.1 (H.d e).1).1;have f:b=Y.heap.size:=tJ
 omega
theorem cZ.s10(H:cZ X ml c r T D g b v Y): cZ X ml c r c1 D Y.heap.size b v (Y.alloc (cS ⟨ml.row⟩ 51)):=
 ⟨H.h.a _,H.o.u ((tR Y).a _),λ_=>⟨cV _ _,λf=>absurd (aaV H.o f).2 (Nat.lt_irrefl _)⟩,λe=>⟨dA (H.d e).1,(H.d e).2⟩⟩
theorem cZ.s13(H:cZ X ml c r T D g b v Y): cZ X ml c r T c1 g Y.heap.size v (Y.alloc (cS #[b2 cQ 0 0,(0:Int),(0:Int),b2 cQ 0 0] 29)):=
 ⟨H.h.a _,H.o.u ((tR Y).a _),λe=>⟨dA (H.t e).1,(H.t e).2⟩,λ_=>⟨cV _ _,λd=>absurd (aaV H.o d).2 (Nat.lt_irrefl _),H.h.size⟩⟩
theorem cZ.app(H:cZ X ml c r T D g b v Y)(n:bI)(q w:Nat)(B:Y.rangeAt q 0 n.row)(C:r.length<=9): ∃a Z,(Builtin.append_ #[27,27] 27 #[v,b2 (cR ⟨q,0,cQ⟩) 1 1]).run prog Y=.ok a Z/\cZ X ml w (r++[n.row]) T D g b a Z:=by
 obtain⟨a,Z,p,s,l,u⟩:=zH (k:=jS) (t:=27) (news:=[n.row]) underlying27 H.o q 0 1 1 rfl (λr h=>by rw [aN]at h;subst h;exact kT _) (λj r h=>by
  cases j with
  |succ j=>simp at h
  |zero=>
   have h:n.row=r:=om;subst h;rw [Nat.zero_mul];exact B) H.h.size gn 27
 have f:∀{q:Nat} {o:Obj},Y.heap[q]?=cR o->q∉dI v->Z.heap[q]?=cR o/\q∉dI a:=λ{q o} i m=>by
  have y:=(ae.1 i).1;refine⟨(l.old _ y m).t i,λA=>?_⟩;rcases u q A with h|h
  .exact m h
  omega
 exact⟨a,Z,p,H.h.fresh l (λb x=>(aaV H.o x).1),s,λe=>f (H.t e).1 (H.t e).2,λe=>⟨(f (H.d e).1 (H.d e).2.1).1,(f (H.d e).1 (H.d e).2.1).2,(H.d e).2.2⟩⟩
theorem bV(c:Nat)(r:List (List cU))(T D:Bool){p:Nat->Nat->cU->cU->cU->cT->Prop}{q:Prop}(k:(∀g b v u1 u2 Y,cZ X ml c r T D g b v Y->p g b v u1 u2 Y)->q)(h:∀g b v u1 u2 Y,cZ X ml c r T D g b v Y->p g b v u1 u2 Y): q:=k h
theorem fP(r:List (List cU))(D:Bool){p:Nat->Nat->Option cX->Nat->Nat->cU->cU->cT->Prop}{q:Prop}(k:(∀g b A n c u1 u2 Y,cZ X ml 11 r c1 D g b (b2 A n c) Y->p g b A n c u1 u2 Y)->q)(h:∀g b A n c u1 u2 Y,cZ X ml 11 r c1 D g b (b2 A n c) Y->p g b A n c u1 u2 Y): q:=k h
end
theorem acx{w:cT}{A:Option cX}{n:Nat}{f:List dC}(h:dB w A n f){c:Nat}{L:List cU}{ty:TypeId}(m:w.heap[c]?=cR (cS ⟨L⟩ ty (0,0)))(y:L.length<=100)(i:Nat)(v:cU): dB (w.setCell ⟨c,i,cQ⟩ v) A n f:=by
 refine⟨h.1,λj t s=>?_⟩;obtain⟨a,g,o,l,d⟩:=h.2 j t s;refine⟨a,g,o,l,?_⟩;have p:g≠c:=by
  rintro rfl;have q:100<t.row.length:=sK
  have:=d 100 _ (aB q);rw [aA _ _ _ _ _ _ m,Array.getElem?_eq_none (by show L.length<=_;omega)]at this;cases this
 intro k u x;rw [<-d k u x];have e:=dG w c i v g p;simp only [World.cell?,e]
theorem abm(w:cT): iL w cQ 0 []:=⟨rfl,λ_ k=>absurd k (aU _)⟩
theorem afL{g:Nat}{w:cT}(h:w.heap[g]?=cR (cS ⟨jK.row⟩ 51 (0,0))): (abr g).At w:=by
 refine⟨⟨rfl,λj s n=>by simp [abr]at n⟩,⟨rfl,λj l i=>?_⟩,of_decide_eq_true lB⟩;cases j with
 |succ j=>simp [abr]at i
 |zero=>
  have i:jK=l:=by simpa [abr]using i
  subst i;exact⟨⟨jd _,jd _,jd _,abm _,nX _,nX _,Nat.zero_le _⟩,g,0,rfl,gp h lz⟩
theorem agi{X V:cT}{A:Option cX}{cap d f lc:Nat}(q:bH [] X V)(G:dB X A 1 aad)(ad:V.rangeAt d f jK.row)(bk:V.rangeAt d (f+31) (aac A cap).row)(n:X.heap.size<=d/\d<V.heap.size){F:cT}
  (m:F=(V.alloc (cS #[(2:Int)] 3)).setCell ⟨d,f+15,cQ⟩ (b2 (cR ⟨V,0,cQ⟩) 1 1)) :
  bH [] X F/\(Z4 (cR ⟨d,f,cQ⟩) lc A cap V.heap.size).At F:=by
 have U:bH [] X F:=by rw [m];exact (q.a _).setCell _ (.inr n.1)
 have M:bH [] _ _:=(tR V).alloc (cS #[(2:Int)] 3);have p:∀k u,V.cell? ⟨d,k,cQ⟩=cR u->k≠f+15->F.cell? ⟨d,k,cQ⟩=cR u:=λk u o B=>by rw [m];refine Eq.t (by apply World.cell?_setCell_other;intro e;injection e with _ e _;exact B e.symm) ?_;exact ((bY M).1 _ _ n.2).t o
 have w:F.cell? ⟨d,f+15,cQ⟩=cR (b2 (cR ⟨V,0,cQ⟩) 1 1):=by rw [m];apply World.cell?_setCell_same;exact ((bY M).1 _ _ n.2).t (ad 15 _ rfl)
 have x:F.cell? ⟨V,0,cQ⟩=cR (.int .i64 2):=by rw [m];refine Eq.t (by apply World.cell?_setCell_other;intro e;injection e with e _ _;omega) ?_;rw [aA _ _ _ _ _ _ (cV V _)];rfl
 refine⟨U,⟨rfl,λj s E=>by simp [Z4]at E⟩,⟨rfl,λj l i=>?_⟩,of_decide_eq_true lB⟩;match j,i with
 |0,i=>
  have i:ab6 V.heap.size=l:=by simpa [Z4]using i
  subst i;refine⟨⟨⟨rfl,λj y=>⟨V,0,rfl,?_⟩⟩,jd _,jd _,abm _,nX _,nX _,of_decide_eq_true lB⟩,d,f,rfl,λk u o=>?_⟩
  .obtain rfl:j=0:=Nat.lt_one_iff.1 y;exact x
  rw [Nat.zero_mul,Nat.add_zero];have C:(ab6 V.heap.size).row=jK.row.set 15 (b2 (cR ⟨V,0,cQ⟩) 1 1):=rfl;rw [C]at o;by_cases h:k=15
  .subst h;rw [List.getElem?_set_self lG]at o;rw [<-o];exact w
  rw [List.getElem?_set_ne (λe=>h e.symm)]at o;exact p _ _ (ad k u o) gn
 |1,i=>
  have i:aac A cap=l:=by simpa [Z4]using i
  subst i;refine⟨⟨jd _,jd _,jd _,abm _,G.u U,nX _,Nat.zero_le _⟩,d,f,rfl,λk u o=>?_⟩;rw [Nat.one_mul];exact p _ _ (bk k u o) gn
 |j+2,i=>simp [Z4]at i
theorem ada(u:cT): (Instr.storeAt 80 (cK (cR ⟨u,0,cQ⟩)) (cM V9)).run prog (u.alloc (cS V9 80))=.ok () (u.alloc (cS V9 80)):=
 run_storeAt_new u 80 _ V9 lB rfl lB
theorem adq{u:cT}{b:Nat}{A:Option cX}{x y:Int}{n c:Nat}(h:u.heap[b]?=cR (cS #[b2 cQ 0 0,x,y,b2 A n c] 29 (0,0))): (Instr.loadAt 29 (cK (cR ⟨b,0,cQ⟩))).run prog u=.ok (cM #[b2 cQ 0 0,x,y,b2 A n c]) u:=
 run_loadAt_mid u b 0 29 [b2 cQ 0 0,x,y,b2 A n c] _ (gp h rfl) underlying29 rfl lB
theorem aes{k:kD}{w:cT}{base:Nat}{v:cU}{a:List (List cU)}(h:iK k w base v a): ∃A n c,v=b2 A n c:=by rcases iK.form h with ⟨rfl,_⟩|⟨g,o,d,rfl,_⟩<;>exact⟨_,_,_,rfl⟩
theorem aft{w w':cT}{e:Ending}(h:afl w w' [] e): ∃A c,e=.returned (b2 A 0 c):=by obtain⟨v,rfl,a⟩:=h;unfold VO at a;obtain⟨A,n,c,rfl⟩:=aes a;have G:n=0:=(iK.rowsAt a).2;exact⟨A,c,by rw [G]⟩
theorem afM(r:Rc)(w:cT): (binOp .eql 59 (cM #[r.x0,r.y0,r.x1,r.y1]) (cM #[r.x0,r.y0,r.x1,r.y1])).run prog w=.ok (.bool c1) w:=nJ
theorem JS(w:cT): CR 7 #[] w (.bool c1):=by
 obtain⟨bb,aw,bs,br⟩:=lh4 (yE 1 lG lG) gI (λu=>gX u (fB 1)) (λu=>Qi [] cQ 0 0 3 4 0 0 0 1 lG lG lG lG lG lG 0 0 rfl rfl u (nX u));go_enter func7,ntmps7;go_upto_region 2 with (go_at_call 23;(with_reducible refine (Sv _).mono ?_);rintro e w1 ⟨⟨J,rfl,im,av⟩,t1⟩)
 obtain⟨W1,b7⟩:=eX (w1.alloc (cS #[b2 cQ 0 0,(1:Int),(2:Int),b2 (cR ⟨J,0,cQ⟩) 1 1] 29));have x1:bH [] w W1:=by rw [b7];exact t1.a _
 have l:=YE b7
 have L:W1.heap[J]?=cR (cS ⟨jK.row⟩ 51 (0,0)):=(((tR w1).a _).old _ (ae.1 av).1 lz |> λe=>(by rw [b7];exact e.t av));rw [<-b7];obtain⟨af,s,M⟩:=lh3 x1 l L;clear b7 x1 l L im av t1;generalize w1.heap.size=b1 at *;go_upto_region 3 with (first
  |(go_at_call 24;refine mR (bb.o _) λw2 t2=>?_)
  |(refine yR 2 (di (t:=51) rfl (aw.o _)) ?_)
  |(refine sR (bs.o _) ?_))
 obtain⟨W2,ap⟩:=eX (w2.alloc (cS ⟨(fB 1).row⟩ 51));have T2:bH [] W1 W2:=by rw [ap];exact t2.a _
 have p:=YE ap
 have l:=T2.ox s.o;have kk:b1<w2.heap.size:=aj (ae.1 s.o).1 t2.size;have cd:J<w2.heap.size:=aj (ae.1 M.o).1 t2.size;have ch:w.heap.size<=w2.heap.size:=aK af.o.size t2.size;have L:=T2.ox M.o;rw [<-ap];have z2:=cO 2 (2:Int) l;have zf:=dD p 0;have y0:=cP 0 (0:Int) p;obtain⟨bh,HN,s,B,M⟩:=lh5 (af.o.t T2) (bg kk (bg cd ch)) l p L;clear ap t2 T2 bb aw bs l p L kk cd ch af;generalize w2.heap.size=G at *;go_upto_region 4 with fail
 have p:(W2.setCell ⟨G,0,cQ⟩ (2:Int)).heap[G]?=cR (cS ⟨({ fB 1 with id:=2 }:bI).row⟩ 51 (0,0)):=dU B.o rfl;have l:=(dG W2 G 0 (2:Int) b1 nk).t s.o;have L:=(dG W2 G 0 (2:Int) J nk).t M.o;have T3:bH [] w (W2.setCell ⟨G,0,cQ⟩ (2:Int)):=bh.o.setCell _ (.inr (by show w.heap.size<=G;exact HN.o.2.2));obtain⟨s,B,M,bj⟩:=lh4 l p L T3;clear z2 zf y0 l p L T3 bh;generalize W2.setCell ⟨G,0,cQ⟩ (2:Int)=W3 at *;go_upto_region 5 with (go_at_call 14;(with_reducible refine (br.o _).mono ?_);rintro e w4 ⟨hG,t4⟩;obtain⟨m,n9,C,cD,E,ay,c6⟩:=hG)
 obtain⟨rfl,rfl⟩:cD=aad/\E=0:=c6 (by trivial) lG lG lG;obtain rfl:n9=1:=ay.1.t aec;obtain⟨V,b9⟩:=eX (w4.alloc (cS #[b2 m 1 C,(0:Int)] 54));have T4:bH [] W3 V:=by rw [b9];exact t4.a _
 have h3:=YE b9
 have l:=T4.ox s.o;have p:=T4.ox B.o;have L:=T4.ox M.o;have a2:dB V m 1 aad:=by rw [b9];exact ay.u ((tR w4).a _)
 rw [<-b9];have z3:=cO 0 (b2 m 1 C) h3;have zf:=dD p 28;have cG:=cP 28 (b2 cQ 0 0) p;obtain⟨bt,s,B,M,a6⟩:=lh5 (bj.o.t T4) l p L a2;clear b9 t4 T4 l p h3 L a2 ay c6 br bj;generalize w4.heap.size=b3 at *;go_upto_region 6 with fail
 have p:(V.setCell ⟨G,28,cQ⟩ (b2 m 1 C)).heap[G]?=cR (cS ⟨(aac m C).row⟩ 51 (0,0)):=dU B.o (afT m C);have l:=(dG V G 28 (b2 m 1 C) b1 nk).t s.o;have L:=(dG V G 28 (b2 m 1 C) J nk).t M.o;have T5:bH [] w (V.setCell ⟨G,28,cQ⟩ (b2 m 1 C)):=bt.o.setCell _ (.inr (by show w.heap.size<=G;exact HN.o.2.2));have a2:dB (V.setCell ⟨G,28,cQ⟩ (b2 m 1 C)) m 1 aad:=acx a6.o B.o lG 28 _;obtain⟨bA,s,B,M,a6⟩:=lh5 T5 l p L a2;clear z3 zf cG l p L T5 bt a2;generalize V.setCell ⟨G,28,cQ⟩ (b2 m 1 C)=X at *;have HM:=lh (abM m C);have cx:aac m C={ fB 1 with id:=2,tA:=m,tn:=1,tc:=C,Xm:=aad }:=rfl;clear cx;go_cut [4] (λs4 wx=>∃b4 A n c,s4=cK (cR ⟨b4,0,cQ⟩)/\agy X jK (aac m C) b4 (b2 A n c) wx);case first=>
  clear a6 HM;generalize aac m C=ml,jK=W at *;have q1:=cO 1 (1:Int) s.o;have q2:=cO 2 (2:Int) s.o;have q3:=cO 3 (b2 (cR ⟨J,0,cQ⟩) 1 1) s.o;have cc:=lh (λu:cT=>(show (Instr.buildSlice 27 0 #[]).run prog u=.ok (b2 (cR ⟨u,0,cQ⟩) 0 0) (u.alloc (cS #[] 51)) by kernel_rfl));have cp:Hid (∀u:cT,(Instr.buildSlice 27 1 #[(0,ml.v)]).run prog u=.ok (b2 (cR ⟨u,0,cQ⟩) 1 1) (u.alloc (cS ⟨ml.row⟩ 51))):=lh λu=>nG (k:=jS) underlying27 (kT ml) u;have ar:=lh aer;apply fP (X:=X) (ml:=ml) [W.row,ml.row] c1;intro LE;apply fP (X:=X) (ml:=ml) [W.row,ml.row] c2;intro LR;apply bV (X:=X) (ml:=ml) 8 [W.row] c1 c1;intro LO;apply bV (X:=X) (ml:=ml) 8 [W.row] c2 c1;intro LN;apply bV (X:=X) (ml:=ml) 8 [W.row] c1 c2;intro LM;apply bV (X:=X) (ml:=ml) 8 [W.row] c2 c2;intro LJ;apply bV (X:=X) (ml:=ml) 5 [] c1 c1;intro LI;apply bV (X:=X) (ml:=ml) 5 [] c2 c1;intro LG;apply bV (X:=X) (ml:=ml) 5 [] c1 c2;intro LF;apply bV (X:=X) (ml:=ml) 0 [] c1 c1;intro LD;apply bV (X:=X) (ml:=ml) 0 [] c2 c1;intro LC;apply bV (X:=X) (ml:=ml) 0 [] c1 c2;intro LB;apply bV (X:=X) (ml:=ml) 5 [] c2 c2;intro LA;refine cu.start (λw'=>bH [] X w') 14 lB ?_;obtain⟨g,b,v,u1,u2,H⟩:∃(g b:Nat) (v u1 u2:cU),cZ X ml 0 [] c2 c2 g b v X.drew:=⟨0,0,_,b2 cQ 0 0,b2 cQ 0 0,(tR X).drawn 1,jU _ _ _,nofun,nofun⟩;generalize X.drew=Y at *;have hS:=H.h;refine fK 0 ?_;refine Xy 1 (1:Int) (λw' R=>((bY R).1 _ _ (ai q1)).t q1) ?_;refine fK 2 ?_;refine Xy 3 (2:Int) (λw' R=>((bY R).1 _ _ (ai q2)).t q2) ?_;refine fE 4 (3:Int) ?_ rfl (j:=λw' R=>by have e0:IntKind.i64.wrap 3=3:=rfl;go_simp);refine fK 6 ?_;refine Xy 7 (b2 (cR ⟨J,0,cQ⟩) 1 1) (λw' R=>((bY R).1 _ _ (ai q3)).t q3) ?_;refine Xz 9 (ml.v) (λw' R=>XU (R.ox B.o)) ?_;clear hS;refine cu.three (i:=5) (j:=10) (k:=13) rfl rfl rfl lB rfl rfl rfl (λK f=>?_) (λK f=>?_) (λK f=>?_);iterate 33
   first
   |((revert f;intro f);(first
     |(refine bZ (d:=cR 29) rfl (acD (t:=27) rfl (cc.o _)) ?_;replace H:=H.s5;generalize Y.alloc (cS #[] 51)=Z,Value.slice (cR ⟨Y,0,cQ⟩) 0 0=y at H ⊢)
     |(refine bZ (d:=cR 34) rfl (dV (t:=27) (x:=.tmp 33) rfl rfl (cp.o _)) ?_;replace H:=H.s10;generalize Y.alloc (cS ⟨ml.row⟩ 51)=Z,Y.heap.size=y at H ⊢)
     |(refine bZ (d:=cR 4) rfl (di rfl (ar.o _)) ?_;replace H:=H.s13;generalize Y.alloc (cS #[b2 cQ 0 0,(0:Int),(0:Int),b2 cQ 0 0] 29)=Z,Y.heap.size=y at H ⊢)
     |(obtain⟨y,Z,a1,B⟩:=H.app W J 8 (gp (H.h.ox M.o) lz) lz;refine bZ (d:=cR 32) rfl (dL (.tmp 29) (.tmp 31) 27 rfl rfl rfl a1) ?_;clear H a1;obtain⟨u1,rfl⟩:=eX v;have H:=B;clear B)
     |(obtain⟨y,Z,a1,B⟩:=H.app ml g 11 (gp (H.t rfl).1 lz) lz;refine bZ (d:=cR 35) rfl (dL (.tmp 32) (.tmp 34) 27 rfl rfl rfl a1) ?_;clear H a1;obtain⟨u2,rfl⟩:=eX v;have H:=B;clear B));refine f _ _ (λ_=>H.h) ?_;clear f K;(try go_frame);first
    |exact (LA _ _ _ u1 u2 _ H :)
    |exact (LB _ _ _ u1 u2 _ H :)
    |exact (LC _ _ _ u1 u2 _ H :)
    |exact (LD _ _ _ u1 u2 _ H :)
    |exact (LF _ _ _ u1 u2 _ H :)
    |exact (LG _ _ _ u1 u2 _ H :)
    |exact (LI _ _ _ u1 u2 _ H :)
    |exact (LJ _ _ _ u1 u2 _ H :)
    |exact (LM _ _ _ u1 u2 _ H :)
    |exact (LN _ _ _ u1 u2 _ H :)
    |exact (LO _ _ _ u1 u2 _ H :)
    |exact (LE _ _ _ _ _ u1 u2 _ H :)
    |(obtain⟨A,n,c,rfl⟩:=aes H.o;have hS:=H.h;refine fE 12 (cM #[b2 cQ 0 0,(1:Int),(3:Int),b2 A n c]) ?_ rfl (j:=λw' R=>Gu rfl rfl rfl rfl (afe w' A n c));first
     |exact (LR _ _ _ _ _ u1 u2 _ H :)
     |exact (LE _ _ _ _ _ u1 u2 _ H :)))
   |(intro g b v u1 u2 Y H;first
    |refine cu.three (i:=8) (j:=10) (k:=13) rfl rfl rfl (by decide +kernel) rfl rfl rfl (λK f=>?_) (λK f=>?_) (λK f=>?_)
    |refine cu.two (i:=5) (j:=13) rfl rfl (by decide +kernel) rfl rfl (λK f=>?_) (λK f=>?_)
    |refine cu.two (i:=5) (j:=10) rfl rfl (by decide +kernel) rfl rfl (λK f=>?_) (λK f=>?_)
    |refine cu.one (i:=5) rfl (by decide +kernel) rfl (λK f=>?_)
    |refine cu.two (i:=8) (j:=13) rfl rfl (by decide +kernel) rfl rfl (λK f=>?_) (λK f=>?_)
    |refine cu.two (i:=8) (j:=10) rfl rfl (by decide +kernel) rfl rfl (λK f=>?_) (λK f=>?_)
    |refine cu.one (i:=8) rfl (by decide +kernel) rfl (λK f=>?_)
    |refine cu.two (i:=10) (j:=13) rfl rfl (by decide +kernel) rfl rfl (λK f=>?_) (λK f=>?_)
    |refine cu.two (i:=11) (j:=13) rfl rfl (by decide +kernel) rfl rfl (λK f=>?_) (λK f=>?_)
    |refine cu.one (i:=10) rfl (by decide +kernel) rfl (λK f=>?_)
    |refine cu.one (i:=11) rfl (by decide +kernel) rfl (λK f=>?_))
  intro g b A n c u1 u2 Y H;refine eH 13 (λK f=>?_);refine bZ (d:=cR 4) rfl (di rfl (ar.o _)) ?_;replace H:=H.s13;generalize Y.alloc (cS #[b2 cQ 0 0,(0:Int),(0:Int),b2 cQ 0 0] 29)=Z,Y.heap.size=y at H ⊢;refine f _ _ (λ_=>H.h) ?_;clear f K;try go_frame
  exact (LE _ _ _ _ _ u1 u2 _ H :);intro g b A n c u1 u2 Y H;refine eH 14 (λK f=>?_);obtain⟨l,p,h3⟩:=H.d rfl;have c7:=jV (ty:=29) (cells:=#[b2 cQ 0 0,(1:Int),(3:Int),b2 A n c]) l yT rfl lW;refine fO (d:=cQ) rfl 29 (.tmp 4) (.tmp 36) rfl rfl rfl c7 ?_;refine gZ f ?_;clear f K c7
  refine Wy ?_;have hF:agy X W ml b (b2 A n c) (Y.setRow b #[b2 cQ 0 0,(1:Int),(3:Int),b2 A n c]):=⟨H.h.setRow _ (.inr h3),eQ (L':=[b2 cQ 0 0,(1:Int),(3:Int),b2 A n c]) l,iK.kept H.o ((bH.refl [b] Y).setRow _ (.inl lz)) (λq hq h=>p (by rw [aN.1 h]at hq;exact hq)),p,h3⟩;go_wp2;go_meet;exact⟨b,A,n,c,rfl,hF⟩
 obtain⟨b4,lA,ln,lc,rfl,O⟩:=hcut;obtain⟨aq,cw⟩:=iK.rowsAt O.own;obtain rfl:ln=2:=cw;obtain⟨N,lo,rfl,a9⟩:=aq 0 jK.row rfl;obtain⟨_,_,e',bk⟩:=aq 1 (aac m C).row rfl;cases e';rw [Nat.zero_mul,Nat.add_zero]at a9;rw [Nat.one_mul]at bk;have am:=aaV O.own (g:=N) mo;have ce:b4≠N:=λe=>O.ne (by rw [e];simp [dI,Value.ownBlock]);obtain⟨_,_,cF,fb⟩:=O.own.2.lt N mo;have q3:=cO 3 (b2 (cR ⟨N,lo,cQ⟩) 2 lc) O.h4;have y0:=cP 0 (2:Int) (O.t.ox B.o);obtain⟨U,hU⟩:=eX (wc.alloc (cS #[(2:Int)] 3));have TU:bH [] wc U:=hU▸(tR wc).a _;have bf:=lh (show (Instr.buildSlice 22 1 #[(0,(2:Int))]).run prog wc=.ok (b2 (cR ⟨wc,0,cQ⟩) 1 1) U by rw [hU];kernel_rfl);have cB:U.cell? ⟨N,lo+15,cQ⟩=cR (b2 cQ 0 0):=((bY TU).1 _ _ am.2).t (a9 15 _ rfl);have kf:U.frozen? ⟨N,lo+15,cQ⟩=c2:=((bY TU).2 _ _ am.2).t (by simp [World.frozen?,fb]);obtain⟨F,hF⟩:=eX (U.setCell ⟨N,lo+15,cQ⟩ (b2 (cR ⟨wc,0,cQ⟩) 1 1));obtain⟨a7,bF⟩:=agi (lc:=lc) O.t a6.o a9 bk am (F:=F) (by rw [hF,hU]);obtain⟨a4,bR,bd,be,bo,bl,bm⟩:=lh7 bF (bA.o.t a7) (a7.ox s.o) (a7.ox B.o) (a7.ox M.o) (show F.heap[b4]?=cR (cS #[b2 cQ 0 0,(1:Int),(3:Int),b2 (cR ⟨N,lo,cQ⟩) 2 lc] 29 (0,0)) by rw [hF,dG _ _ _ _ _ ce];exact TU.ox O.h4) hF;clear aq a9 bk am ce fb O TU hU bF a7 hF s B M a6 bA HN HM;as_aux_lemma=>
 generalize cv:wc.heap.size=gk at *;go_upto_region 8 with ((with_reducible refine yA 41 (b2 (cR ⟨gk,0,cQ⟩) 1 1) U ?_ ?_);(next=>exact dV (t:=22) (x:=.tmp 40) rfl rfl bf.o);try go_frame)
 rw [<-bm.o];clear bm bf cB kf q3 y0 cv;have y0:=cP 0 (2:Int) be.o;have bP:=RU a4.o (aah _ _ _ _ _) (acf _ _ _ _ _);have c9:=zY a4.o (aah _ _ _ _ _) (acf _ _ _ _ _);have a3:=BQ _ cQ 2 F a4.o bP c9 (λ_=>afQ _ _ _ _ _ _ a4.o);rw [aeW]at a3;simp only [Option.getD_some,Option.isSome_some,Rc.v]at a3;have aa:=lh a3;have bp:=lh (adq bl.o);have a0:(Z4 (cR ⟨N,lo,cQ⟩) lc m C gk).v=cM #[b2 cQ 0 0,(1:Int),(3:Int),b2 (cR ⟨N,lo,cQ⟩) 2 lc]:=rfl;rw [a0]at aa;clear a3 bP c9 a4 a0;go_upto_region 9 with (first
  |(refine lR 45 bp.o ?_)
  |(go_at_call 22;refine mR aa.o λw8 t8=>?_))
 obtain⟨I,ad⟩:=eX (w8.alloc (cS #[(3:Int),(4:Int),(4:Int),(5:Int)] 59));have T8:bH [] F I:=ad▸t8.a _;have h5:=YE ad
 rw [<-ad];obtain⟨bL,s,M,H5⟩:=lh4 (bR.o.t T8) (T8.ox bd.o) (T8.ox bo.o) h5;clear ad T8 t8 h5 y0 aa bp bd be bo bl bR;generalize w8.heap.size=b5 at *;as_aux_lemma=>
 have bq:=lh (afB I);go_upto_region 10 with (go_at_call 25;refine mR bq.o λw9 k8=>?_;subst k8)
 obtain⟨w9,k8⟩:=eX ((I.alloc (.map #[] 0)).alloc (cS (XE 1 I.heap.size 0 0 0 0) 132));rw [<-k8];have T9:bH [] I w9:=by rw [k8];exact ((tR I).a _).a _
 have bS:CS (I.heap.size+1) I.heap.size 0 0 0 #[] 0 w9:=by
  refine⟨?_,?_⟩
  .rw [k8];have:=cV (I.alloc (.map #[] 0)) (cS (XE 1 I.heap.size 0 0 0 0) 132);rw [aI]at this;exact this
  rw [k8,yV,aF (by rw [aI];omega)];exact (MapKept.heap_alloc I _).1
 have cy:=aQ I.heap.size;generalize bM:I.heap.size+1=cb at *;have ax:=lh bM;generalize c8:I.heap.size=cr at *;obtain⟨aD,aL,bB⟩:=lh3 c8 bS T9;clear k8 bS cy bM c8 T9 bq;have bE:=lh (λ(u:cT) (t:bH [cb,cr] w9 u)=>(show bH [] I u from bB.o.fresh t (by have l:=ax.o;have p:=aD.o;intro b hb;simp at hb;omega)));have an:=aeI aL.o;rw [QQ]at an;have cg:=lh an;clear an;go_upto_region 11 with (go_at_call 26;(with_reducible refine cg.o.mono ?_);rintro e cH ⟨rfl,bX,ci⟩;have aM:=lh bX;have bv:=lh ci;clear bX ci)
 have b6:=aeD aM.o;rw [QQ]at b6;have cn:=lh b6;clear b6;go_upto_region 12 with (go_at_call 26;(with_reducible refine cn.o.mono ?_);rintro e cI ⟨rfl,c0,cj⟩;have aR:=lh c0;have bw:=lh (bv.o.t cj);clear c0 cj)
 go_upto_region 13 with (first
  |(go_at_call 27;(with_reducible refine (agj aR.o).mono ?_);rintro e ba ⟨rfl,bT,ck⟩;have b0:=lh bT;have bx:=lh (bw.o.t (ck.mono lz));clear bT ck)
  |((with_reducible refine yA 8 (cK (cR ⟨ba,0,cQ⟩)) (ba.alloc (cS V9 80)) ?_ ?_);(next=>exact di (t:=80) rfl (ww ba));try go_frame)
  |(refine sR (ada ba) ?_))
 have b8:=lh (((tR ba).alloc (cS V9 80)).ox b0.o);have bz:=lh (bx.o.alloc (cS V9 80));generalize ba.alloc (cS V9 80)=cE at *;go_upto_region 14 with (go_at_call 28;(with_reducible refine (aeh _ _ _ _ _ _ _ _ _ b8.o).mono ?_);rintro e bc ⟨rfl,nd,ab⟩;subst ab)
 obtain⟨bc,ab⟩:=eX (cE.drewN nd);rw [<-ab];have a5:=lh (show bH [] I bc from bE.o _ (by rw [ab];exact bz.o.drawn nd));have cm:=lh (a5.o.ox M.o);have l:=a5.o.ox s.o;have h5:=a5.o.ox H5.o;have cq:=lh (bL.o.t a5.o);clear ab b8 bz b0 bx aR bw aM bv aL bE bB ax aD a5 M s H5 bL;as_aux_lemma=>
 have ao:=afL cm.o;have a8:=adc (abr J) cQ 1 ⟨0,0,9,9⟩ bc ao (RU ao (abP J) (adG J)) (zY ao (abP J) (adG J));rw [aea]at a8;have a0:(abr J).v=cM #[b2 cQ 0 0,(1:Int),(2:Int),b2 (cR ⟨J,0,cQ⟩) 1 1]:=rfl;rw [a0]at a8;simp only [Rc.v]at a8;have cl:=lh a8;have co:=lh (adq l);have q1:=cO 1 (1:Int) l;have cf:=lh h5;have ct:=afM ⟨3,4,4,5⟩;simp only at ct;clear ao a8 a0 l h5;go_wp2_with (first
  |(refine lR 69 co.o ?_)
  |(go_at_call 29;(with_reducible refine cl.o.mono ?_);rintro e cJ ⟨ca,aE⟩;obtain⟨Az,cz,rfl⟩:=aft ca;have cs:=lh (cq.o.t aE);have ac:=aE.ox cf.o;have z0:=cO 0 (3:Int) ac;have z1:=cO 1 (4:Int) ac;have z2:=cO 2 (4:Int) ac;have z3:=cO 3 (5:Int) ac;clear ca aE ac))
 go_ret;exact⟨rfl,cs.o⟩
