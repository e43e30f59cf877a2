import Derived.Test.YtaahejdimjbhhaaGreatDoorK31
import Derived.Test.YtaahejdimjbhhaaGreatDoorK32
set_option maxRecDepth 100000
set_option maxHeartbeats 0
set_option linter.all false
namespace Go.Proofs.YtaahejdimjbhhaaGreatDoor
open Tryz Go.RowKit Go.Den
open Option renaming some->cw,none->cx
open Go.Value renaming string->cy,pointer->cz,slice->cB
open Go.Obj renaming cells->cD
theorem adp{X w V:World}{b:BAr}{v:Value}(h:(Instr.buildSlice 107 1 #[(0,cy b)]).run prog w=.ok v V)(t:bH [] X w): bH [] X V:=qR
theorem abY(d:df)(D:bI->Rc->Bs)(M:bI->Rc)(a4:∀l r,(D l r).length<=32)(ag0:List Int)(C:List bI)(bP:C.length=ag0.length)(bL:∀j l,C[j]?=cw l->dh d.agY (ag0.getD j 0)=cw l)(A:Option Addr)(n cap:Nat)(hn:n<=50)(r:Rc)(hr:r.InC)(w:World)(hd:d.At w)(hG:YQ w)(b4:∀l∈d.agY,l.Thin)(hA:dn w A n ag0)
  (bp:∀l∈C,l.ag1=3->jC l.Xg l.ks l.cs=true) (bB:∀l∈C,l∈d.agY)
  (bM:∀l∈C,l.ag1≠3->∀m,l.Like m->∀q,q.InC->∀u,bH [] w u->m.At u->CR 34 #[d.v,m.v,q.v] u (cy ⟨(D l q).toArray⟩))
  (bv:∀l∈C,l.ag1≠3->∀m,l.Like m->∀u,bH [] w u->m.At u->Calls prog 64 #[d.v,m.v] u λe w'=>e=.returned (M l).v/\bH [] u w')
  (bA:∀i l q,(Ye C r)[i]?=cw (l,q)->l.ag1=3->∃(k:Nat) (ks:List Int),(∀u,bH [] w u->Calls prog 127 #[d.v,l.id] u λe w'=>(∃v,(∃A c,v=cB A k c/\dn w' A k ks)/\e=.returned v)/\bH [] u w')/\
   (∀u A c,bH [] w u->dn u A k ks->Calls prog 125 #[d.v,cB A k c] u λe w'=>e=.returned (ZR M (YB (Ye C r) i).reverse).v/\bH [] u w')) :
  Calls prog 145 #[d.v,cB A n cap,r.v] w λe w'=>(∃v,e=.returned v/\Yg w' w.heap.size v (Yq Jd D M [] (Ye C r)))/\bH [] w w':=by
 have bf:=lh (λu (t:bH [] w u)=>ZP d ag0 C bP bL A n cap hn r hr u (hd.u t) b4 (hA.u t) (λj l hj _ N=>bp l (aH hj) N));have bS:∀x∈Ye C r,x.1∈C:=λx R=>(aaO r C R).1;have bX:∀x∈Ye C r,x.1.ag3=false:=λx R=>(aaO r C R).2;have bT:∀x∈Ye C r,x.2.InC:=adz C hr;have cM:(Ye C r).length<=50:=by have:=aai C r;have:=hA.1;omega
 generalize Ye C r=ld at *;obtain⟨b8,c8,aq,c9,bj,HX,b9,HG⟩:=lh8 bM bv bA bp (λl (h:l∈C)=>b4 l (bB l h)) (bg bS (bg bX (bg bT cM))) a4 hG;obtain⟨W,hW⟩:=eX ((w.alloc (cD #[cB d.sA d.sn d.sc,d.root,d.next,cB d.lA d.ln d.lc] 94)).alloc (cD #[r.x0,r.y0,r.x1,r.y1] 59));have T0:bH [] w W:=hW▸((tR w).a _).a _;have h0:W.heap[w.heap.size]?=cw (cD #[cB d.sA d.sn d.sc,d.root,d.next,cB d.lA d.ln d.lc] 94 (0,0)):=by rw [hW];simp only [Xx,aI];rw [aF gn,aG lL]
 have h1:W.heap[w.heap.size+1]?=cw (cD #[r.x0,r.y0,r.x1,r.y1] 59 (0,0)):=by rw [hW];simp only [Xx,aI];rw [aG lL]
 obtain⟨H0,ba,be,HW,aD⟩:=lh5 h0 (XP h0) (Ob h1) hW T0;clear bP bL hn hr hd b4 hA bp bB bM bv bA bS bX bT cM hW T0 h0 h1 a4 hG;have bE:d.v=.agg #[cB d.sA d.sn d.sc,d.root,d.next,cB d.lA d.ln d.lc]:=rfl;have c0:r.v=.agg #[r.x0,r.y0,r.x1,r.y1]:=rfl;rw [bE,c0];clear bE c0;go_enter func145,ntmps145;go_upto_region 1 with fail
 rw [<-HW.o];clear HW;go_upto_region 3 with (first
  |(refine lR 11 ba.o ?_)
  |(refine lR 13 be.o ?_)
  |(go_at_call 71;(with_reducible refine (bf.o W aD.o).mono ?_);rintro e W2 ⟨⟨v7,ds,rfl,ov,U,bw⟩,t2⟩;obtain⟨A7,Z,c7,rfl⟩:=ov.slice))
 have an:acY W2 A7 Z ds:=by
  have hz:=ov.rows (p:=0);refine⟨?_,?_,?_,λx R=>(bw x R).now⟩
  .have:=ov.rowsAt.2;rwa [aJ]at this
  .have h1:=ov.rowsAt.2;rw [aJ]at h1;have:=U.len;have:=HX.o.2.2.2;omega
  intro j x R;obtain⟨g,o,e,hr⟩:=ov.rowsAt.1 j (DF x) (by rw [aP,R];rfl);exact⟨g,o,e,hr⟩
 obtain⟨HA,aM,bb,H2,HN⟩:=lh5 an (aD.o.t t2) U (t2.ox H0.o) (bg an.n50 (an.len.t U.len.symm));clear an ov U bw t2 bf ba be aD H0;go_upto_region 4 with fail
 go_loopw [8,17] (λs8 s17 wr=>∃k:Nat,k<=Z/\s17=k/\Yg wr W2.heap.size s8 (pI D M ld k)/\bH [] W2 wr) (λ_ s17 _=>Z-(intOf s17).toNat);case atStart=>exact⟨0,gn,rfl,ZN _ _,bH.refl _ _⟩
 obtain⟨k,hk,rfl,hO,hT⟩:=hrel;by_cases ce:k<Z
 .obtain⟨⟨m,q⟩,c6⟩:∃y,ds[k]?=cw y:=⟨_,aB (by rw [<-HA.o.len];exact ce)⟩;obtain⟨l,hl,U⟩:=bb.o.get k _ c6;have aa:=aH hl;have a4:=HX.o.1 _ aa;have bt:=HX.o.2.1 _ aa;have ap:=HX.o.2.2.1 _ aa;have F:=U.thin (bj.o l a4);have b3:=aH c6;obtain⟨g,o,rfl,bR,_⟩:=(HA.o.u hT).load c6;have Q:=adu D M hl;simp only at hl U aa a4 bt ap F b3 Q;obtain⟨fc,fk⟩:=adn U;obtain⟨fm,fi,ff,fw,fb⟩:=abE U;unfold YX at Q;rw [aF (by rw [bt];simp)]at Q;have bs:=lh (λu=>abd u (m,q));have b5:=lh abk;obtain⟨X,hX⟩:=eX (wr.alloc (cD ⟨DF (m,q)⟩ 144));have TX:bH [] wr X:=hX▸(tR wr).a _;have ac:=YE hX
  have z1:=cP 1 m.ag1 ac;have z0:=cP 0 m.id ac;have H:=cP 5 m.mode ac;rw [fi]at z0;rw [fk]at z1;rw [fm]at H;obtain⟨bk,bc,I⟩:=lh3 hX bR (hT.t TX);have B:Hid (jq w d m q wr.heap.size X):=lh ⟨aM.o.t (hT.t TX),I.o.ox H2.o,ac⟩;have G:=lh (hO.u TX);have ar:=lh (HA.o.u I.o);have a7:=lh (bg U (bg a4 (bg ap (bg F b3))));have O:=lh (HG.o.u B.o.t);have bh:Hid ((pI D M ld k).length+1<=100000):=lh (by have:=aeH D M ld k;have:=HN.o.1;omega);have S:=lh (λu (t:bH [] X u)=>adh d D b9.o ld ds _ Z c7 k l m q hl c6 bb.o HX.o.2.1 (λx R=>bj.o _ (HX.o.1 x R)) u (ar.o.u t) (O.o.u t) (λx R N m2 cf v tv av=>b8.o x.1 (HX.o.1 x R) N m2 cf q ap v ((B.o.t.t t).t tv) av));have aw:=lh (aq.o k l q hl);have b0:(0:Int)<=(k:Int):=gn
  have b1:(k:Int)<(Z:Int):=gn
  have b2:(k:Int)<=50:=by have:=HN.o.1;omega
  have ao:(aay Jd D (YB ld k) l q).length=32:=XN _;generalize aay Jd D (YB ld k) l q=CV at *;clear hX TX ac bR hT hO c6 hl U aa a4 bt ap F b3 fc fk fm fi;as_aux_lemma=>
  go_upto_region 6 with (first
   |(refine lR 21 bc.o ?_)
   |((with_reducible refine yA 10 (cz (cw ⟨wr,0,cx⟩)) (wr.alloc (cD ⟨WQ⟩ 144)) ?_ ?_);(next=>exact di (t:=144) rfl (b5.o _));try go_frame)
   |(refine sR (bs.o _) ?_))
  rw [<-bk.o];clear bk bc b5 bs;generalize wr.heap.size=T at *;by_cases N:l.ag1=3
  .rw [N]at z1;rw [aG N]at Q;obtain⟨kb,cv,bx,bz⟩:=aw.o N;have bF:=c9.o l a7.o.2.1 N;obtain⟨b6,b7,aE⟩:=lh3 bx bz (λu (t:bH [] X u)=>ZQ m (fb.t bF) q a7.o.2.2.1.bd u ((ar.o.at_ _ a7.o.2.2.2.2).u t));rw [fw q]at aE;have a5:=lh (λu (t:bH [] X u)=>JB m.Xg m.ks m.cs u ((ar.o.at_ _ a7.o.2.2.2.2).u t).ks ((ar.o.at_ _ a7.o.2.2.2.2).u t).cs (by have:=a7.o.2.2.2.1.a;omega) (by have:=a7.o.2.2.2.1.b;omega));rw [aaT,ff]at a5;clear bx bz bF aw aq;generalize ZR M (YB ld k).reverse=sm,l.wide q=wq at *;(go_upto_region 7 with fail);as_aux_lemma=>
   cases F:XD sm wq with
   |false=>
    have P:=lh (Yr sm wq);rw [F]at P;refine sN 12 (tR X) λY f=>?_;refine Xz 0 (d.v) (λw' z=>XP (B.o.u z).h0) ?_;refine Xz 1 (d.v) (λw' z=>XP (B.o.u z).h0) ?_;refine fK 2 ?_;refine fK 3 ?_;refine Xy 4 l.id (λw' z=>((bY z).1 _ _ (ai z0)).t z0) ?_;refine fK 7 ?_;refine Xz 8 (m.v) (λw' z=>Zl (B.o.u z).h7) ?_;refine fK 9 ?_;refine Xz 10 (q.v) (λw' z=>Zb (B.o.u z).h7) ?_;refine eH 5 (λK s=>?_);go_simp;refine (b6.o _ (B.o.t.t f)).mono ?_;rintro e cg ⟨⟨vb,⟨Ab,cb,rfl,a6⟩,rfl⟩,u1⟩;replace f:=f.t u1;refine gK s f ?_;clear s K u1;refine PR 6 (b7.o _ Ab cb (B.o.t.t f) a6) λck f _=>?_;clear a6;refine PR 11 (aE.o _ f) λcl f _=>?_;refine eH 12 (λK s=>?_);go_simp;refine mR (P.o _) λbm u4=>?_;replace f:=f.t u4;refine gZ s ?_;clear s K u4;refine Wy ?_;replace G:=lh (G.o.u f);replace I:=lh (I.o.t f);replace B:=lh (B.o.u f);replace ar:=lh (ar.o.u f);replace O:=lh (O.o.u f);replace S:=lh (λu (t:bH [] bm u)=>S.o u (f.t t));replace H:=((bY f).1 _ _ (ai H)).t H;clear a5;clear f;clear z0 z1;generalize bm=E at *;have L:=Q;rw [aF sG,List.append_nil]at L;have J:=lh (bg L (bg G.o I.o));go_wp2;go_roundw;case rel=>exact⟨k+1,gn,by go_num,by rw [J.o.1];exact J.o.2.1,J.o.2.2⟩
    simp [intOf];omega
   |true=>
    have P:=lh (Yr sm wq);rw [F]at P;refine sN 12 (tR X) λY f=>?_;refine Xz 0 (d.v) (λw' z=>XP (B.o.u z).h0) ?_;refine Xz 1 (d.v) (λw' z=>XP (B.o.u z).h0) ?_;refine fK 2 ?_;refine fK 3 ?_;refine Xy 4 l.id (λw' z=>((bY z).1 _ _ (ai z0)).t z0) ?_;refine fK 7 ?_;refine Xz 8 (m.v) (λw' z=>Zl (B.o.u z).h7) ?_;refine fK 9 ?_;refine Xz 10 (q.v) (λw' z=>Zb (B.o.u z).h7) ?_;refine eH 5 (λK s=>?_);go_simp;refine (b6.o _ (B.o.t.t f)).mono ?_;rintro e cm ⟨⟨vb,⟨Ab,cb,rfl,a6⟩,rfl⟩,u5⟩;replace f:=f.t u5;refine gK s f ?_;clear s K u5;refine PR 6 (b7.o _ Ab cb (B.o.t.t f) a6) λco f _=>?_;clear a6;refine PR 11 (aE.o _ f) λct f _=>?_;refine eH 12 (λK s=>?_);go_simp;refine mR (P.o _) λaR u8=>?_;replace f:=f.t u8;refine gZ s ?_;clear s K u8;refine Wy ?_;replace G:=lh (G.o.u f);replace I:=lh (I.o.t f);replace B:=lh (B.o.u f);replace ar:=lh (ar.o.u f);replace O:=lh (O.o.u f);replace S:=lh (λu (t:bH [] aR u)=>S.o u (f.t t));replace H:=((bY f).1 _ _ (ai H)).t H;replace a5:=lh (λu (t:bH [] aR u)=>a5.o u (f.t t));clear f;clear z0 z1;generalize aR=E at *;have L:=Q;rw [aG F]at L;have J:=lh L;have a9:(Le [XT,XR l.Xg l.ks l.cs,CV]).length<=100000000000:=(by have h2:m.Thin:=a7.o.2.2.2.1;have h1:=Zy l.Xg l.ks l.cs;have h4:m.At E:=ar.o.at_ _ a7.o.2.2.2.2;have h5:=h4.ks.1;have h6:=h4.cs.1;rw [<-ff];have h7:=Zy m.Xg m.ks m.cs;have h8:=h2.a;have h9:=h2.b;simp only [Le,List.flatMap_cons,List.flatMap_nil,aO,En,List.length_nil,ao,XT,List.length_cons];omega);have ay:=lh (λ(g:Nat) u (t:bH [] E u) (h:DR u (cw ⟨g,0,cx⟩) 3 [XT,XR l.Xg l.ks l.cs,CV])=>XM _ _ 3 3 a9 u h (O.o.u t));have bs:Hid (∀V:World,DR (V.alloc (cD #[cy ⟨#[97,100,106,117,115,116]⟩,cy ⟨(XR l.Xg l.ks l.cs).toArray⟩,cy ⟨CV.toArray⟩] 9)) (cw ⟨V,0,cx⟩) 3 [XT,XR l.Xg l.ks l.cs,CV]):=lh λV=>XO [XT,XR l.Xg l.ks l.cs,CV] V;have a8:Jd.join [XT,XR l.Xg l.ks l.cs,CV]=fM [XT,XR l.Xg l.ks l.cs,CV]:=rfl;rw [a8]at J;generalize fM [XT,XR l.Xg l.ks l.cs,CV]=JA at *;generalize XR l.Xg l.ks l.cs=FL at *;generalize (⟨FL.toArray⟩:BAr)=FB,(⟨CV.toArray⟩:BAr)=CB,am:(⟨JA.toArray⟩:BAr)=aL at *;have ax:=lh am;clear am a9 a8 Q L F ao;(go_upto_region 8 with fail);as_aux_lemma=>
    refine dY.start (λw'=>bH [] E w') 12 lB ?_;have f:bH [] E E.drew:=(tR E).drawn 1;generalize E.drew=Y at *;refine pk 0 99 40 (u8) f ?_;(try go_frame);refine pk 1 99 41 (cz (cw ⟨T,0,cx⟩)) f ?_;(try go_frame);refine pk 2 99 42 (cz (cw ⟨T,17,cx⟩)) f ?_;(try go_frame);refine pk 3 99 43 (m.Xg.v) f ?_ rfl (hy:=λw' z=>dw (p:=cz (cw ⟨T,17,cx⟩)) rfl rfl (afZ (B.o.u z).h7));(try go_frame);refine pk 5 99 45 (d.v) f ?_ rfl (hy:=λw' z=>dw (p:=cz (cw ⟨w,0,cx⟩)) rfl rfl (XP (B.o.u z).h0));(try go_frame);refine pk 6 99 46 (cB (cw ⟨g,o,cx⟩) Z c7) f ?_;(try go_frame);refine pk 7 99 47 k f ?_;(try go_frame);refine Oo 4 (λK s=>?_);go_simp;refine mR (a5.o _ f) λcn u59=>?_;replace f:=f.t u59;refine gK s f ?_;clear s K u59;refine Oo 8 (λK s=>?_);go_simp;refine mR (S.o _ f) λbo u60=>?_;replace f:=f.t u60;refine gK s f ?_;clear s K u60;have tA:=f.alloc (cD #[cy ⟨#[97,100,106,117,115,116]⟩,cy FB,cy CB] 9);have ab:=bs.o bo;refine Oo 9 (λK s=>?_);refine bZ (d:=cw 49) rfl (kY (t:=107) (x0:=.const (cy ⟨#[97,100,106,117,115,116]⟩)) (x1:=.tmp 44) (x2:=.tmp 48) rfl rfl rfl rfl (Zd _ _ _ bo)) ?_;refine gK s tA ?_;clear s K f;have f:=tA;clear tA;refine Oo 10 (λK s=>?_);go_simp;refine mR (ay.o _ _ f ab) λcp u61=>?_;clear ab;replace f:=f.t u61;refine gK s f ?_;clear s K u61;obtain⟨V5,v5,w5,a0,a1,a2,a3⟩:=adk aL 107 ax.o (G.o.u f) (I.o.t f) bh.o;refine Oo 11 (λK s=>?_);refine bZ (d:=cw 51) rfl (dV (t:=107) (x:=.tmp 50) rfl rfl a0) ?_;refine s _ _ (λ_=>adp a0 f) ?_;clear s K;(try go_frame);refine Oo 12 (λK s=>?_);refine bZ (d:=cw 52) rfl (dL (.tmp 40) (.tmp 51) 107 rfl rfl rfl a1) ?_;refine s _ _ (λh=>absurd h lG) ?_;clear s K;(try go_frame);refine Oo 13 (λK s=>?_);go_simp;refine s _ _ (λh=>absurd h lG) ?_;clear s K;(try go_frame);refine dY.done lB ?_;have HF:=lh (bg a2 a3);clear a0 a1 a2 a3 f;go_wp2;go_roundw;case rel=>exact⟨k+1,gn,by go_num,by rw [J.o];exact HF.o.1,HF.o.2⟩
    simp [intOf];omega
  have k3:(l.ag1==3)=false:=by simpa using N
  rw [aF N]at Q;have ad:=lh (λu (t:bH [] X u)=>c8.o l a7.o.2.1 N m a7.o.1 u (B.o.t.t t) ((ar.o.at_ _ a7.o.2.2.2.2).u t));clear aw aq;go_upto_region 9 with fail
  as_aux_lemma=>
  cases F:XD (M l) q with
  |false=>
   have P:=lh (Yr (M l) q);rw [F]at P;refine sN 7 (tR X) λY f=>?_;refine Xz 0 (d.v) (λw' z=>XP (B.o.u z).h0) ?_;refine fK 1 ?_;refine Xz 2 (m.v) (λw' z=>Zl (B.o.u z).h7) ?_;refine fK 4 ?_;refine Xz 5 (q.v) (λw' z=>Zb (B.o.u z).h7) ?_;refine PR 3 (ad.o _ f) λcq f _=>?_;refine PR 6 (P.o _) λbq f _=>?_;refine eH 7 (λK s=>?_);go_simp;refine gZ s ?_;clear s K;refine Wy ?_;replace G:=lh (G.o.u f);replace I:=lh (I.o.t f);replace B:=lh (B.o.u f);replace ar:=lh (ar.o.u f);replace O:=lh (O.o.u f);replace S:=lh (λu (t:bH [] bq u)=>S.o u (f.t t));replace H:=((bY f).1 _ _ (ai H)).t H;clear ad;clear f;clear z0 z1;generalize bq=E at *;have L:=Q;rw [aF sG,List.append_nil]at L;have J:=lh (bg L (bg G.o I.o));go_wp2;go_roundw;case rel=>exact⟨k+1,gn,by go_num,by rw [J.o.1];exact J.o.2.1,J.o.2.2⟩
   simp [intOf];omega
  |true=>
   have P:=lh (Yr (M l) q);rw [F]at P;refine sN 7 (tR X) λY f=>?_;refine Xz 0 (d.v) (λw' z=>XP (B.o.u z).h0) ?_;refine fK 1 ?_;refine Xz 2 (m.v) (λw' z=>Zl (B.o.u z).h7) ?_;refine fK 4 ?_;refine Xz 5 (q.v) (λw' z=>Zb (B.o.u z).h7) ?_;refine PR 3 (ad.o _ f) λcr f _=>?_;refine PR 6 (P.o _) λbr f _=>?_;refine eH 7 (λK s=>?_);go_simp;refine gZ s ?_;clear s K;refine Wy ?_;replace G:=lh (G.o.u f);replace I:=lh (I.o.t f);replace B:=lh (B.o.u f);replace ar:=lh (ar.o.u f);replace O:=lh (O.o.u f);replace S:=lh (λu (t:bH [] br u)=>S.o u (f.t t));replace H:=((bY f).1 _ _ (ai H)).t H;clear ad;clear f;clear z0 z1;generalize br=E at *;have L:=Q;rw [aG F]at L;have J:=lh L;have cd:=b9.o l q;have a9:(Le [Zw,Qz l.mode,CV,D l q]).length<=100000000000:=(by have h1:(Qz l.mode).length<=10:=Lib.uvarint_length64 (AZ l.mode);simp only [Le,List.flatMap_cons,List.flatMap_nil,aO,En,List.length_nil,ao,Zw,List.length_cons];omega);have ay:=lh (λ(g:Nat) u (t:bH [] E u) (h:DR u (cw ⟨g,0,cx⟩) 4 [Zw,Qz l.mode,CV,D l q])=>XM _ _ 4 4 a9 u h (O.o.u t));have bs:Hid (∀V:World,DR (V.alloc (cD #[cy ⟨#[107,105,100]⟩,cy (MZ l.mode),cy ⟨CV.toArray⟩,cy ⟨(D l q).toArray⟩] 9)) (cw ⟨V,0,cx⟩) 4 [Zw,Qz l.mode,CV,D l q]):=lh λV=>XO [Zw,Qz l.mode,CV,D l q] V;have ca:=lh (λu (t:bH [] E u)=>b8.o l a7.o.2.1 N m a7.o.1 q a7.o.2.2.1 u (B.o.t.t t) ((ar.o.at_ _ a7.o.2.2.2.2).u t));have cc:=lh (λu=>NL l.mode u);have a8:Jd.join [Zw,Qz l.mode,CV,D l q]=fM [Zw,Qz l.mode,CV,D l q]:=rfl;rw [a8]at J;generalize fM [Zw,Qz l.mode,CV,D l q]=JA at *;generalize D l q=KL,MZ l.mode=VB at *;generalize (⟨KL.toArray⟩:BAr)=KB,(⟨CV.toArray⟩:BAr)=CB,am:(⟨JA.toArray⟩:BAr)=aL at *;have ax:=lh am;clear am a9 a8 Q L F ao cd;(go_upto_region 10 with fail);as_aux_lemma=>
   refine dY.start (λw'=>bH [] E w') 18 lB ?_;have f:bH [] E E.drew:=(tR E).drawn 1;generalize E.drew=Y at *;refine pk 0 99 61 (u8) f ?_;(try go_frame);refine pk 1 99 62 (cz (cw ⟨T,0,cx⟩)) f ?_;(try go_frame);refine pk 2 99 63 (cz (cw ⟨T,5,cx⟩)) f ?_;(try go_frame);refine pk 3 99 64 l.mode f ?_ rfl (hy:=λw' z=>by have e0:=((bY z).1 _ _ (ai H)).t H;go_simp);(try go_frame);refine pk 5 99 66 (d.v) f ?_ rfl (hy:=λw' z=>dw (p:=cz (cw ⟨w,0,cx⟩)) rfl rfl (XP (B.o.u z).h0));(try go_frame);refine pk 6 99 67 (cB (cw ⟨g,o,cx⟩) Z c7) f ?_;(try go_frame);refine pk 7 99 68 k f ?_;(try go_frame);refine pk 9 99 70 (d.v) f ?_ rfl (hy:=λw' z=>dw (p:=cz (cw ⟨w,0,cx⟩)) rfl rfl (XP (B.o.u z).h0));(try go_frame);refine pk 10 99 71 (cz (cw ⟨T,0,cx⟩)) f ?_;(try go_frame);refine pk 11 99 72 (m.v) f ?_ rfl (hy:=λw' z=>dw (p:=cz (cw ⟨T,0,cx⟩)) rfl rfl (Zl (B.o.u z).h7));(try go_frame);refine pk 12 99 73 (cz (cw ⟨T,31,cx⟩)) f ?_;(try go_frame);refine pk 13 99 74 (q.v) f ?_ rfl (hy:=λw' z=>dw (p:=cz (cw ⟨T,31,cx⟩)) rfl rfl (Zb (B.o.u z).h7));(try go_frame);refine Oo 4 (λK s=>?_);go_simp;refine mR (cc.o _) λch u116=>?_;replace f:=f.t u116;refine gK s f ?_;clear s K u116;refine Oo 8 (λK s=>?_);go_simp;refine mR (S.o _ f) λci u117=>?_;replace f:=f.t u117;refine gK s f ?_;clear s K u117;refine Oo 14 (λK s=>?_);go_simp;refine mR (ca.o _ f) λbl u118=>?_;replace f:=f.t u118;refine gK s f ?_;clear s K u118;have tA:=f.alloc (cD #[cy ⟨#[107,105,100]⟩,cy VB,cy CB,cy KB] 9);have ab:=bs.o bl;refine Oo 15 (λK s=>?_);refine bZ (d:=cw 76) rfl (XI (t:=107) (x0:=.const (cy ⟨#[107,105,100]⟩)) (x1:=.tmp 65) (x2:=.tmp 69) (x3:=.tmp 75) rfl rfl rfl rfl rfl (Zr _ _ _ _ bl)) ?_;refine gK s tA ?_;clear s K f;have f:=tA;clear tA;refine Oo 16 (λK s=>?_);go_simp;refine mR (ay.o _ _ f ab) λcj u119=>?_;clear ab;replace f:=f.t u119;refine gK s f ?_;clear s K u119;obtain⟨V5,v5,w5,a0,a1,a2,a3⟩:=adk aL 107 ax.o (G.o.u f) (I.o.t f) bh.o;refine Oo 17 (λK s=>?_);refine bZ (d:=cw 78) rfl (dV (t:=107) (x:=.tmp 77) rfl rfl a0) ?_;refine s _ _ (λ_=>adp a0 f) ?_;clear s K;(try go_frame);refine Oo 18 (λK s=>?_);refine bZ (d:=cw 79) rfl (dL (.tmp 61) (.tmp 78) 107 rfl rfl rfl a1) ?_;refine s _ _ (λh=>absurd h lG) ?_;clear s K;(try go_frame);refine Oo 19 (λK s=>?_);go_simp;refine s _ _ (λh=>absurd h lG) ?_;clear s K;(try go_frame);refine dY.done lB ?_;have HF:=lh (bg a2 a3);clear a0 a1 a2 a3 f;go_wp2;go_roundw;case rel=>exact⟨k+1,by omega,by go_num,by rw [J.o];exact HF.o.1,HF.o.2⟩
   simp [intOf];omega
 obtain rfl:k=Z:=gn
 rw [aeA D M ld (by have:=HN.o.2;omega)]at hO;have G:=lh (bg hO hT);clear hO hT;go_wp2;go_ret;exact⟨⟨_,rfl,iK.base G.o.1 aM.o.size⟩,aM.o.t G.o.2⟩
theorem aeE:∀(ks:List Int) (x:Int) (b j:Nat),ks.count x<=1->ks[j]?=cw x->Cf ks x b=cw (b+j)
 | [],_,_,_,_,h=>by cases h
 |y::ks,x,b,0,_,h=>by simp only [List.getElem?_cons_zero,Option.some.injEq]at h;unfold Cf;rw [aG h];rfl
 |y::ks,x,b,j+1,hc,h=>by
  rw [List.getElem?_cons_succ]at h;have e:1<=ks.count x:=List.count_pos_iff.2 (aH h);unfold Cf;by_cases d:y=x
  .subst d;rw [List.count_cons_self]at hc;omega
  rw [aF d,aeE ks x (b+1) j (by rw [List.count_cons_of_ne d]at hc;exact hc) h];congr 1;omega
theorem ae3:∀(ks:List Int) (x:Int) (b:Nat),x∉ks->Cf ks x b=cx
 | [],_,_,_=>rfl
 |y::ks,x,b,h=>by simp only [aS,not_or]at h;unfold Cf;rw [aF λe=>h.1 e.symm];exact ae3 ks x (b+1) h.2
theorem adA:∀(ls:List bI) (x:Int) (g:bI) (j:Nat),((ls.map (·.ag0)).flatten).count x<=1->g∈ls->g.ag1=2->g.ag0[j]?=cw x->kE ls x=cw (g.id,j)
 | [],_,_,_,_,h,_,_=>by cases h
 |a::ls,x,g,j,hc,d,h2,hj=>by
  rw [List.map_cons,List.flatten_cons,List.count_append]at hc;unfold kE;rcases aS.1 d with rfl|d
  .rw [aG h2,aeE _ _ 0 j gn hj];simp only [Nat.zero_add]
  have c:1<=((ls.map (·.ag0)).flatten).count x:=List.count_pos_iff.2 (List.mem_flatten.2 ⟨g.ag0,List.mem_map.2 ⟨g,d,rfl⟩,aH hj⟩);have e:x∉a.ag0:=λb=>by have:=List.count_pos_iff.2 b;omega
  rw [ae3 _ _ _ e,adA ls x g j gn d h2 hj];split<;>rfl
theorem kU.parAt{d:df}(D:kU d){p x:Int}{g l:bI}(a:dh d.agY p=cw g)(f:g.ag1=2){j:Nat}(k:g.ag0[j]?=cw x)(i:dh d.agY x=cw l): kE d.agY x=cw (p,j):=by
 obtain⟨c,rfl,_⟩:=kU.mem a;obtain⟨_,e,h,P⟩:=kU.mem i;have Q:=D.ok.ag0 h l P;unfold pM at Q;rw [az,e]at Q;have b:=Q.2;refine adA d.agY x g j ?_ c f k;unfold jJ at b;rw [List.take_length]at b;split at b
 .rw [beq_iff_eq]at b;omega
 rw [beq_iff_eq]at b;omega
theorem YH{ls:List bI}: ∀{ks:List Int},(∀x∈ks,∃l,dh ls x=cw l)->(Yc ls ks).length=ks.length
 | [],_=>rfl
 |x::ks,h=>by obtain⟨l,i⟩:=h x List.mem_cons_self;unfold Yc;rw [List.filterMap_cons,i];simp only [List.length_cons];exact congrArg (·+1) (YH λy d=>h y (List.mem_cons_of_mem _ d))
theorem aam{ls:List bI}: ∀{ks:List Int},(∀x∈ks,∃l,dh ls x=cw l)->∀(j:Nat) (l:bI),(Yc ls ks)[j]?=cw l->∃x,ks[j]?=cw x/\dh ls x=cw l
 | [],_,j,l,h=>by simp [Yc]at h
 |x::ks,h,j,l,hj=>by
  obtain⟨a,i⟩:=h x List.mem_cons_self;unfold Yc at hj;rw [List.filterMap_cons,i]at hj;cases j with
  |zero=>
   simp only [List.getElem?_cons_zero,Option.some.injEq]at hj;subst hj;exact⟨x,rfl,i⟩
  |succ j=>
   rw [List.getElem?_cons_succ]at hj;obtain⟨y,e,f⟩:=aam (λy d=>h y (List.mem_cons_of_mem _ d)) j l hj;exact⟨y,pr,f⟩
theorem ZZ{ls:List bI}: ∀{ks:List Int},(∀x∈ks,∃l,dh ls x=cw l)->∀j:Nat,Yc ls (ks.take j)=(Yc ls ks).take j
 | [],_,j=>by simp [Yc]
 |x::ks,h,0=>rfl
 |x::ks,h,j+1=>by obtain⟨a,i⟩:=h x List.mem_cons_self;have E:=ZZ (λy d=>h y (List.mem_cons_of_mem _ d)) j;unfold Yc at *;rw [List.take_succ_cons,List.filterMap_cons,List.filterMap_cons,i];simp only [List.take_succ_cons];rw [E]
theorem aaR(f:bI->Rc)(ls:List bI): ∀(ks:List Int) (a:Rc),iW f ls ks a=(Yc ls ks).foldl (λa l=>jP f l a) a
 | [],_=>rfl
 |x::ks,a=>by
  unfold iW Yc;rw [List.filterMap_cons];cases h:dh ls x with
  |none=>simp only;exact aaR f ls ks a
  |some l=>simp only;rw [List.foldl_cons];exact aaR f ls ks _
theorem aa0{l:bI}{q:Rc}(r:Rc): ∀(b:List bI) (i:Nat),(Ye b r)[i]?=cw (l,q)->∃j:Nat,b[j]?=cw l/\((Ye b r).take i).map (·.1)=(b.take j).filter λl=>!l.ag3
 | [],i,h=>by simp [Ye]at h
 |a::b,i,h=>by
  unfold Ye at h ⊢;cases C:a.ag3 with
  |true=>
   rw [C]at h;rw [aG rfl]at h;rw [aG rfl];obtain⟨j,e,f⟩:=aa0 r b i h;refine⟨j+1,pr,?_⟩;rw [List.take_succ_cons,List.filter_cons_of_neg up];exact f
  |false=>
   rw [C]at h;rw [aF lz]at h;rw [aF lz];cases i with
   |zero=>
    simp only [List.getElem?_cons_zero,Option.some.injEq,Prod.mk.injEq]at h;obtain⟨rfl,_⟩:=h;exact⟨0,rfl,rfl⟩
   |succ i=>
    rw [List.getElem?_cons_succ]at h;obtain⟨j,e,f⟩:=aa0 r b i h;refine⟨j+1,pr,?_⟩;rw [List.take_succ_cons,List.take_succ_cons,List.filter_cons_of_pos up,List.map_cons,f]
theorem ae2(f:bI->Rc){l:bI}{q r:Rc}{b:List bI}{i:Nat}(h:(Ye b r)[i]?=cw (l,q)): ∃j:Nat,b[j]?=cw l/\ZR f (YB (Ye b r) i).reverse=(b.take j).foldl (λa l=>jP f l a) Rc.zero:=by obtain⟨j,e,c⟩:=aa0 r b i h;refine⟨j,e,?_⟩;unfold YB ZR;rw [List.reverse_reverse,c,<-abJ]
theorem ZE(ls:List bI)(g:List eF)(l:bI)(r:Rc): ∀n,(YU Jd ls g n l r).length<=32
 |0=>by simp [YU]
 |n+1=>by
  unfold YU;have e:∀x:List Bs,(Jd.join x).length<=32:=λx=>Nat.le_of_eq (XN _);split
  .exact e _
  split
  .exact e _
  split
  .exact e _
  split
  .exact e _
  exact e _
theorem aeL{l m:bI}(h:l.Like m)(ls:List bI)(g:List eF)(r:Rc): ∀n,YU Jd ls g n m r=YU Jd ls g n l r
 |0=>rfl
 |n+1=>by unfold YU;rw [Oc h];unfold bI.Like at h;rw [h];rfl
theorem aal{a b:Rc}: XD a b=true↔(max a.x0 b.x0<min a.x1 b.x1/\max a.y0 b.y0<min a.y1 b.y1):=by
 unfold XD Rc.meet Rc.norm;by_cases h:(Rc.mk (max a.x0 b.x0) (max a.y0 b.y0) (min a.x1 b.x1) (min a.y1 b.y1)).empty=true
 .rw [aG h];unfold Rc.empty at h;simp only [Bool.or_eq_true,decide_eq_true_eq]at h;simp only [Rc.zero,Rc.empty];constructor
  .intro h;simp at h
  intro h;omega
 rw [aF h];have f:=h;unfold Rc.empty at f;simp only [Bool.or_eq_true,decide_eq_true_eq,not_or]at f;simp only [Bool.not_eq_true]at h;rw [h];exact⟨λ_=>gn,λ_=>rfl⟩
theorem ac5{r:Rc}(h:max r.x0 (-65536)<min r.x1 65536/\max r.y0 (-65536)<min r.y1 65536): r.can.InC:=by refine Rc.can_in ?_;have:=aal (a:=r) (b:=Rc.cv) |>.2 (by unfold Rc.cv;exact h);unfold XD at this;unfold Rc.can;simpa using this
theorem adN{r q:Rc}(h:XD r.can q=true): (max (max r.x0 (-65536)) q.x0<min (min r.x1 65536) q.x1)/\(max (max r.y0 (-65536)) q.y0<min (min r.y1 65536) q.y1):=by
 rw [aal]at h;unfold Rc.can Rc.meet Rc.norm at h;split at h
 .simp only [Rc.zero]at h;omega
 simp only [Rc.cv]at h;exact h
theorem YM{a r:Rc}(h:XD a r.can=true): r.can.InC:=by refine Rc.can_in ?_;rw [aal]at h;unfold Rc.empty;simp only [Bool.or_eq_false_iff,decide_eq_false_iff_not];omega
theorem af6{l:bI}{s q:Rc}(d:q.InC)(n:s.Z)(h:XD (l.spread s).can q=true): (l.nd q).can.InC:=by
 have e:=adN h;clear h;unfold bI.spread Fv.area at e;unfold bI.nd Fv.area;have b:=d.full;cases g:jC l.Xg l.ks l.cs with
 |false=>
  rw [g]at e;rw [aG (.inl rfl)]at e;simp only [Rc.zero]at e;omega
 |true=>
  have F:=xK _ _ _ g;rw [g]at e;rw [aF (by rw [b];simp)];cases a:s.empty with
  |true=>
   rw [aG (.inr a)]at e;simp only [Rc.zero]at e;omega
  |false=>
   rw [aF (by rw [a];simp)]at e;have ba:s.InC:=by
    rcases n with rfl|n
    .cases a
    exact n
   obtain⟨f,i,j,p,k,u⟩:=d;obtain⟨B,c1,c2,m,o,G⟩:=ba;by_cases c:1<=l.Xg.ag1/\l.Xg.ag1<=4
   .rw [aG c];have C:=(F.1 c).1;refine ac5 ?_;unfold Rc.grow;rw [b,aF lz];unfold Rc.norm;rw [aF]
    .simp only;omega
    unfold Rc.empty;simp only [Bool.or_eq_true,decide_eq_true_eq];omega
   rw [aF c]at e ⊢;by_cases Y:l.Xg.ag1=8
   .rw [aG Y]at e ⊢;refine ac5 ?_;unfold Rc.move at e ⊢;rw [b,aF lz];rw [a,aF lz]at e;unfold Rc.norm at e ⊢;rw [aF]
    .rw [aF]at e
     .simp only at e ⊢;omega
     unfold Rc.empty;simp only [Bool.or_eq_true,decide_eq_true_eq];omega
    unfold Rc.empty;simp only [Bool.or_eq_true,decide_eq_true_eq];omega
   rw [aF Y];exact ac5 gn
def agC(d:df)(n:Nat): Prop:=∀(x:Int) (l:bI),dh d.agY x=cw l->l.ag1≠3->d.rk x<n->∀m,l.Like m->∀(r:Rc) (u:World),d.At u->YQ u->m.At u->
 CR 34 #[d.v,m.v,r.v] u (cy ⟨(YU Jd d.agY d.ag2 n l r).toArray⟩)
theorem abC{d:df}(D:kU d)(n:Nat)(Q:agC d n)(p:Int)(g:bI)(z:dh d.agY p=cw g)(L:g.ag1=2)(k:Nat)(hk:k<=g.ag0.length)(bF:∀y∈g.ag0,d.rk y<n)(A:Option Addr)(cap:Nat)(r:Rc)(Z:r.InC)(w:World)(E:d.At w)(O:YQ w)(S:dn w A k (g.ag0.take k)):
  Calls prog 145 #[d.v,cB A k cap,r.v] w λe w'=>(∃v,e=.returned v/\Yg w' w.heap.size v (YS Jd (YU Jd d.agY d.ag2 n) (jG d.agY n) r [] (Yc d.agY (g.ag0.take k))))/\bH [] w w':=by
 have b7:∀y∈g.ag0,∃m,dh d.agY y=cw m:=λy h=>(D.kid z L y h).1;have G:∀y∈g.ag0.take k,∃m,dh d.agY y=cw m:=λy h=>b7 y (List.mem_of_mem_take h);have P:=(kU.mem z).1;have U:k<=50:=by have a:=(D.thin g P).k;have b:=D.kn g P;omega
 have H:∀(j:Nat) (l:bI),(Yc d.agY (g.ag0.take k))[j]?=cw l->∃x,x∈g.ag0/\g.ag0[j]?=cw x/\dh d.agY x=cw l/\j<k:=by
  intro j l s;obtain⟨x,a,b⟩:=aam G j l s;have o:j<k:=by have F:=(ah.1 a).1;rw [List.length_take]at F;omega
  rw [List.getElem?_take_of_lt o]at a;exact⟨x,aH a,a,b,o⟩
 have B:∀l,l∈Yc d.agY (g.ag0.take k)->∃x,x∈g.ag0/\dh d.agY x=cw l:=by intro l f;obtain⟨j,s⟩:=bu.1 f;obtain⟨x,a,_,b,_⟩:=H j l s;exact⟨x,a,b⟩
 rw [Zn];refine abY d (YU Jd d.agY d.ag2 n) (jG d.agY n) (λl r=>ZE _ _ l r n) (g.ag0.take k) (Yc d.agY (g.ag0.take k)) (YH G) (λj l s=>?_) A k cap U r Z w E O D.thin S (λl f b=>?_) (λl f=>?_) (λl f b m K q _ u T C=>?_) (λl f b m K u T C=>?_) (λi l q I b=>?_)
 .obtain⟨x,_,a,b,o⟩:=H j l s;have e:(g.ag0.take k).getD j 0=x:=by rw [List.getD_eq_getElem?_getD,List.getElem?_take_of_lt o,a];rfl
  rw [e];exact b
 .obtain⟨x,_,a⟩:=B l f;exact (D.good a).2 b
 .obtain⟨x,_,a⟩:=B l f;exact (kU.mem a).1
 .obtain⟨x,t,a⟩:=B l f;exact Q x l a b (bF x t) m K q u (E.u T) (O.u T) C
 .obtain⟨x,t,a⟩:=B l f;exact sV D n x l a b (bF x t) m K u (E.u T) C
 obtain⟨j,F,R⟩:=ae2 (jG d.agY n) I;obtain⟨x,t,M,N,o⟩:=H j l F;have Y:=D.parAt z L M N;have X:l.id=x:=(kU.mem N).2.1;have a0:j<g.ag0.length:=(ah.1 M).1;refine⟨j,g.ag0.take j,λu T=>?_,λu A c T I=>?_⟩
 .rw [X];exact JU d x p j g u (E.u T) D.thin Y z a0
 have e:ZR (jG d.agY n) (YB (Ye (Yc d.agY (g.ag0.take k)) r) i).reverse=iW (jG d.agY n) d.agY (g.ag0.take j) Rc.zero:=by rw [R,aaR,<-ZZ G,List.take_take,Nat.min_eq_left (Nat.le_of_lt o)]
 rw [e];exact yJ d (jG d.agY n) (g.ag0.take j) A j c gn u I (E.u T) D.thin (λy h=>b7 y (List.mem_of_mem_take h)) (λy _ V J=>(D.good J).2) (λV=>lZ _ _ V) (λy h V J aE m' W u' t' C=>sV D n y V J aE (bF y (List.mem_of_mem_take h)) m' W u' ((E.u T).u t') C)
theorem YF(a:bI->Rc->Bs)(k:bI->Rc)(r:Rc)(ks:List bI)(h:ks.length<=50): (YS Jd a k r [] ks).length<=50/\(Le (YS Jd a k r [] ks)).length<=2000:=by
 rw [Zn];have e:=ZV a k (Ye ks r) [];have f:=aai ks r;constructor
 .exact aK e.1 gn
 exact aK e.2 gn
theorem ac2{l m:bI}(h:l.Like m): m.space=l.space:=by unfold bI.Like at h;rw [h]
theorem aae{d:df}(D:kU d): ∀n,agC d n
 |0=>λx l i I z=>absurd z (aU _)
 |n+1=>λx l i I z m c r u E b C=>by
  obtain⟨p,a1,_⟩:=kU.mem i;have o:=D.tidy.lay l p;have M:=c.thin (D.thin l p);obtain⟨s,H,e3,e4,e5,j,Q,P,e9⟩:=BF c;have es:=ac2 c;have a3:=o.ag1;have a0:=λO (t:bH [] u O)=>sV D (n+1) x l i I z m c O (E.u t) (C.u t);rw [<-aeL c,<-Oc c]at *;unfold YU;by_cases q:m.ag1=1
  .rw [aG q];refine Y4 d m _ r _ _ (.inl ⟨q,rfl⟩) u b a0 λf v T=>ab1 d m r.can (YM f) (by rw [H];exact o.agZ (.inl (s▸q))) M (by have h:=o.space;have R:=D.tidy.sn;omega) (λhs=>?_) v (E.u T) (C.u T) (b.u T);have h:=o.space;have R:=E.ag2.1;have J:(m.space-1).toNat<d.ag2.length:=gn;exact⟨_,aB J,D.tidy.spc _ (List.getElem_mem J)⟩
  rw [aF q];by_cases F:m.ag1=5
  .rw [aG F];exact Y4 d m _ r _ _ (.inr (.inl ⟨F,rfl⟩)) u b a0 λf v T=>acb d m r.can M v (C.u T) (b.u T)
  rw [aF F];by_cases S:m.ag1=4
  .rw [aG S];obtain⟨G,K,U,bF⟩:=D.cl i (s▸S);have L:dh d.agY m.of=cw G:=(by rw [P];exact K);rw [L];simp only;exact Y4 d m _ r _ _ (.inr (.inr (.inl ⟨S,rfl⟩))) u b a0 λf v T=>acj d m G r.can (YM f) (by rw [H];exact o.agZ (.inr (s▸S))) L D.thin _ (ZE _ _ _ _ n) v (E.u T) (b.u T) λZ W Y g V=>aae D n l.of G K U gn Z W _ Y ((E.u T).u g) ((b.u T).u g) V
  rw [aF S];have X:m.ag1=2:=gn
  have B:l.ag1=2:=gn
  have w:=D.kn l p;have a5:=D.thin l p;have ao:(Yc d.agY m.ag0).length<=50:=by have h:=YH (ls:=d.agY) (ks:=m.ag0) (λy A=>(D.kid i B y (j▸A)).1);rw [h,j];have:=a5.k;omega
  refine Y4 d m _ r _ _ (.inr (.inr (.inr (.inl ⟨X,rfl⟩)))) u b a0 λf v T=>abX d m r.can _ (by have h:=(YF (YU Jd d.agY d.ag2 n) (jG d.agY n) r.can _ ao).1;omega) ?_ v (b.u T) λY g=>?_
  .have h:=(YF (YU Jd d.agY d.ag2 n) (jG d.agY n) r.can _ ao).2;have e:∀a:List Bs,Le (XY::a)=Le [XY]++Le a:=λa=>by simp [Le]
   have e0:(Le [XY]).length<=1000:=lG;rw [e,aO];omega
  have N:=abC D n (aae D n) x l i B m.Xh sg (λy A=>by have:=(D.kid i B y A).2;omega) m.Xi m.Xj r.can (YM f) Y ((E.u T).u g) ((b.u T).u g) (by
   rw [aY sg,<-j];exact ((C.u T).u g).ag0)
  rw [aY sg,<-j]at N;exact N
theorem ad7{d:df}(D:kU d)(x:Int)(l:bI)(i:dh d.agY x=cw l)(m:bI)(f:l.Like m)(r:Rc)(u:World)(E:d.At u)(j:YQ u)(C:m.At u):
  CR 34 #[d.v,m.v,r.v] u (cy ⟨(Zf Jd d.agY d.ag2 3000 l r).toArray⟩):=by
 unfold Zf;by_cases g:l.ag1=3
 .rw [aG g];obtain⟨p,k,q,B,h,H,G⟩:=D.par i g;obtain⟨K,S,U,V,W,Z,e7,e8,L⟩:=BF f;obtain⟨_,_,N,_,M⟩:=abE f;have X:l.id=x:=(kU.mem i).2.1;have z:=f.thin (D.thin l (kU.mem i).1);have I:=(kU.mem h).1;have af:=(D.good i).2 g;have b7:∀y∈q.ag0,∃m,dh d.agY y=cw m:=λy F=>(D.kid h H y F).1;have ao:(Yc d.agY (q.ag0.take k)).length<=50:=by have w:=YH (ls:=d.agY) (ks:=q.ag0.take k) (λy F=>b7 y (List.mem_of_mem_take F));rw [w,List.length_take];have:=(D.thin q I).k;have:=D.kn q I;omega
  have a0:=λJ (t:bH [] u J)=>Kt D x l i m f J (E.u t) (C.u t);have O:uk d.agY 3000 l=(l.spread (iW (jG d.agY 3000) d.agY (q.ag0.take k) Rc.zero)).can:=by unfold uk;rw [aG g,X,Ik B h]
  have Q:∀s,m.nd s=l.nd s:=λs=>by unfold bI.Like at f;rw [f];rfl
  rw [<-N,X,Ik B h];refine Y4 d m _ r _ _ (.inr (.inr (.inr (.inr ⟨K.t g,rfl⟩)))) u j a0 λn v T=>abu d m r.can (YM n) (by rw [M];exact af) k (q.ag0.take k) _ (by have w:=(YF (YU Jd d.agY d.ag2 3000) (jG d.agY 3000) (l.nd r.can).can _ ao).1;omega) ?_ v (C.u T) z (j.u T) (λY o=>?_) (λY A c o P=>?_)
  .have w:=(YF (YU Jd d.agY d.ag2 3000) (jG d.agY 3000) (l.nd r.can).can _ ao).2;have e:∀(b:Bs) (a:List Bs),Le (XF::b::a)=Le [XF,b]++Le a:=λb a=>by simp [Le]
   have h2:=Zy m.Xg m.ks m.cs;have h5:=(C.ks).1;have h6:=(C.cs).1;have R:(Le [XF,XR m.Xg m.ks m.cs]).length<=1000+(XR m.Xg m.ks m.cs).length:=oF;rw [e,aO];have:=z.a;have:=z.b;omega
  .rw [L,X];exact JU d x p k q Y ((E.u T).u o) D.thin B h G
  rw [Q];rw [O]at n;exact abC D 3000 (aae D 3000) p q h H k (Nat.le_of_lt G) (λy _=>KC d y) A c _ (af6 (YM n) (oD _ _ (λ_ _ m _=>lZ _ _ m) qB) n) Y ((E.u T).u o) ((j.u T).u o) P
 rw [aF g];exact aae D 3000 x l i g (KC d x) m f r u E j C
