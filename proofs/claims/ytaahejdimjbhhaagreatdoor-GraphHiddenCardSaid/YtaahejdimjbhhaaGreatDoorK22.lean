import Derived.Test.YtaahejdimjbhhaaGreatDoorK19
set_option maxRecDepth 100000
set_option maxHeartbeats 0
set_option linter.all false
namespace Go.Proofs.YtaahejdimjbhhaaGreatDoor
open Tryz Go.RowKit Go.Den
open Go.Obj renaming cells->bl
open Go.Value renaming slice->bm,int->bo,pointer->bp,agg->bq
open Option renaming some->bt,none->bv
open Go renaming World->bw,Value->bz,wpList_load_mid->bA,heap_alloc_new->bB,TypeId->bE,Calls->bF,zero_of_info->bL,Addr->bM
open Bool renaming true->bP,false->bR
open Go.Ending renaming returned->bS
open Go.RowKit renaming wrap64->bT,intOf->bX
open Go.Proofs.Tryz renaming prog->ca,zeroCells181->cb,underlying181->cd,underlying80->ce
theorem Sm(p:Af)(q:p.ok=bP)(r:Rc)(hr:r.InC)(pa X:Nat)(w:bw)(ha:w.heap[pa]?=bt (bl (VT p) 40 (0,0)))(hb:w.heap[X]?=bt (bl (dZ r) 59 (0,0))):
  bF ca 173 #[bp (bt ⟨X,0,bv⟩),bp (bt ⟨pa,0,bv⟩)] w λe w'=>e=bS (p.bnds r).v/\bH [] w w':=by
 have a1:pa<w.heap.size:=(ae.1 ha).1;have a4:X<w.heap.size:=(ae.1 hb).1;obtain⟨W,j⟩:=eX (((w.alloc (bl #[(0:Int),(0:Int),(0:Int),(0:Int)] 59)).alloc (bl #[bm bv 0 0] 22)).alloc (bl #[bm bv 0 0] 22));have V:bH [] w W:=j▸(((tR w).a _).a _).a _;have a3:W.heap.size=w.heap.size+3:=by rw [j];simp
 have x0:=dJ j;have x1:=Z5 j;have x2:=iR j;have hA:=(V.old pa a1 lz).t ha;have S:=(V.old X a4 lz).t hb;have ay:NT W (w.heap.size+1) (w.heap.size+2) W.heap.size [] []:=⟨⟨_,_,x1,x2,jU _ _ _,jU _ _ _,λg hg=>absurd hg mo⟩,gn,gn,gn,aQ _⟩;have hc:=Gx p q r hr pa (w.heap.size+1) (w.heap.size+2) W.heap.size gn gn gn W hA ay;have D:=λk=>Ux q hr k;have E:=zi λk=>(D k).1;have F:=zi λk=>(D k).2;have I:=uU λk=>(D k).1;have J:=uU λk=>(D k).2;have ex:=VY λk=>(D k).1;have ey:=VY λk=>(D k).2;have fx:=Uw λk=>(D k).1;have fy:=Uw λk=>(D k).2;have k1:=CY p q (jf (p.gx r) 4) E.1 E.2;have k2:=CY p q (jf (p.gy r) 4) F.1 F.2;have k3:=GR p q (gB (p.gx r) 4) I.1 I.2;have k4:=GR p q (gB (p.gy r) 4) J.1 J.2;have T:=xJ (Cj p.den (jf (p.gx r) 4) (jf (p.gy r) 4) (gB (p.gx r) 4) (gB (p.gy r) 4)) Rc.cv;rw [show (Cj p.den (jf (p.gx r) 4) (jf (p.gy r) 4) (gB (p.gx r) 4) (gB (p.gy r) 4)).meet Rc.cv=p.bnds r from rfl]at T;generalize p.bnds r=m,p.gx r=N,p.gy r=P at *;have l1:=λA n c u=>KE A n c N u;have l2:=λA n c u=>KE A n c P u;have l3:=λA n c u=>G7 A n c N u;have l4:=λA n c u=>G7 A n c P u;simp only [<-ex]at l1;simp only [<-ey]at l2;simp only [<-fx]at l3;simp only [<-fy]at l4;clear ex ey fx fy E F I J D ay hr q;generalize jf N 4=E,jf P 4=F,gB N 4=I,gB P 4=J at *;unfold Cj at T;generalize qG (2*E-p.den) (2*p.den)=e1,qG (2*F-p.den) (2*p.den)=e2,iq (2*I-p.den) (2*p.den)+1=e3,iq (2*J-p.den) (2*p.den)+1=e4 at *;obtain⟨m0,m1,m2,m3⟩:=m;simp only [Rc.v]at T;have r0:=cO 0 r.x0 S;have r1:=cO 1 r.y0 S;have r2:=cO 2 r.x1 S;have r3:=cO 3 r.y1 S;obtain⟨HC,K,L,HM,Z,a0,h,ar⟩:=lh8 hc (bg k1 (bg k2 (bg k3 k4))) (bg l1 (bg l2 (bg l3 l4))) T (bg x0 hA) V a3 a1;clear hc k1 k2 k3 k4 l1 l2 l3 l4 T x0 x1 x2 hA S ha hb a1 a4 V a3;have IX:=IX;go_enter func173,ntmps173;go_upto_region 2 with (fail)
 rw [<-j];clear j;try simp only [aI]
 go_upto_region 3 with (go_at_call 174;refine mR HC.o λf af=>?_)
 obtain⟨⟨⟨vx,vy,bx,a2,ox,oy,-⟩,-,-,-,-⟩,M⟩:=af;obtain⟨x,z,a5⟩:=jv ox;obtain⟨y,B,a6⟩:=jv oy;generalize am:((xN N 4).map dK).length=G at a5;generalize an:((xN P 4).map dK).length=H at a6;subst a5;subst a6;have ix:=rY ox;have iy:=rY oy;have Y:=(M.old (c:=w.heap.size) gn gn ub ub).t Z.o.1;have R:=(M.old (c:=pa) oT oT (by have:=ar.o;rw [h.o];omega) (by have:=ar.o;rw [h.o];omega)).t Z.o.2;have T2:=jO.new a0.o M gn gn ub;have ao:w.heap.size+3<=f.heap.size:=by have:=M.size;rw [h.o]at this;exact this
 have O:=lh (bg Y (bg bx a2));have aa:Hid (∀u,bH [] f u->CR 179 #[bm x G z] u E):=lh λu t=>L.o.1 x G z u (ix.u t);have ab:Hid (∀u,bH [] f u->CR 179 #[bm y H B] u F):=lh λu t=>L.o.2.1 y H B u (iy.u t);have ac:Hid (∀u,bH [] f u->CR 180 #[bm x G z] u I):=lh λu t=>L.o.2.2.1 x G z u (ix.u t);have ad:Hid (∀u,bH [] f u->CR 180 #[bm y H B] u J):=lh λu t=>L.o.2.2.2 y H B u (iy.u t);have a7:=lh λu (t:bH [] f u)=>K.o.1 pa u ((t.old pa oT lz).t R);have a8:=lh λu (t:bH [] f u)=>K.o.2.1 pa u ((t.old pa oT lz).t R);have c8:=lh λu (t:bH [] f u)=>K.o.2.2.1 pa u ((t.old pa oT lz).t R);have a9:=lh λu (t:bH [] f u)=>K.o.2.2.2 pa u ((t.old pa oT lz).t R);have aM:=lh T2;clear ox oy ix iy Y R T2 M bx a2 K L Z h a0 HC ar r0 r1 r2 r3 am an;go_upto_region 7 with (fail)
 clear IX;refine sN 23 (tR f) λU b=>?_;refine fE 0 (.func (.func 176) #[] #[bp (bt ⟨pa,0,bv⟩)]) ?_;refine fE 1 (.func (.func 179) #[] #[]) ?_;refine Xy 2 (bm x G z) (λw' s=>cO 0 _ (s.ox O.o.2.1)) ?_;refine fE 5 (.func (.func 176) #[] #[bp (bt ⟨pa,0,bv⟩)]) ?_;refine fE 6 (.func (.func 179) #[] #[]) ?_;refine Xy 7 (bm y H B) (λw' s=>cO 0 _ (s.ox O.o.2.2)) ?_;refine fE 10 (.func (.func 178) #[] #[bp (bt ⟨pa,0,bv⟩)]) ?_;refine fE 11 (.func (.func 180) #[] #[]) ?_;refine Xy 12 (bm x G z) (λw' s=>cO 0 _ (s.ox O.o.2.1)) ?_;refine fE 15 (.func (.func 178) #[] #[bp (bt ⟨pa,0,bv⟩)]) ?_;refine fE 16 (.func (.func 180) #[] #[]) ?_;refine Xy 17 (bm y H B) (λw' s=>cO 0 _ (s.ox O.o.2.2)) ?_;refine PR 3 (aa.o _ b) λd l C=>?_;replace b:=l;clear l C;clear U
 obtain⟨U,rfl⟩:=eX d;refine PR 4 (a7.o _ b) λd l C=>?_;replace b:=l;clear l C;clear U
 obtain⟨U,rfl⟩:=eX d;refine PR 8 (ab.o _ b) λd l C=>?_;replace b:=l;clear l C;clear U
 obtain⟨U,rfl⟩:=eX d;refine PR 9 (a8.o _ b) λd l C=>?_;replace b:=l;clear l C;clear U
 obtain⟨U,rfl⟩:=eX d;refine PR 13 (ac.o _ b) λd l C=>?_;replace b:=l;clear l C;clear U
 obtain⟨U,rfl⟩:=eX d;refine PR 14 (c8.o _ b) λd l C=>?_;replace b:=l;clear l C;clear U
 obtain⟨U,rfl⟩:=eX d;refine PR 18 (ad.o _ b) λd l C=>?_;replace b:=l;clear l C;clear U
 obtain⟨U,rfl⟩:=eX d;refine PR 19 (a9.o _ b) λd l C=>?_;replace b:=l;clear l C;clear U
 obtain⟨U,rfl⟩:=eX d;refine fE 20 (bq #[e1,e2,e3,e4]) ?_;refine PR 21 (UQ _) λd l C=>?_;replace b:=l;clear l C;clear U
 obtain⟨U,rfl⟩:=eX d;try unfold Rc.v
 refine PR 22 (HM.o _) λd l C=>?_;replace b:=l;clear l C;clear U
 obtain⟨U,rfl⟩:=eX d;try unfold Rc.v
 have Q:=(b.old w.heap.size gn lz).t O.o.1;have Y:=cO 0 (0:Int) Q;have y1:=cO 1 (0:Int) Q;have y2:=cO 2 (0:Int) Q;have y3:=cO 3 (0:Int) Q;have yf:=λi=>dm Q i;refine Yo ?_
 go_wp2_with fail
 refine ag (v:=bq #[m0,m1,m2,m3]) (by simp [results,results173,go_sem,Y,y1,y2,y3]) rfl ⟨rfl,?_⟩;exact ((((aM.o.t b).sc).sc).sc).sc
theorem P7(p:Af)(E:p.ok=bP)(r:Rc)(n:r.InC)(m:Rc)(pa B:Nat)(w:bw)(l:∀u,bH [] w u->CR 173 #[bp (bt ⟨B,0,bv⟩),bp (bt ⟨pa,0,bv⟩)] u m.v):
  CR 172 #[p.v,r.v,.func (.func 173) #[] #[bp (bt ⟨B,0,bv⟩),bp (bt ⟨pa,0,bv⟩)]] w (.tuple #[m.v,(0:Int)]):=by
 have k:=λw=>wX p w;rw [E]at k;have z:=λw=>iF r w;rw [n.full]at z;obtain⟨HV,Y,HR,Z⟩:=lh4 k z (IK r n) l;clear k z n E l;obtain⟨a,b,c,d,e,f,a0⟩:=p;obtain⟨x0,y0,x1,y1⟩:=r;obtain⟨m0,m1,m2,m3⟩:=m;simp only [Af.v,Rc.v]at *;obtain⟨W,j⟩:=eX (((w.alloc (bl #[a,b,c,d,e,f,a0] 40)).alloc (bl #[x0,y0,x1,y1] 59)).alloc (bl #[(0:Int),(0:Int),(0:Int),(0:Int)] 59));have A:bH [] w W:=j▸(((tR w).a _).a _).a _;have a1:w.heap.size+3<=W.heap.size:=by rw [j];simp
 obtain⟨G,a5,a6,a7,a8,a9,D⟩:=Qh (DD j).1;obtain⟨y,q,s,x⟩:=GX (DD j).2.1;obtain⟨aa,ab,ac,ad⟩:=GX (DD j).2.2;have C:∀i,W.frozen? ⟨w+2,i,bv⟩=bR:=λi=>by rw [j];simp [go_sem]
 go_enter func172,ntmps172;go_upto_region 1 with (fail)
 rw [<-j];clear j;have h:=tR W;go_wp2_with (first
  |(go_at_call 234;with_reducible refine h.call (HV.o _) ?_;intro O h g l;have T:=λi=>(l (w.heap.size+2) i gn).t (C i);have F:=tq g G;have H:=tq g a5;have M:=tq g a6;have N:=tq g a7;have P:=tq g a8;have Q:=tq g a9;have R:=tq g D;have S:=tq g y;have U:=tq g q;have V:=tq g s;have X:=tq g x;have I:=tq g aa;have J:=tq g ab;have K:=tq g ac;have L:=tq g ad;clear g l)
  |(go_at_call 68;with_reducible refine h.call (Y.o _) ?_;intro O h g l;have T:=λi=>(l (w.heap.size+2) i gn).t (C i);have F:=tq g G;have H:=tq g a5;have M:=tq g a6;have N:=tq g a7;have P:=tq g a8;have Q:=tq g a9;have R:=tq g D;have S:=tq g y;have U:=tq g q;have V:=tq g s;have X:=tq g x;have I:=tq g aa;have J:=tq g ab;have K:=tq g ac;have L:=tq g ad;clear g l)
  |(go_at_call 48;with_reducible refine h.call (HR.o _) ?_;intro O h g l;have T:=λi=>(l (w.heap.size+2) i gn).t (C i);have F:=tq g G;have H:=tq g a5;have M:=tq g a6;have N:=tq g a7;have P:=tq g a8;have Q:=tq g a9;have R:=tq g D;have S:=tq g y;have U:=tq g q;have V:=tq g s;have X:=tq g x;have I:=tq g aa;have J:=tq g ab;have K:=tq g ac;have L:=tq g ad;clear g l)
  |(go_at_call 173;with_reducible refine h.call (Z.o _ (A.t h)) ?_;intro O h g l;have T:=λi=>(l (w.heap.size+2) i gn).t (C i);have I:=tq g aa;have J:=tq g ab;have K:=tq g ac;have L:=tq g ad;clear g l))
 exact ag (v:=.tuple #[bq #[m0,m1,m2,m3],(0:Int)]) pg rfl ⟨rfl,(((((A.t h).sc).sc).sc).sc)⟩
theorem RN(p:Af)(n:p.ok=bP)(r:Rc)(C:r.InC)(w:bw):
  CR 121 #[p.v,r.v] w (.tuple #[(p.bnds r).v,(0:Int)]):=by
 have s:=λq j u l=>P7 p n r C (p.bnds r) q j u l;have af:=λq j u F G=>Sm p n r C q j u F G;generalize p.bnds r=m at *;clear n C;have B:=lh s;have A:=lh af;clear s af;obtain⟨a,b,c,d,e,f,E⟩:=p;obtain⟨P,R,Q,S⟩:=r;obtain⟨H,I,J,K⟩:=m;simp only [Af.v,Rc.v]at *;have IX:=IX;obtain⟨W,g⟩:=eX (((w.alloc (bl #[a,b,c,d,e,f,E] 40)).alloc (bl #[P,R,Q,S] 59)).alloc (bl #[(0:Int),(0:Int),(0:Int),(0:Int)] 59));have D:bH [] w W:=g▸(((tR w).a _).a _).a _;have U:w.heap.size+3<=W.heap.size:=by rw [g];simp
 obtain⟨V,a5,a6,a7,a8,a9,X⟩:=Qh (DD g).1;obtain⟨Y,Z,a0,a1⟩:=GX (DD g).2.1;obtain⟨aa,ab,ac,ad⟩:=GX (DD g).2.2;have T:∀i,W.frozen? ⟨w+2,i,bv⟩=bR:=λi=>by rw [g];simp [go_sem]
 have x:=dJ g;have y:=Z5 g;have z:=lh (B.o w.heap.size (w.heap.size+1) W λu t=>A.o _ _ u ((t.old _ gn lz).t x) ((t.old _ gn lz).t y));clear x y;go_enter func121,ntmps121;go_upto_region 1 with (fail)
 rw [<-g];clear g;have k:=tR W;go_wp2_with (first
  |(go_at_call 172;with_reducible refine k.call (z.o) ?_;intro wy k h l;have zg:=λi=>(l (w.heap.size+2) i gn).t (T i);have L:=tq h aa;have M:=tq h ab;have N:=tq h ac;have O:=tq h ad;clear h l))
 exact ag (v:=.tuple #[bq #[H,I,J,K],(0:Int)]) (by simp [results,results121,go_sem,L,M,N,O]) rfl ⟨rfl,(((((D.t k).sc).sc).sc).sc)⟩
theorem OB(p:Af)(k:p.ok=bP)(r:Rc)(C:r.empty=bP)(pa E:Nat)(w:bw):
  CR 172 #[p.v,r.v,.func (.func 173) #[] #[bp (bt ⟨E,0,bv⟩),bp (bt ⟨pa,0,bv⟩)]] w (.tuple #[Rc.zero.v,(0:Int)]):=by
 have j:=λw=>wX p w;rw [k]at j;have z:=λw=>iF r w;rw [C]at z;have A:=lh j;have x:=lh z;clear j z C k;obtain⟨a,b,c,d,e,f,F⟩:=p;obtain⟨Y,y0,Z,y1⟩:=r;simp only [Af.v,Rc.v,Rc.zero]at *;obtain⟨W,m⟩:=eX (((w.alloc (bl #[a,b,c,d,e,f,F] 40)).alloc (bl #[Y,y0,Z,y1] 59)).alloc (bl #[(0:Int),(0:Int),(0:Int),(0:Int)] 59));have B:bH [] w W:=m▸(((tR w).a _).a _).a _;have a0:w.heap.size+3<=W.heap.size:=mq
 obtain⟨G,a5,a6,a7,a8,a9,D⟩:=Qh (DD m).1;obtain⟨y,n,q,s⟩:=GX (DD m).2.1;obtain⟨aa,ab,ac,ad⟩:=GX (DD m).2.2;have u:∀i,W.frozen? ⟨w+2,i,bv⟩=bR:=λi=>nc
 go_enter func172,ntmps172;go_upto_region 1 with (fail)
 rw [<-m];clear m;have h:=tR W;go_wp2_with (first
  |(go_at_call 234;with_reducible refine h.call (A.o _) ?_;intro T h g l;have zg:=λi=>(l (w.heap.size+2) i gn).t (u i);have H:=tq g G;have M:=tq g a5;have N:=tq g a6;have O:=tq g a7;have P:=tq g a8;have Q:=tq g a9;have R:=tq g D;have S:=tq g y;have U:=tq g n;have V:=tq g q;have X:=tq g s;have I:=tq g aa;have J:=tq g ab;have K:=tq g ac;have L:=tq g ad;clear g l)
  |(go_at_call 68;with_reducible refine h.call (x.o _) ?_;intro T h g l;have zg:=λi=>(l (w.heap.size+2) i gn).t (u i);have H:=tq g G;have M:=tq g a5;have N:=tq g a6;have O:=tq g a7;have P:=tq g a8;have Q:=tq g a9;have R:=tq g D;have S:=tq g y;have U:=tq g n;have V:=tq g q;have X:=tq g s;have I:=tq g aa;have J:=tq g ab;have K:=tq g ac;have L:=tq g ad;clear g l))
 exact ag (v:=.tuple #[bq #[(0:Int),(0:Int),(0:Int),(0:Int)],(0:Int)]) pg rfl ⟨rfl,(((((B.t h).sc).sc).sc).sc)⟩
theorem Qu(p:Af)(j:p.ok=bP)(r:Rc)(C:r.empty=bP)(w:bw):
  CR 121 #[p.v,r.v] w (.tuple #[Rc.zero.v,(0:Int)]):=by
 have s:=λA q u=>OB p j r C A q u;clear j C;have B:=lh s;clear s;obtain⟨a,b,c,d,e,f,x⟩:=p;obtain⟨D,F,E,G⟩:=r;simp only [Af.v,Rc.v,Rc.zero]at *;have IX:=IX;obtain⟨W,m⟩:=eX (((w.alloc (bl #[a,b,c,d,e,f,x] 40)).alloc (bl #[D,F,E,G] 59)).alloc (bl #[(0:Int),(0:Int),(0:Int),(0:Int)] 59));have n:bH [] w W:=m▸(((tR w).a _).a _).a _;have M:w.heap.size+3<=W.heap.size:=mq
 obtain⟨N,a5,a6,a7,a8,a9,O⟩:=Qh (DD m).1;obtain⟨P,Q,R,S⟩:=GX (DD m).2.1;obtain⟨aa,ab,ac,ad⟩:=GX (DD m).2.2;have H:∀i,W.frozen? ⟨w+2,i,bv⟩=bR:=λi=>nc
 have y:=dJ m;have z:=Z5 m;have k:=lh (B.o w.heap.size (w.heap.size+1) W);clear y z;go_enter func121,ntmps121;go_upto_region 1 with (fail)
 rw [<-m];clear m;have h:=tR W;go_wp2_with (first
  |(go_at_call 172;with_reducible refine h.call (k.o) ?_;intro T h g l;have U:=λi=>(l (w.heap.size+2) i gn).t (H i);have I:=tq g aa;have J:=tq g ab;have K:=tq g ac;have L:=tq g ad;clear g l))
 exact ag (v:=.tuple #[bq #[(0:Int),(0:Int),(0:Int),(0:Int)],(0:Int)]) (by simp [results,results121,go_sem,I,J,K,L]) rfl ⟨rfl,(((((n.t h).sc).sc).sc).sc)⟩
theorem Gw(r:Rc)(h:r.empty=bP)(w:bw): CR 50 #[r.v] w (.bool bR):=by
 have z:=λw=>iM r w;rw [h]at z;have j:=lh z;clear z h;obtain⟨a,f,d,g⟩:=r;unfold Rc.v at *;simp only at *;have c:=(tR w).alloc (bl #[a,f,d,g] 59);go_enter func50,ntmps50;go_wp2_with (go_at_call 111;refine mR (j.o _) λe aR=>?_)
 go_ret;exact⟨rfl,c.t aR⟩
theorem J4(p:Af)(x:p.ok=bP)(r:Rc)(C:r.empty=bP)(w:bw):
  CR 150 #[p.v,r.v] w (bq #[(0:Int),(0:Int),(0:Int),(0:Int),(0:Int)]):=by
 have j:=λw=>xA p w;rw [x]at j;have z:=λw=>iM r w;rw [C]at z;obtain⟨Y,B,E⟩:=lh3 j z (Gw r C);clear j z C x;obtain⟨a,b,c,d,e,f,a0⟩:=p;obtain⟨x0,y0,x1,y1⟩:=r;simp only [Af.v,Rc.v]at *;obtain⟨W,m⟩:=eX (((w.alloc (bl #[a,b,c,d,e,f,a0] 40)).alloc (bl #[x0,y0,x1,y1] 59)).alloc (bl #[(0:Int),(0:Int),(0:Int),(0:Int),(0:Int)] 223));have Z:bH [] w W:=m▸(((tR w).a _).a _).a _;have a1:w.heap.size+3<=W.heap.size:=mq
 obtain⟨G,a5,a6,a7,a8,a9,D⟩:=Qh (DD m).1;obtain⟨y,n,q,s⟩:=GX (DD m).2.1;obtain⟨aa,ab,ac,ad,M⟩:=WT (DD m).2.2;have u:∀i,W.frozen? ⟨w+2,i,bv⟩=bR:=λi=>nc
 go_enter func150,ntmps150;go_upto_region 1 with (fail)
 rw [<-m];clear m;have h:=tR W;go_wp2_with (first
  |(go_at_call 114;with_reducible refine h.call (Y.o _) ?_;intro O h g l;have T:=(λi=>(l (w.heap.size+2) i gn).t (u i));have F:=tq g G;have H:=tq g a5;have A:=tq g a6;have N:=tq g a7;have P:=tq g a8;have Q:=tq g a9;have R:=tq g D;have S:=tq g y;have U:=tq g n;have V:=tq g q;have X:=tq g s;have I:=tq g aa;have J:=tq g ab;have K:=tq g ac;have L:=tq g ad;have k:=tq g M;clear g l)
  |(go_at_call 111;with_reducible refine h.call (B.o _) ?_;intro O h g l;have T:=(λi=>(l (w.heap.size+2) i gn).t (u i));have F:=tq g G;have H:=tq g a5;have A:=tq g a6;have N:=tq g a7;have P:=tq g a8;have Q:=tq g a9;have R:=tq g D;have S:=tq g y;have U:=tq g n;have V:=tq g q;have X:=tq g s;have I:=tq g aa;have J:=tq g ab;have K:=tq g ac;have L:=tq g ad;have k:=tq g M;clear g l)
  |(go_at_call 50;with_reducible refine h.call (E.o _) ?_;intro O h g l;have T:=(λi=>(l (w.heap.size+2) i gn).t (u i));have F:=tq g G;have H:=tq g a5;have A:=tq g a6;have N:=tq g a7;have P:=tq g a8;have Q:=tq g a9;have R:=tq g D;have S:=tq g y;have U:=tq g n;have V:=tq g q;have X:=tq g s;have I:=tq g aa;have J:=tq g ab;have K:=tq g ac;have L:=tq g ad;have k:=tq g M;clear g l))
 exact ag (v:=bq #[(0:Int),(0:Int),(0:Int),(0:Int),(0:Int)]) (by simp [results,results150,go_sem,I,J,K,L,k]) rfl ⟨rfl,((((((Z.t h).sc).sc).sc).sc).sc)⟩
theorem SK(c:List dC)(g:eu c=bP)(A:Option bM)(n cap:Nat)(w:bw)(h:dB w A n c):
  CR 44 #[bq #[bm A n cap]] w (bq #[bm A n cap]):=by
 obtain⟨W,m⟩:=eX ((w.alloc (bl #[bm A n cap] 49)).alloc (bl #[bm bv 0 0] 49));have b:bH [] w W:=m▸((tR w).a _).a _;have J:w.heap.size+2<=W.heap.size:=mq
 have X:=cAt 0 (JK m).1 rfl;have x:=cAt 0 (JK m).2 rfl;have C:∀i,W.frozen? ⟨w+1,i,bv⟩=bR:=λi=>nc
 have e:=qi c A n cap;rw [g]at e;have j:=lh λu (t:bH [] w u)=>e u (h.u t);clear e h g;go_enter func44,ntmps44;go_upto_region 1 with (fail)
 rw [<-m];clear m;go_wp2_with (go_at_call 103;refine mR (j.o _ b) λq f=>?_;obtain⟨d,l⟩:=bY f;have O:=tq d X;have k:=tq d x;have p:=λi=>(l (w.heap.size+1) i gn).t (C i))
 exact ag (v:=bq #[bm A n cap]) pN rfl ⟨rfl,(b.t f).sc⟩
def lC(t:dC)(b:Rc): Nat->Rc
 |0=>b
 |k+1=>if 0<al t.px k then (lC t b k).join (one (8*t.x+((k%8:Nat):Int)) (8*t.y+((k/8:Nat):Int))) else lC t b k
def kH(c:List dC): Nat->Rc
 |0=>Rc.zero
 |i+1=>match c[i]? with
  |some t=>lC t (kH c i) 64
  |none=>kH c i
structure Ri(w wr:bw)(A:Option bM)(n cap:Nat)(q:Rc): Prop where
 t:bH [] w wr
 h0:wr.heap[w.heap.size]?=bt (bl #[bm A n cap] 49 (0,0))
 h1:wr.heap[w.heap.size+1]?=bt (bl (dZ Rc.zero) 59 (0,0))
 h2:wr.heap[w.heap.size+1+1]?=bt (bl (dZ q) 59 (0,0))
theorem Ri.u{w wr u:bw}{A:Option bM}{n cap:Nat}{q:Rc}(h:Ri w wr A n cap q)(T:bH [] wr u): Ri w u A n cap q:=
 ⟨h.t.t T,T.ox h.h0,T.ox h.h1,T.ox h.h2⟩
theorem Ri.set{w wr:bw}{A:Option bM}{n cap:Nat}{q m:Rc}(h:Ri w wr A n cap q): Ri w ((((wr.setCell ⟨w+1+1,0,bv⟩ m.x0).setCell ⟨w+1+1,1,bv⟩ m.y0).setCell ⟨w+1+1,2,bv⟩ m.x1).setCell ⟨w+1+1,3,bv⟩ m.y1) A n cap m:=by
 have a:∀i,w.heap.size<=(Addr.mk (w.heap.size+1+1) i bv).block:=λi=>lE
 refine⟨(((h.t.setCell _ (.inr (a _))).setCell _ (.inr (a _))).setCell _ (.inr (a _))).setCell _ (.inr (a _)),?_,?_,KY h.h2⟩
 .exact bW (bW (bW (bW h.h0 gn) gn) gn) gn
 exact bW (bW (bW (bW h.h1 gn) gn) gn) gn
theorem Rt{w:bw}{g o:Nat}{t:dC}(d:jo t.px)(R:w.rangeAt g o t.row)(k:Nat)(h:k<64): w.cell? ⟨g,o+2+k*4+3,bv⟩=bt (bo .u8 (al t.px k)):=by
 have i:=d.1;have e:t.row[2+k*4+3]?=bt (bo .u8 (al t.px k)):=by unfold dC.row al;rw [show 2+k*4+3=(k*4+3)+1+1 by omega,List.getElem?_cons_succ,List.getElem?_cons_succ,aP,aB gn];simp [List.getD,show k*4+3<t.px.length by omega]
 have:=R _ _ e;rw [show o+2+k*4+3=o+(2+k*4+3) by omega];exact this
theorem RD{w:bw}{g o:Nat}{t:dC}(R:w.rangeAt g o t.row): w.cell? ⟨g,o,bv⟩=bt (bo .i64 t.x)/\w.cell? ⟨g,o+1,bv⟩=bt (bo .i64 t.y):=⟨R 0 _ rfl,R 1 _ rfl⟩
theorem uK{c:List dC}(g:eu c=bP){i:Nat}{t:dC}(h:c[i]?=bt t): (-8192<=t.x/\t.x<=8191)/\-8192<=t.y/\t.y<=8191:=by
 unfold eu at g;rw [az,aZ]at g;have e:=g.2 i (aX.2 (ah.1 h).1);unfold nS at e;rw [h]at e;have f:xB t=bP:=by
  cases m:xB t with
  |true=>rfl
  |false=>simp [kF,m]at e
 simp only [xB,az,decide_eq_true_eq]at f;omega
theorem LX(x y:Int)(k:Nat)(a:-8192<=x/\x<=8191)(hy:-8192<=y/\y<=8191)(d:(k:Int)<64):
  (bT (8*x)=8*x/\bT (8*x+((k%8:Nat):Int))=8*x+((k%8:Nat):Int)/\bT (8*x+((k%8:Nat):Int)+1)=8*x+((k%8:Nat):Int)+1)/\
  bT (8*y)=8*y/\bT (8*y+((k/8:Nat):Int))=8*y+((k/8:Nat):Int)/\bT (8*y+((k/8:Nat):Int)+1)=8*y+((k/8:Nat):Int)+1/\bT ((k/8:Nat):Int)=((k/8:Nat):Int):=
 ⟨⟨dN _ gn gn,dN _ gn gn,dN _ gn gn⟩,dN _ gn gn,dN _ gn gn,dN _ gn gn,dN _ gn gn⟩
theorem FX(c:List dC)(E:eu c=bP)(A:Option bM)(n cap:Nat)(w:bw)(h:dB w A n c):
  bF ca 151 #[bq #[bm A n cap]] w λe w'=>e=bS (kH c n).v/\bH [] w w':=by
 have hn:=h.1;have a0:=λi t (d:c[i]?=bt t)=>uK E d;have Y:1<=n->∃g o,A=bt ⟨g,o,bv⟩/\∀w',bH [] w w'->∀j t,c[j]?=bt t->jo t.px/\w'.rangeAt g (o+j*258) t.row:=λb=>h.get b;have HO:=lh λu (t:bH [] w u)=>SK c E A n cap u (h.u t);have ao:n<=1024:=by unfold eu at E;rw [az,decide_eq_true_eq]at E;omega
 obtain⟨HA,HN,a7,a8⟩:=lh4 Y hn a0 ao;clear Y hn a0 h E ao;obtain⟨W,s⟩:=eX (((w.alloc (bl #[bm A n cap] 49)).alloc (bl #[(0:Int),(0:Int),(0:Int),(0:Int)] 59)).alloc (bl #[(0:Int),(0:Int),(0:Int),(0:Int)] 59));have V:bH [] w W:=s▸(((tR w).a _).a _).a _;have ad:w.heap.size+3<=W.heap.size:=rd
 have O:=dJ s;have x1:=Z5 s;have x2:=Zi s;have S:Ri w W A n cap Rc.zero:=⟨V,O,x1,x2⟩;have I:=cO 0 (bm A n cap) O;have br:=lh S;clear V O x1 x2 S;go_enter func151,ntmps151;go_upto_region 2 with (fail)
 rw [<-s];clear s;try simp only [aI]
 go_upto_region 3 with (go_at_call 44;refine mR (HO.o _ br.o.t) λH d=>?_;have F:=br.o.u d;have an:=lh F;have y1:=cO 0 (bm A n cap) F.h0;have Q:=(λi=>dm F.h0 i);clear F)
 have T:Ri w (H.setCell ⟨w,0,bv⟩ (bm A n cap)) A n cap Rc.zero:=by obtain⟨t,C,b,p⟩:=an.o;exact⟨t.sc,pU C,bW b gn,bW p gn⟩
 generalize H.setCell ⟨w,0,bv⟩ (bm A n cap)=U at *;have a9:=lh T;clear T I y1 Q d br an ad;go_wp2_with fail
 go_loopw [4] (λs4 wr=>∃i:Nat,i<=n/\s4=i/\Ri w wr A n cap (kH c i)) (λs4 _=>n-(bX s4).toNat);case atStart=>exact⟨0,gn,rfl,a9.o⟩
 obtain⟨i,hi,rfl,P⟩:=hrel;have I:=cO 0 (bm A n cap) P.h0;have R:=lh P;clear P;by_cases am:i<n
 .have a1:i<c.length:=by have:=HN.o;omega
  obtain⟨t,d⟩:∃t,c[i]?=bt t:=⟨_,aB a1⟩;obtain⟨g,o,ac,Z⟩:=HA.o gn;have aE:=λu (tt:bH [] w u)=>Z u tt i t d;have a4:kH c (i+1)=lC t (kH c i) 64:=qQ
  have a6:=a7.o i t d;obtain⟨HR,aa,ab⟩:=lh3 aE a4 a6;subst ac;have b0:(0:Int)<=(i:Int):=gn
  have b1:(i:Int)<(n:Int):=gn
  have b2:(i:Int)<=1024:=by have:=a8.o;omega
  clear Z aE a4 a6 a1 d;generalize kH c i=X at *;go_wp2_with fail
  clear I;go_loopw [5] (λs5 wz=>∃k:Nat,k<=64/\s5=k/\Ri w wz (bt ⟨g,o,bv⟩) n cap (lC t X k)) (λs5 _=>64-(bX s5).toNat);case atStart=>exact⟨0,gn,rfl,R.o⟩
  obtain⟨k,hk,rfl,P⟩:=hrel;have I:=cO 0 (bm (bt ⟨g,o,bv⟩) n cap) P.h0;have f:=lh P;clear P;by_cases af:k<64
  .obtain⟨a3,M⟩:=HR.o _ f.o.t;have e3:=Rt a3 M k af;obtain⟨ex,ey⟩:=RD M;have a5:lC t X (k+1)=if 0<al t.px k then (lC t X k).join (one (8*t.x+((k%8:Nat):Int)) (8*t.y+((k/8:Nat):Int))) else lC t X k:=rfl
   have L:=lh a5;have c0:(0:Int)<=(k:Int):=gn;have c1:(k:Int)<64:=gn;clear a5 M a3;generalize al t.px k=z at *;by_cases C:0<z
   .have N:=ab.o;obtain⟨⟨H,w3,w5⟩,w2,w4,w6,w7⟩:=LX t.x t.y k N.1 N.2 c1;have u1:Int.tmod (k:Int) 8=((k%8:Nat):Int):=rfl;have u2:Int.tdiv (k:Int) 8=((k/8:Nat):Int):=rfl;have B:=L.o;rw [aG C]at B;generalize t.x=tx,t.y=ty,hu:((k%8:Nat):Int)=u,hv:((k/8:Nat):Int)=v at *;have G:=BX (lC t X k) (one (8*tx+u) (8*ty+v));rw [<-B]at G;generalize a2:lC t X (k+1)=m at *;have dk:=lh a2;clear a2;generalize lC t X k=q at *;simp only [Rc.v,one]at G;have J:=lh G;have z0:=cO 0 q.x0 f.o.h2;have z1:=cO 1 q.y0 f.o.h2;have z2:=cO 2 q.x1 f.o.h2;have z3:=cO 3 q.y1 f.o.h2;clear G B hu hv L N;(go_upto_region 12 with fail);simp only [w7,w3,w4];(go_wp2_with (go_at_call 226;refine mR (J.o _) λwy be=>?_;have l:=f.o.u be;have ax:=lh l;have z0:=cO 0 q.x0 l.h2;have z1:=cO 1 q.y0 l.h2;have z2:=cO 2 q.x1 l.h2;have z3:=cO 3 q.y1 l.h2;have Q:=(λi=>dm l.h2 i);clear l));clear H w2 w3 w4 w5 w6 w7 u1 u2;go_roundw;case rel=>exact⟨k+1,gn,by go_num,by rw [dk.o];exact ax.o.set⟩
    simp [bX];omega
   have B:=L.o;rw [aF C]at B;have J:=lh B;clear B ex ey;go_wp2;go_roundw;case rel=>exact⟨k+1,gn,by go_num,by rw [J.o];exact f.o⟩
   simp [bX];omega
  obtain rfl:k=64:=gn
  have D:=f.o;rw [<-aa.o]at D;have K:=lh D;clear D;go_wp2;go_roundw;case rel=>exact⟨i+1,gn,by go_num,K.o⟩
  simp [bX];omega
 obtain rfl:i=n:=gn
 obtain⟨t,C,b,p⟩:=R.o;generalize D:kH c i=q at *;have K:=lh D;clear D;have z0:=cO 0 q.x0 p;have z1:=cO 1 q.y0 p;have z2:=cO 2 q.x1 p;have z3:=cO 3 q.y1 p;have r0:=cO 0 (0:Int) b;have r1:=cO 1 (0:Int) b;have r2:=cO 2 (0:Int) b;have r3:=cO 3 (0:Int) b;have Q:=λi=>dm b i;clear C b p;go_wp2_with fail
 exact ag (v:=q.v) (by simp [results,results151,go_sem,r0,r1,r2,r3];rfl) rfl ⟨by rw [K.o],(((t.sc).sc).sc).sc⟩
theorem EO{w:bw}{b i:Nat}{q:List bz}{v:bz}{ty:bE}(h:w.heap[b]?=bt (bl ⟨q⟩ ty (0,0)))(a:q[i]?=bt v): (w.setCell ⟨b,i,bv⟩ v).heap[b]?=bt (bl ⟨q⟩ ty (0,0)):=by
 obtain⟨m,e⟩:=ah.1 a;have z:q.set i v=q:=by rw [<-e];exact List.set_getElem_self m
 simp only [World.setCell,au,if_true,h,Option.map_some,Array.setIfInBounds_def];simp [m,z]
theorem Kv(c:List dC)(g:eu c=bP)(A:Option bM)(n cap:Nat)(w:bw)(h:dB w A n c):
  CR 183 #[bq #[bm A n cap]] w (bm A n cap):=by
 obtain⟨W,m⟩:=eX (w.alloc (bl #[bm A n cap] 49));have b:bH [] w W:=m▸(tR w).a _;have J:w.heap.size+1<=W.heap.size:=mq
 have X:=cAt 0 (Rf m) rfl;have e:=lh λu (t:bH [] w u)=>rU c g A n cap u (h.u t);clear h g;go_enter func183,ntmps183;go_upto_region 1 with (fail)
 rw [<-m];clear m;go_wp2_with (go_at_call 236;refine mR (e.o _ b) λi d=>?_;obtain⟨f,l⟩:=bY d;have O:=tq f X)
 go_ret;exact⟨rfl,b.t d⟩
def WJ(q:Rc)(a x y:Int): Rc:=if 0<a then q.join (one x y) else q
theorem TG(x y r g b a:Int)(I:-1048576<=x)(J:x<=1048576)(K:-1048576<=y)(L:y<=1048576)(q:Rc)(O:Nat)(w:bw)(u:w.heap[O]?=bt (bl (dZ q) 59 (0,0))):
  bF ca 184 #[x,y,bq #[bo .u8 r,bo .u8 g,bo .u8 b,bo .u8 a],bp (bt ⟨O,0,bv⟩)] w λe w'=>e=bS (bq #[bo .u8 r,bo .u8 g,bo .u8 b,bo .u8 a])/\w'.heap[O]?=bt (bl (dZ (WJ q a x y)) 59 (0,0))/\bH [O] w w':=by
 have a5:O<w.heap.size:=(ae.1 u).1;have P:bT (x+1)=x+1:=dN _ gn gn;have R:bT (y+1)=y+1:=dN _ gn gn;have z:=xG q (one x y);have l:WJ q a x y=if 0<a then q.join (one x y) else q:=rfl
 obtain⟨W,f⟩:=eX ((w.alloc (bl #[bo .u8 r,bo .u8 g,bo .u8 b,bo .u8 a] 45)).alloc (bl #[bo .u8 0,bo .u8 0,bo .u8 0,bo .u8 0] 45));have n:bH [] w W:=f▸((tR w).a _).a _;have a6:w.heap.size+2<=W.heap.size:=by rw [f];simp
 have k:=fU f;have h:=ZH f;have d:=(n.old O a5 lz).t u;have D:=cO 0 (bo .u8 r) k;have E:=cO 1 (bo .u8 g) k;have F:=cO 2 (bo .u8 b) k;have G:=cO 3 (bo .u8 a) k;by_cases H:0<a
 .rw [aG H]at l;rw [l];generalize q.join (one x y)=m at *;simp only [Rc.v,one]at z;have S:=cO 0 q.x0 d;have T:=cO 1 q.y0 d;have X:=cO 2 q.x1 d;have Y:=cO 3 q.y1 d;obtain⟨HJ,Q,a4⟩:=lh3 z (bg k (bg h d)) n;clear z k h d n l I J K L u;go_enter func184,ntmps184;go_upto_region 1 with (fail)
  rw [<-f];clear f;go_upto_region 3 with (go_at_call 185;refine mR (HJ.o _) λV p=>?_;have j:=(p.old O gn lz).t Q.o.2.2;have S:=cO 0 q.x0 j;have T:=cO 1 q.y0 j;have X:=cO 2 q.x1 j;have Y:=cO 3 q.y1 j;have yf:=(λi=>dm j i);have Z:=lh j;clear j)
  clear P R S T X Y yf D E F G;have M:=(p.old w.heap.size gn lz).t Q.o.1;have N:=(p.old (w.heap.size+1) gn lz).t Q.o.2.1;have s:=(a4.o.t p).mono (cs:=[O]) lz;have c:(((((V.setCell ⟨O,0,bv⟩ m.x0).setCell ⟨O,1,bv⟩ m.y0).setCell ⟨O,2,bv⟩ m.x1).setCell ⟨O,3,bv⟩ m.y1).heap[w.heap.size]?=bt (bl #[bo .u8 r,bo .u8 g,bo .u8 b,bo .u8 a] 45 (0,0)))/\((((V.setCell ⟨O,0,bv⟩ m.x0).setCell ⟨O,1,bv⟩ m.y0).setCell ⟨O,2,bv⟩ m.x1).setCell ⟨O,3,bv⟩ m.y1).heap[w.heap.size+1]?=bt (bl #[bo .u8 0,bo .u8 0,bo .u8 0,bo .u8 0] 45 (0,0)):=
   ⟨bW (bW (bW (bW M gn) gn) gn) gn,bW (bW (bW (bW N gn) gn) gn) gn⟩
  have bx:((((V.setCell ⟨O,0,bv⟩ m.x0).setCell ⟨O,1,bv⟩ m.y0).setCell ⟨O,2,bv⟩ m.x1).setCell ⟨O,3,bv⟩ m.y1).heap[O]?=bt (bl (dZ m) 59 (0,0)):=KY Z.o;have s:=(((s.setCell (a:=⟨O,0,bv⟩) m.x0 (.inl lz)).setCell (a:=⟨O,1,bv⟩) m.y0 (.inl lz)).setCell (a:=⟨O,2,bv⟩) m.x1 (.inl lz)).setCell (a:=⟨O,3,bv⟩) m.y1 (.inl lz);generalize (((V.setCell ⟨O,0,bv⟩ m.x0).setCell ⟨O,1,bv⟩ m.y0).setCell ⟨O,2,bv⟩ m.x1).setCell ⟨O,3,bv⟩ m.y1=U at *;have D:=cO 0 (bo .u8 r) c.1;have E:=cO 1 (bo .u8 g) c.1;have F:=cO 2 (bo .u8 b) c.1;have G:=cO 3 (bo .u8 a) c.1;have C:=cO 0 (bo .u8 0) c.2;have c1:=cO 1 (bo .u8 0) c.2;have c2:=cO 2 (bo .u8 0) c.2;have c3:=cO 3 (bo .u8 0) c.2;have cf:=λi=>dm c.2 i;clear c M N p;have A:=lh bx;have B:=lh s;clear bx s;go_wp2_with fail
  exact ag (v:=bq #[bo .u8 r,bo .u8 g,bo .u8 b,bo .u8 a]) rN rfl ⟨rfl,bW (bW (bW (bW A.o gn) gn) gn) gn,(((B.o.sc).sc).sc).sc⟩
 rw [aF H]at l;rw [l];have C:=cO 0 (bo .u8 0) h;have c1:=cO 1 (bo .u8 0) h;have c2:=cO 2 (bo .u8 0) h;have c3:=cO 3 (bo .u8 0) h;have cf:=λi=>dm h i;have A:=lh d;have B:=lh (n.mono (cs:=[O]) lz);clear z k h d n l I J K L u P R;go_enter func184,ntmps184;go_upto_region 1 with (fail)
 rw [<-f];clear f;go_wp2_with fail
 exact ag (v:=bq #[bo .u8 r,bo .u8 g,bo .u8 b,bo .u8 a]) rN rfl ⟨rfl,bW (bW (bW (bW A.o gn) gn) gn) gn,(((B.o.sc).sc).sc).sc⟩
structure U3(w wr:bw)(bb:Nat)(v:bz)(i:Nat)(q:Rc): Prop where
 t:bH [bb] w wr
 hb:wr.heap[bb]?=bt (bl (dZ q) 59 (0,0))
 ow:∃rows,rows.length=i/\iK kJ wr w.heap.size v rows
 lt:bb<w.heap.size
structure NU(w wz:bw)(bb b:Nat)(v:bz)(i:Nat)(row:List bz)(q:Rc): Prop where
 m:U3 w wz bb v i q
 hT:wz.heap[b]?=bt (bl ⟨row⟩ 181 (0,0))
 nb:∀g∈dI v,g≠b
 lb:w.heap.size<=b
theorem U3.kept{w wr u:bw}{O:Nat}{v:bz}{i:Nat}{q:Rc}(h:U3 w wr O v i q)(T:bH [] wr u): U3 w u O v i q:=by obtain⟨t,g,⟨d,a,c⟩,b⟩:=h;exact⟨t.t (T.mono lz),(T.old O (ae.1 g).1 lz).t g,⟨d,a,c.u T⟩,b⟩
theorem NU.kept{w z u:bw}{O b:Nat}{v:bz}{i:Nat}{a:List bz}{q:Rc}(h:NU w z O b v i a q)(T:bH [] z u): NU w u O b v i a q:=
 ⟨h.m.kept T,(T.old b (ae.1 h.hT).1 lz).t h.hT,h.nb,h.lb⟩
theorem NU.vis{w z u:bw}{O b:Nat}{v:bz}{i:Nat}{e:List bz}{q d:Rc}(h:NU w z O b v i e q)(T:bH [O] z u)(l:u.heap[O]?=bt (bl (dZ d) 59 (0,0))): NU w u O b v i e d:=by obtain⟨⟨t,p,⟨o,j,c⟩,n⟩,a,H,m⟩:=h;exact⟨⟨t.t T,l,⟨o,j,c.kept T λg f k=>by have:=(c.2.lt g f).1;simp at k;omega⟩,n⟩,(T.old b (ae.1 a).1 lO).t a,H,m⟩
theorem NU.same{w d:bw}{O b:Nat}{v:bz}{i j:Nat}{c:List bz}{q:Rc}{z:bz}(h:NU w d O b v i c q)(n:c[j]?=bt z): NU w (d.setCell ⟨b,j,bv⟩ z) O b v i c q:=by obtain⟨⟨t,f,⟨u,l,s⟩,p⟩,e,H,o⟩:=h;have T:=(bH.refl [b] d).setCell (a:=⟨b,j,bv⟩) z (.inl lz);exact⟨⟨t.setCell z (.inr lE),bW f gn,⟨u,l,s.kept T λg k m=>H g k (by simpa using m)⟩,p⟩,EO e n,H,o⟩
theorem NU.app{w z:bw}{O b:Nat}{v:bz}{i:Nat}{f:List bz}{q:Rc}(h:NU w z O b v i f q)(C:kJ.Row f)(F:i<=1024)(ty:bE):
  ∃A n c u,(Builtin.append_ #[47,47] ty #[v,bm (bt ⟨z,0,bv⟩) 1 1]).run ca (z.alloc (bl ⟨f⟩ kJ.e))=.ok (bm A n c) u/\U3 w u O (bm A n c) (i+1) q:=by
 obtain⟨⟨t,m,⟨J,y,p⟩,o⟩,E,I,H⟩:=h;obtain⟨K,u,s,l,N,D⟩:=kV (k:=kJ) (t:=47) underlying47 p C t.size gn ty;have aw:∀g∈dI v,w.heap.size<=g:=λg x=>(p.2.lt g x).1;have T:bH [O] w u:=⟨aK t.size N.size,λj a G=>(N.old j (aj a t.size) λd=>absurd a (Nat.not_lt.2 (aw j d))).t (t.old j a G),N.os.t t.os,N.tape.t t.tape,N.output.t t.output⟩;have B:u.heap[O]?=bt (bl (dZ q) 59 (0,0)):=(N.old O (ae.1 m).1 λd=>absurd o (Nat.not_lt.2 (aw O d))).t m;obtain⟨A,c,rfl⟩:=jv l;exact⟨A,_,c,u,s,T,B,⟨_,by rw [aO,y];rfl,l⟩,o⟩
theorem J9(x y:Int)(k:Nat)(a:-8192<=x/\x<=8191)(hy:-8192<=y/\y<=8191)(d:(k:Int)<64):
  (bT (x*8)=x*8/\bT (x*8+((k%8:Nat):Int))=x*8+((k%8:Nat):Int))/\bT (y*8)=y*8/\bT (y*8+((k/8:Nat):Int))=y*8+((k/8:Nat):Int)/\bT ((k/8:Nat):Int)=((k/8:Nat):Int):=
 ⟨⟨dN _ gn gn,dN _ gn gn⟩,dN _ gn gn,dN _ gn gn,dN _ gn gn⟩
theorem Vb(x y:Int)(k:Nat)(a:-8192<=x/\x<=8191)(hy:-8192<=y/\y<=8191)(d:(k:Int)<64): (-1048576<=x*8+((k%8:Nat):Int)/\x*8+((k%8:Nat):Int)<=1048576)/\-1048576<=y*8+((k/8:Nat):Int)/\y*8+((k/8:Nat):Int)<=1048576:=gn
theorem Qr(t:dC)(b:Rc)(k:Nat): lC t b (k+1)=WJ (lC t b k) (al t.px k) (t.x*8+((k%8:Nat):Int)) (t.y*8+((k/8:Nat):Int)):=by rw [Int.mul_comm t.x 8,Int.mul_comm t.y 8];rfl
theorem J6{a:List Int}(i:a.length=256)(k:Nat)(d:k<64): (⟨a.map (Value.int .u8)⟩:Array bz).extract (k*4) (k*4+4)=#[bo .u8 (a.getD (k*4) 0),bo .u8 (a.getD (k*4+1) 0),bo .u8 (a.getD (k*4+2) 0),bo .u8 (al a k)]:=by
 refine Array.ext' ?_;rw [Array.toList_extract];refine List.ext_getElem? λj=>?_;unfold al;by_cases b:j<4
 .rw [List.extract_eq_take_drop,List.getElem?_take_of_lt gn,List.getElem?_drop,aP,aB gn];obtain rfl|rfl|rfl|rfl:j=0\/j=1\/j=2\/j=3:=by omega
  all_goals simp [List.getD,show k*4<a.length by omega,show k*4+1<a.length by omega,show k*4+2<a.length by omega,show k*4+3<a.length by omega]
 rw [bC (by rw [List.extract_eq_take_drop,List.length_take];omega),bC lO]
theorem Vz{t:dC}(i:t.px.length=256)(j:Nat)(k:j<256): t.row[2+j]?=bt (bo .u8 (t.px.getD j 0)):=by unfold dC.row;rw [show 2+j=j+1+1 by omega,List.getElem?_cons_succ,List.getElem?_cons_succ,aP,aB gn];simp [List.getD,show j<t.px.length by omega]
theorem Jg(c:List dC)(z:eu c=bP)(A:Option bM)(n cap O:Nat)(w:bw)(T:w.heap[O]?=bt (bl (dZ Rc.zero) 59 (0,0)))(hn:n=c.length)
  (hA:∀u,bH [O] w u->∀j t,c[j]?=bt t->jo t.px/\∃g o,A=bt ⟨g,o,bv⟩/\u.rangeAt g (o+j*258) t.row) :
  bF ca 182 #[bm A n cap,.func (.func 184) #[] #[bp (bt ⟨O,0,bv⟩)]] w λe w'=>(∃v,e=bS v)/\w'.heap[O]?=bt (bl (dZ (kH c n)) 59 (0,0))/\bH [O] w w':=by
 have aa:O<w.heap.size:=(ae.1 T).1;have a8:=λi t (d:c[i]?=bt t)=>uK z d;have ax:∀(i:Nat) (t:dC),c[i]?=bt t->oO t.px=bR:=λi t d=>by
  unfold eu at z;rw [az,aZ]at z;have p:=z.2 i (aX.2 (ah.1 d).1);unfold nS at p;rw [d]at p;cases hz:oO t.px with
  |false=>rfl
  |true=>simp [kF,hz]at p
 have ao:n<=1024:=by unfold eu at z;rw [az,decide_eq_true_eq]at z;omega
 obtain⟨HA,HN,av,b9,aD⟩:=lh5 hA hn a8 ax ao;have aR:Hid (U3 w w O (bm bv 0 0) 0 (kH c 0)):=lh ⟨bH.refl _ _,T,⟨[],rfl,jU _ _ _⟩,aa⟩;clear hA hn a8 ax ao T z aa;go_enter func182,ntmps182;go_wp2_with fail
 go_loopw [5,12] (λs5 s12 wr=>∃(E:Option bM) (J c5 i:Nat),i<=n/\s5=bm E J c5/\s12=i/\U3 w wr O (bm E J c5) i (kH c i)) (λ_ s12 _=>n-(bX s12).toNat);case atStart=>exact⟨bv,0,0,0,Nat.zero_le _,rfl,rfl,aR.o⟩
 obtain⟨E,J,c5,i,hi,rfl,rfl,B⟩:=hrel;by_cases bj:i<n
 .have ab:i<c.length:=by have:=HN.o;omega
  obtain⟨t,d⟩:∃t,c[i]?=bt t:=⟨_,aB ab⟩;obtain⟨I,g,o,rfl,hR⟩:=HA.o wr B.t i t d;have af:kH c (i+1)=lC t (kH c i) 64:=qQ
  have l:=av.o i t d;have ay:=b9.o i t d;have ao:t.row.length=258:=sL
  have aq:(⟨t.row⟩:Array bz).all (·.oneCell')=bP:=all_oneCell_toArray (cs:=t.row) (λv f=>(jA I).one v f);have bc:(Instr.alloc 181 bP (.tuple #[])).run ca wr=.ok (bp (bt ⟨wr,0,bv⟩)) (wr.alloc (bl cb 181)):=mw
  have a2:(prog.info? 181).map (·.size)=bt t.row.length:=nE
  have an:(Instr.storeAt 181 (bp (bt ⟨wr,0,bv⟩)) (bq ⟨t.row⟩)).run ca (wr.alloc (bl cb 181))=.ok () (wr.alloc (bl ⟨t.row⟩ 181)):=
   run_storeAt_new wr 181 cb ⟨t.row⟩ a2 mT aq
  have hI:NU w (wr.alloc (bl ⟨t.row⟩ 181)) O wr.heap.size (bm E J c5) i t.row (lC t (kH c i) 0):=by obtain⟨bk,hl,ow⟩:=B.ow;exact⟨B.kept ((tR wr).a _),bB _ _,λg hg e=>by have:=(ow.2.lt g hg).2.1;omega,B.t.size⟩
  obtain⟨Z,aw,a7,b4,b6,b8,aE⟩:=lh7 (jA I) I hI af l ay a2;have b0:(0:Int)<=(i:Int):=gn
  have b1:(i:Int)<(n:Int):=gn
  have b2:(i:Int)<=1024:=by have:=aD.o;omega
  clear af l ay ao aq hI I d ab B;generalize ac:t.row=D at *;have L:=lh ac;clear ac;generalize kH c i=Y at *;go_upto_region 5 with (first
   |(refine bA rfl 181 _ rfl _ _ rfl _ _ hR cd rfl a2 ?_)
   |(refine bU rfl 181 _ _ rfl rfl rfl an ?_))
  clear hR bc an a2;generalize wr.alloc (bl ⟨D⟩ 181)=W2,wr.heap.size=b at *;have a3:=a7.o.hT;have G:W2.rangeAt b 2 (t.px.map (Value.int .u8)):=by intro j v f;rw [aA _ _ _ _ 181 (0,0) a3,<-L.o,Nat.add_comm 2 j,<-f];show (t.row.toArray)[j+2]?=_;rw [List.getElem?_toArray];rfl
  have a1:(prog.info? 80).map (·.size)=bt (t.px.map (Value.int .u8)).length:=by rw [aJ,aw.o.1,iE]
  clear a3;go_upto_region 6 with (refine bA rfl 80 _ rfl _ _ rfl _ _ G ce rfl a1 ?_)
  clear G a1;have V:∀(k:Nat),k<64->∀u,(Instr.index 80 (bq (t.px.map (Value.int .u8)).toArray) k).run ca u=.ok (bq #[bo .u8 (t.px.getD (k*4) 0),bo .u8 (t.px.getD (k*4+1) 0),bo .u8 (t.px.getD (k*4+2) 0),bo .u8 (al t.px k)]) u:=λk W u=>qY _ _ k W (J6 aw.o.1 k W) u;have aL:=lh V;clear V;generalize a5:(t.px.map (Value.int .u8)).toArray=cl at *;have bh:=lh a5;clear a5;go_loopw [18] (λs18 wz=>∃k:Nat,k<=64/\s18=k/\NU w wz O b (bm E J c5) i D (lC t Y k)) (λs18 _=>64-(bX s18).toNat);case atStart=>exact⟨0,gn,rfl,a7.o⟩
  obtain⟨k,W,rfl,U⟩:=hrel;by_cases bd:k<64
  .have V:=aL.o k bd;have c0:(0:Int)<=(k:Int):=gn;have c1:(k:Int)<64:=gn;have C:=Vz aw.o.1;rw [L.o]at C;have N:=C (k*4) gn;have p:=C (k*4+1) gn;have Q:=C (k*4+2) gn;have M:=C (k*4+3) gn;rw [show t.px.getD (k*4+3) 0=al t.px k from rfl]at M;simp only [<-Nat.add_assoc]at N p Q M;have l:=b6.o;have ap:=Qr t Y k;obtain⟨⟨w1,w3⟩,w2,w4,K⟩:=J9 t.x t.y k l.1 l.2 c1;have H:(-1048576<=t.x*8+((k%8:Nat):Int)/\t.x*8+((k%8:Nat):Int)<=1048576)/\-1048576<=t.y*8+((k/8:Nat):Int)/\t.y*8+((k/8:Nat):Int)<=1048576:=Vb t.x t.y k l.1 l.2 c1;have f:=λ(r g b_ a:Int) (q:Rc) (u:bw) X=>TG (t.x*8+((k%8:Nat):Int)) (t.y*8+((k/8:Nat):Int)) r g b_ a H.1.1 H.1.2 H.2.1 H.2.2 q O u X;have u1:Int.tmod (k:Int) 8=((k%8:Nat):Int):=rfl;have u2:Int.tdiv (k:Int) 8=((k/8:Nat):Int):=rfl;have S:D[0]?=bt (bo .i64 t.x)/\D[1]?=bt (bo .i64 t.y):=(by rw [<-L.o];exact⟨rfl,rfl⟩);generalize t.x=tx,t.y=ty,X:((k%8:Nat):Int)=u,bf:((k/8:Nat):Int)=v,t.px.getD (k*4) 0=z0,t.px.getD (k*4+1) 0=z1,t.px.getD (k*4+2) 0=z2,al t.px k=z3 at *;have F:=U.kept ((tR wr).alloc (bl #[bo .u8 z0,bo .u8 z1,bo .u8 z2,bo .u8 z3] 45));have e0:=bJ (i:=0) F.hT S.1;have e1:=bJ (i:=1) F.hT S.2;have a9:=f z0 z1 z2 z3 (lC t Y k) _ F.m.hb;rw [<-ap]at a9;obtain⟨HC,b5,h⟩:=lh3 a9 F (bg N (bg p (bg Q M)));clear N p Q M l ap H f S F a9 U C X bf;(go_upto_region 8 with fail);(go_wp2_with (go_at_call 184;(try simp only [K,w3,w4]);(with_reducible refine HC.o.mono ?_);rintro e w5 ⟨rfl,a6,be⟩;have s:=b5.o.vis be a6;have y0:=bJ s.hT h.o.1;have y1:=bJ s.hT h.o.2.1;have y2:=bJ s.hT h.o.2.2.1;have y3:=bJ s.hT h.o.2.2.2;have yf:=(λi=>dD s.hT i);have aM:=lh s;clear s a6));clear w1 w2 w3 w4 K u1 u2 e0 e1 y0 y1 y2 y3 yf;go_roundw;case rel=>exact⟨k+1,gn,by go_num,(((aM.o.same h.o.1).same h.o.2.1).same h.o.2.2.1).same h.o.2.2.2⟩
   simp [bX];omega
  obtain rfl:k=64:=gn
  rw [<-b4.o]at U;have P:=DZ t.px aw.o;rw [b8.o]at P;have G:wr.rangeAt b 2 (t.px.map (Value.int .u8)):=by intro j v f;rw [aA _ _ _ _ 181 (0,0) U.hT,<-L.o,Nat.add_comm 2 j,<-f];show (t.row.toArray)[j+2]?=_;rw [List.getElem?_toArray];rfl
  have a1:(prog.info? 80).map (·.size)=bt (t.px.map (Value.int .u8)).length:=by rw [aJ,aw.o.1,iE]
  have a0:=lh U;unfold tv at P;have HZ:=lh P;clear P U;go_upto_region 11 with (first
   |(refine bA rfl 80 _ rfl _ _ rfl _ _ G ce rfl a1 ?_)
   |(go_at_call 235;refine mR (HZ.o _) λK ar=>?_))
  have R:=a0.o.kept ar;clear G a1 HZ a0 ar;have ad:K.rangeAt b 0 D:=by intro j v f;rw [aA _ _ _ _ 181 (0,0) R.hT,Nat.zero_add];simpa using f
  obtain⟨A6,n6,c6,u6,am,a4⟩:=R.app Z.o gn 47;obtain⟨b7,b3,ba⟩:=lh3 am a4 (nG (k:=kJ) (t:=47) underlying47 Z.o K);have a2:=aE.o;clear am a4 R;go_upto_region 12 with (first
   |(refine yR 50 (dL (.tmp 47) (.tmp 49) 47 rfl rfl rfl b7.o) ?_)
   |(refine yR 49 (dV (x:=.tmp 48) (y:=bq ⟨D⟩) rfl rfl ba.o) ?_)
   |(refine bA rfl 181 _ rfl _ _ rfl _ _ ad cd rfl a2 ?_))
  clear ad a2;go_wp2;go_roundw;case rel=>exact⟨_,_,_,i+1,gn,rfl,by go_num,b3.o⟩
  simp [bX];omega
 obtain rfl:i=n:=gn
 obtain⟨t,hb,-,-⟩:=B;have HT:=lh (bg hb t);clear t hb;go_wp2;go_ret;exact⟨⟨_,rfl⟩,HT.o.1,HT.o.2⟩
theorem Fz(d:List dC)(z:eu d=bP)(A:Option bM)(n cap:Nat)(w:bw)(h:dB w A n d):
  bF ca 122 #[bq #[bm A n cap]] w λe w'=>e=bS (kH d n).v/\bH [] w w':=by
 obtain⟨W,c⟩:=eX (((w.alloc (bl #[bm A n cap] 49)).alloc (bl #[(0:Int),(0:Int),(0:Int),(0:Int)] 59)).alloc (bl #[(0:Int),(0:Int),(0:Int),(0:Int)] 59));have f:bH [] w W:=c▸(((tR w).a _).a _).a _;have T:w.heap.size+3<=W.heap.size:=sF
 have C:=dJ c;have D:=Z5 c;have H:=Zi c;have X:=cO 0 (bm A n cap) C;have E:=lh λu (t:bH [] W u)=>Kv d z A n cap u (h.u (f.t t));have R:∀u,bH [] W u->∀p,bH [w.heap.size+1+1] u p->∀j t,d[j]?=bt t->jo t.px/\∃g o,A=bt ⟨g,o,bv⟩/\p.rangeAt g (o+j*258) t.row:=λu t p S j x M=>by obtain⟨I,g,o,J,q⟩:=h.2 j x M;refine⟨I,g,o,J,λi v B=>?_⟩;have L:=q i v B;have s:=ai L;have y:=fJ (f.t t) q i v B;have e:=S.old g (aj s (f.t t).size) (by have:=f.size;simp;simp at s;omega);simp only [World.cell?]at y ⊢;rw [e];exact y
 have Z:=lh λu (t:bH [] W u)=>Jg d z A n cap (w.heap.size+1+1) u ((t.old _ gn lz).t H) h.1 (R u t);have a6:=lh D;have F:=lh f;clear C D H R h z f;have IX:=IX;generalize kH d n=m at *;go_enter func122,ntmps122;go_upto_region 2 with (fail)
 rw [<-c];clear c;try simp only [aI]
 have b:=tR W;go_upto_region 3 with (first
  |(go_at_call 183;refine mR (E.o _ b) λU aw=>?_;have b:=b.t aw)
  |(go_at_call 182;refine (Z.o _ b).mono ?_;rintro e V ⟨⟨v,rfl⟩,l,G⟩))
 have z0:=cO 0 m.x0 l;have z1:=cO 1 m.y0 l;have z2:=cO 2 m.x1 l;have z3:=cO 3 m.y1 l;have k:=(G.old (w.heap.size+1) (by have:=b.size;omega) lz).t ((b.old (w.heap.size+1) gn lz).t a6.o);have N:=cO 0 (0:Int) k;have O:=cO 1 (0:Int) k;have P:=cO 2 (0:Int) k;have Q:=cO 3 (0:Int) k;have Y:=λi=>dm k i;have K:=lh (Oh (F.o.t b) G gn);clear l k G;go_wp2_with fail
 exact ag (v:=m.v) (by simp [results,results122,go_sem,N,O,P,Q];rfl) rfl ⟨rfl,(((K.out.sc).sc).sc).sc⟩
def Rc.Z(r:Rc): Prop:=r=Rc.zero\/r.InC
theorem qB:Rc.zero.Z:=.inl rfl
theorem LK(r:Rc): r.can.Z:=r.can_cases
theorem Rc.Z.can{r:Rc}(h:r.Z): r.can=r:=by
 rcases h with rfl|h
 .rfl
 exact h.can
theorem Rc.Z.bd{r:Rc}(h:r.Z): r.bd:=by
 rcases h with rfl|h
 .simp only [Rc.bd,Rc.zero];omega
 exact h.bd
theorem Rc.Z.empty{r:Rc}(h:r.Z)(k:r.empty=bP): r=Rc.zero:=by
 rcases h with h|h
 .exact h
 rw [h.full]at k;cases k
theorem Rc.Z.inc{r:Rc}(h:r.Z)(k:r.empty=bR): r.InC:=by
 rcases h with rfl|h
 .cases k
 exact h
theorem Rc.Z.norm{r:Rc}(h:r.Z): r.norm=r:=by
 unfold Rc.norm;by_cases k:r.empty=bP
 .rw [aG k,h.empty k]
 rw [aF k]
theorem PL{a b:Rc}(C:a.Z)(g:b.Z): (a.join b).Z:=by
 unfold Rc.join;by_cases k:a.empty=bP
 .rw [aG k,g.norm];exact g
 rw [aF k];by_cases l:b.empty=bP
 .rw [aG l];exact C
 rw [aF l];obtain⟨c,h,j,p,s,u⟩:=C.inc uw;obtain⟨B,c1,c2,d,F,G⟩:=g.inc uv;exact .inr ⟨pd,pd,pd,pd,pd,pd⟩
theorem Wl{x y:Int}(a:-65536<=x/\x<=65535)(hy:-65536<=y/\y<=65535): (one x y).Z:=by unfold one;exact .inr ⟨by simp only;omega,by simp only;omega,by simp only;omega,by simp only;omega,by simp only;omega,by simp only;omega⟩
theorem KU{t:dC}(a:-8192<=t.x/\t.x<=8191)(hy:-8192<=t.y/\t.y<=8191){b:Rc}(g:b.Z): ∀k,k<=64->(lC t b k).Z
 |0,_=>g
 |k+1,hk=>by
  have E:=KU a hy g k gn;unfold lC;split
  .exact PL E (Wl gn gn)
  exact E
theorem JH{c:List dC}(g:eu c=bP): ∀i,(kH c i).Z
 |0=>qB
 |i+1=>by
  have E:=JH g i;unfold kH;cases h:c[i]? with
  |none=>exact E
  |some t=>
   obtain⟨a,d⟩:=uK g h;exact KU a d E 64 (aQ _)
def mJ(p:Af)(r:Rc): Rc:=if r.empty=bP then Rc.zero else p.bnds r
theorem DT(p:Af)(a:p.ok=bP)(r:Rc)(C:r.Z)(w:bw): CR 121 #[p.v,r.v] w (.tuple #[(mJ p r).v,(0:Int)]):=by
 unfold mJ;by_cases k:r.empty=bP
 .rw [aG k];exact Qu p a r k w
 rw [aF k];exact RN p a r (C.inc uw) w
theorem G8(p:Af)(a:p.ok=bP)(r:Rc)(C:r.Z)(w:bw): CR 150 #[p.v,r.v] w (bq #[bo .i64 (mJ p r).x0,bo .i64 (mJ p r).y0,bo .i64 (mJ p r).x1,bo .i64 (mJ p r).y1,(0:Int)]):=by
 unfold mJ;by_cases k:r.empty=bP
 .rw [aG k];exact J4 p a r k w
 rw [aF k];exact Nq p a r (C.inc uw) w
def bI.spread(l:bI)(a:Rc): Rc:=l.Xg.area (jC l.Xg l.ks l.cs) a 1
def jP(f:bI->Rc)(l:bI)(a:Rc): Rc:=if l.ag3=bP then a else if l.ag1=3 then (a.join (l.spread a)).can else a.join (f l)
def iW(f:bI->Rc)(ls:List bI): List Int->Rc->Rc
 | [],a=>a
 |id::ks,a=>match dh ls id with
  |none=>iW f ls ks a
  |some l=>iW f ls ks (jP f l a)
def jG(ls:List bI): Nat->bI->Rc
 |0,_=>Rc.zero
 |n+1,l=>if l.ag1=1 then (mJ l.agZ (kH l.Xm l.tn)).can
  else if l.ag1=5 then ((gY l.pts).meet (gY l.pts)).can
  else if l.ag1=4 then (match dh ls l.of with
   |some m=>(mJ l.agZ (jG ls n m)).can
   |none=>Rc.zero)
  else iW (jG ls n) ls l.ag0 Rc.zero
theorem oD{f:bI->Rc}{ls:List bI}: ∀(ks:List Int) (a:Rc),(∀x∈ks,∀l,dh ls x=bt l->(f l).Z)->a.Z->(iW f ls ks a).Z
 | [],a,_,ha=>ha
 |x::ks,a,hf,ha=>by
  unfold iW;cases i:dh ls x with
  |none=>exact oD ks a (λy d=>hf y (List.mem_cons_of_mem _ d)) ha
  |some l=>
   refine oD ks _ (λy d=>hf y (List.mem_cons_of_mem _ d)) ?_;unfold jP;split
   .exact ha
   split
   .exact LK _
   exact PL ha (hf x List.mem_cons_self l i)
theorem lZ(ls:List bI): ∀(n:Nat) (l:bI),(jG ls n l).Z
 |0,_=>qB
 |n+1,l=>by
  unfold jG;split
  .exact LK _
  split
  .exact LK _
  split
  .cases dh ls l.of with
   |none=>exact qB
   |some m=>exact LK _
  exact oD _ _ (λ_ _ m _=>lZ ls n m) qB
def JW(ls:List bI)(id:Int): List Int:=match kE ls id with
 |some (p,k)=>(match dh ls p with
  |some q=>q.ag0.take k
  |none=>[])
 |none=>[]
def uk(ls:List bI)(n:Nat)(l:bI): Rc:=if l.ag1=3 then (l.spread (iW (jG ls n) ls (JW ls l.id) Rc.zero)).can else jG ls n l
theorem sZ(f:bI->Rc)(ls:List bI): ∀(ks:List Int) (x:Int) (l:bI) (a:Rc),dh ls x=bt l->iW f ls (ks++[x]) a=jP f l (iW f ls ks a)
 | [],x,l,a,h=>by simp only [List.nil_append,iW,h]
 |y::ks,x,l,a,h=>by
  rw [List.cons_append];unfold iW;cases dh ls y with
  |none=>exact sZ f ls ks x l a h
  |some m=>exact sZ f ls ks x l _ h
theorem GI{ks:List Int}{j:Nat}(h:j<ks.length): ks.take (j+1)=ks.take j++[ks.getD j 0]:=uz
structure IV(w wr:bw)(d:df)(ty:bE)(q:Rc): Prop where
 t:bH [] w wr
 h0:wr.heap[w.heap.size]?=bt (bl #[bm d.sA d.sn d.sc,d.root,d.next,bm d.lA d.ln d.lc] ty (0,0))
 h1:wr.heap[w.heap.size+1]?=bt (bl (dZ Rc.zero) 59 (0,0))
 h2:wr.heap[w.heap.size+1+1]?=bt (bl (dZ q) 59 (0,0))
theorem IV.u{w wr u:bw}{d:df}{ty:bE}{q:Rc}(h:IV w wr d ty q)(T:bH [] wr u): IV w u d ty q:=
 ⟨h.t.t T,T.ox h.h0,T.ox h.h1,T.ox h.h2⟩
theorem IV.set{w wr:bw}{d:df}{ty:bE}{q m:Rc}(h:IV w wr d ty q): IV w ((((wr.setCell ⟨w+1+1,0,bv⟩ m.x0).setCell ⟨w+1+1,1,bv⟩ m.y0).setCell ⟨w+1+1,2,bv⟩ m.x1).setCell ⟨w+1+1,3,bv⟩ m.y1) d ty m:=by
 have a:∀i,w.heap.size<=(Addr.mk (w.heap.size+1+1) i bv).block:=λi=>lE
 refine⟨(((h.t.setCell _ (.inr (a _))).setCell _ (.inr (a _))).setCell _ (.inr (a _))).setCell _ (.inr (a _)),?_,?_,KY h.h2⟩
 .exact bW (bW (bW (bW h.h0 gn) gn) gn) gn
 exact bW (bW (bW (bW h.h1 gn) gn) gn) gn
theorem IV.dc{w wr:bw}{d:df}{ty:bE}{q:Rc}(h:IV w wr d ty q): wr.cell? ⟨w,0,bv⟩=bt (bm d.sA d.sn d.sc)/\wr.cell? ⟨w,1,bv⟩=bt (bo .i64 d.root)/\wr.cell? ⟨w,2,bv⟩=bt (bo .i64 d.next)/\wr.cell? ⟨w,3,bv⟩=bt (bm d.lA d.ln d.lc):=
 ⟨cO 0 _ h.h0,cO 1 _ h.h0,cO 2 _ h.h0,cO 3 _ h.h0⟩
theorem IV.rc{w wr:bw}{d:df}{ty:bE}{q:Rc}(h:IV w wr d ty q): wr.cell? ⟨w+1+1,0,bv⟩=bt (bo .i64 q.x0)/\wr.cell? ⟨w+1+1,1,bv⟩=bt (bo .i64 q.y0)/\wr.cell? ⟨w+1+1,2,bv⟩=bt (bo .i64 q.x1)/\wr.cell? ⟨w+1+1,3,bv⟩=bt (bo .i64 q.y1):=
 ⟨cO 0 _ h.h2,cO 1 _ h.h2,cO 2 _ h.h2,cO 3 _ h.h2⟩
theorem IV.zc{w wr:bw}{d:df}{ty:bE}{q:Rc}(h:IV w wr d ty q): wr.cell? ⟨w+1,0,bv⟩=bt (bo .i64 0)/\wr.cell? ⟨w+1,1,bv⟩=bt (bo .i64 0)/\wr.cell? ⟨w+1,2,bv⟩=bt (bo .i64 0)/\wr.cell? ⟨w+1,3,bv⟩=bt (bo .i64 0):=
 ⟨cO 0 _ h.h1,cO 1 _ h.h1,cO 2 _ h.h1,cO 3 _ h.h1⟩
theorem BP{u:bw}{c:Nat}{m:bI}(h:u.heap[c]?=bt (bl ⟨m.row⟩ 51 (0,0))): (Instr.loadAt 51 (bp (bt ⟨c,0,bv⟩))).run ca u=.ok (bq ⟨m.row⟩) u:=
 run_loadAt_mid u c 0 51 m.row _ (λj v e=>by rw [aA _ _ _ _ 51 (0,0) h,Nat.zero_add];simpa using e) underlying51 rfl (bL rX).2
theorem ve{u:bw}{c:Nat}{m:bI}(h:u.heap[c]?=bt (bl ⟨m.row⟩ 51 (0,0))): u.cell? ⟨c,17,bv⟩=bt (bo .i64 m.Xg.ag1)/\u.cell? ⟨c,18,bv⟩=bt (bo .i64 m.Xg.Xf)/\u.cell? ⟨c,19,bv⟩=bt (bm m.Xg.kA m.Xg.kn m.Xg.kc)/\u.cell? ⟨c,20,bv⟩=bt (bo .i64 m.Xg.div)/\u.cell? ⟨c,21,bv⟩=bt (bo .i64 m.Xg.value)/\u.cell? ⟨c,22,bv⟩=bt (bm m.Xg.cA m.Xg.cn m.Xg.cc):=
 ⟨cP 17 _ h,cP 18 _ h,cP 19 _ h,cP 20 _ h,cP 21 _ h,cP 22 _ h⟩
theorem yN{l m:bI}(h:l.Like m): m.spread=l.spread:=ud
theorem Rq{l m:bI}(h:l.Like m): m.ag3=l.ag3/\m.ag1=l.ag1:=ru
theorem BN{l m:bI}(h:l.Like m)(d:jC l.Xg l.ks l.cs=bP): jC m.Xg m.ks m.cs=bP:=by unfold bI.Like at h;rw [h];exact d
theorem yJ(d:df)(F:bI->Rc)(ks:List Int)(A:Option bM)(n cap:Nat)(cY:n<=50)(w:bw)(hk:dn w A n ks)(hd:d.At w)(af:∀l∈d.agY,l.Thin)
  (b7:∀x∈ks,∃l,dh d.agY x=bt l) (N:∀x∈ks,∀l,dh d.agY x=bt l->l.ag1=3->jC l.Xg l.ks l.cs=bP) (a7:∀l,(F l).Z)
  (hF:∀x∈ks,∀l,dh d.agY x=bt l->l.ag1≠3->∀m,l.Like m->∀u,bH [] w u->m.At u->bF ca 64 #[d.v,m.v] u λe w'=>e=bS (F l).v/\bH [] u w') :
  bF ca 125 #[d.v,bm A n cap] w λe w'=>e=bS (iW F d.agY ks Rc.zero).v/\bH [] w w':=by
 have hn:=hk.1;have aw:=lh λ(x:Int) (l:bI) (C:dh d.agY x=bt l) (u:bw) (t:bH [] w u)=>wM d x l C u [] (λb hb=>absurd hb aW) (λu' f ho=>(hd.u t).keepD λq J=>ho q J lz) af;obtain⟨ao,ar,aq,aD,HK,HN⟩:=lh6 b7 N a7 hF hk hn;clear hk hd af b7 N hF hn a7;obtain⟨W,I⟩:=eX (((w.alloc (bl #[bm d.sA d.sn d.sc,d.root,d.next,bm d.lA d.ln d.lc] 94)).alloc (bl #[(0:Int),(0:Int),(0:Int),(0:Int)] 59)).alloc (bl #[(0:Int),(0:Int),(0:Int),(0:Int)] 59));have T0:bH [] w W:=I▸(((tR w).a _).a _).a _;have x0:=dJ I;have x1:=Z5 I;have x2:=Zi I;have br:Hid (IV w W d 94 Rc.zero):=lh ⟨T0,x0,x1,x2⟩;have am:=lh gI;have bs:=lh gX;clear T0 x0 x1 x2;unfold df.v at *;go_enter func125,ntmps125;go_upto_region 2 with (fail)
 rw [<-I];clear I;try simp only [aI]
 go_wp2_with fail
 go_loopw [11] (λs11 wr=>∃k:Nat,k<=n/\s11=k/\IV w wr d 94 (iW F d.agY (ks.take k) Rc.zero)) (λs11 _=>n-(bX s11).toNat);case atStart=>exact⟨0,gn,rfl,br.o⟩
 obtain⟨k,aE,rfl,U⟩:=hrel;by_cases ay:k<n
 .obtain⟨g,o,rfl,hc⟩:=(HK.o.u U.t).2 k ay;have Q:k<ks.length:=by have:=HN.o;omega
  have R:ks.getD k 0∈ks:=by simp only [List.getD,aB Q,Option.getD_some];exact List.getElem_mem Q
  obtain⟨l,C⟩:=ao.o _ R;have ad:iW F d.agY (ks.take (k+1)) Rc.zero=jP F l (iW F d.agY (ks.take k) Rc.zero):=by rw [GI Q];exact sZ F d.agY _ _ l _ C
  have hZ:(iW F d.agY (ks.take k) Rc.zero).Z:=oD _ _ (λ_ _ m _=>aq.o m) qB;have aa:=aw.o _ l C;have a9:=aD.o _ R l C;have N:=ar.o _ R l C;obtain⟨a5,ap,av,a1,HZ,p⟩:=lh6 aa a9 N ad hZ U;have b0:(0:Int)<=(k:Int):=gn
  have b1:(k:Int)<(n:Int):=gn
  have b2:(k:Int)<=50:=gn
  obtain⟨d0,d1,d2,d3⟩:=U.dc;clear aa a9 N R Q C ad hZ U;generalize ks.getD k 0=x,J:iW F d.agY (ks.take k) Rc.zero=q at *;clear J;go_upto_region 7 with (first
   |(go_at_call 124;refine (a5.o _ p.o.t).mono ?_;rintro e L ⟨⟨m,hm,ac,rfl⟩,t5⟩)
   |(refine bQ rfl (di (t:=51) rfl (am.o _)) ?_;try go_frame)
   |(refine sR (bs.o _ _) ?_))
  have TV:=t5.alloc (bl ⟨m.row⟩ 51);have P:=bB L (bl ⟨m.row⟩ 51);have U:=p.o.u TV;have a6:m.At (L.alloc (bl ⟨m.row⟩ 51)):=(ac.u ((tR L).a _)).now;clear d0 d1 d2 d3 t5 TV ac a5 p hc b0 b1;generalize L.alloc (bl ⟨m.row⟩ 51)=V,L.heap.size=b8 at *;clear L;have T:=cP 1 m.ag1 P;have O:=cP 3 (.bool m.ag3) P;obtain⟨f1,f2⟩:=Rq hm;rw [f1]at O;rw [f2]at T;obtain⟨p,HM,a0,H8⟩:=lh4 U hm a6 P;clear U hm a6 P f1 f2;cases z:l.ag3 with
  |true=>
   rw [z]at O;have f:=a1.o;unfold jP at f;rw [aG z]at f;have M:=lh f;clear f z;go_wp2;go_roundw;case rel=>exact⟨k+1,gn,by go_num,by rw [M.o];exact p.o⟩
   simp [bX];omega
  |false=>
   rw [z]at O;by_cases b5:l.ag1=3
   .have f:=a1.o;unfold jP at f;rw [aF (by rw [z];simp),aG b5]at f;rw [b5]at T;have a8:=HM.o;have S:=λu (t:bH [] V u)=>yH m.Xg m.ks m.cs (BN a8 (av.o b5)) q HZ.o.bd u ((a0.o.u t).ks) ((a0.o.u t).cs);have ab:m.Xg.area (jC m.Xg m.ks m.cs) q 1=l.spread q:=congrFun (yN a8) q;rw [ab]at S;have B:=xG q (l.spread q);have a4:=pz (q.join (l.spread q));generalize l.spread q=sp at *;generalize q.join sp=jn at *;generalize jn.can=cc at *;unfold Fv.v Rc.v at S;unfold Rc.v at B a4;obtain⟨ax,HJ,HC,M⟩:=lh4 S B a4 f;clear S B a4 ab f z b5 a8;(go_upto_region 9 with fail);clear T O;refine sN 7 (tR V) λY c=>?_;refine fE 0 (bq #[q.x0,q.y0,q.x1,q.y1]) ?_ (j:=by intro w' s;obtain⟨D,E,G,H⟩:=(p.o.u s).rc;go_simp);refine fK 1 ?_;refine fE 2 (bq #[m.Xg.ag1,m.Xg.Xf,bm m.Xg.kA m.Xg.kn m.Xg.kc,m.Xg.div,m.Xg.value,bm m.Xg.cA m.Xg.cn m.Xg.cc]) ?_ (j:=by intro w' s;obtain⟨g0,g1,g2,g3,g4,g5⟩:=ve (s.ox H8.o);go_simp);refine fE 3 (bq #[q.x0,q.y0,q.x1,q.y1]) ?_ (j:=by intro w' s;obtain⟨D,E,G,H⟩:=(p.o.u s).rc;go_simp);refine eH 4 λK h=>?_;go_simp;refine mR (ax.o _ c) λy j=>?_;replace c:=c.t j;refine gK h c ?_;clear h K j Y;obtain⟨Y,rfl⟩:=eX y;refine eH 5 λK h=>?_;go_simp;refine mR (HJ.o _) λy j=>?_;replace c:=c.t j;refine gK h c ?_;clear h K j Y;obtain⟨Y,rfl⟩:=eX y;refine eH 6 λK h=>?_;go_simp;refine mR (HC.o _) λy j=>?_;replace c:=c.t j;refine gK h c ?_;clear h K j Y;obtain⟨Y,rfl⟩:=eX y;have X:=p.o.u c;obtain⟨D,E,G,H⟩:=X.rc;have rf:=λi=>dm X.h2 i;have a2:=lh X;clear X;refine Yo ?_;clear D E G H rf c;go_wp2;go_roundw;case rel=>exact⟨k+1,by omega,by go_num,by rw [M.o];exact a2.o.set⟩
    simp [bX];omega
   have f:=a1.o;unfold jP at f;rw [aF (by rw [z];simp),aF b5]at f;have a3:=λu (t:bH [] V u)=>ap.o b5 m HM.o u (p.o.t.t t) (a0.o.u t);have B:=xG q (F l);generalize F l=fl at *;generalize q.join fl=jn at *;unfold bI.v Rc.v at a3;unfold Rc.v at B;obtain⟨an,HJ,M⟩:=lh3 a3 B f;clear a3 B f z;(go_upto_region 6 with fail);clear T O b5;refine sN 5 (tR V) λY c=>?_;refine fE 0 (bq #[q.x0,q.y0,q.x1,q.y1]) ?_ (j:=by intro w' s;obtain⟨D,E,G,H⟩:=(p.o.u s).rc;go_simp);refine fE 1 (bq #[bm d.sA d.sn d.sc,d.root,d.next,bm d.lA d.ln d.lc]) ?_ (j:=by intro w' s;obtain⟨d0,d1,d2,d3⟩:=(p.o.u s).dc;go_simp);refine Xz 2 (bq ⟨m.row⟩) (λw' s=>BP (s.ox H8.o)) ?_;refine eH 3 λK h=>?_;go_simp;refine mR (an.o _ c) λy j=>?_;replace c:=c.t j;refine gK h c ?_;clear h K j Y;obtain⟨Y,rfl⟩:=eX y;refine eH 4 λK h=>?_;go_simp;refine mR (HJ.o _) λy j=>?_;replace c:=c.t j;refine gK h c ?_;clear h K j Y;obtain⟨Y,rfl⟩:=eX y;have X:=p.o.u c;obtain⟨D,E,G,H⟩:=X.rc;have rf:=λi=>dm X.h2 i;have a2:=lh X;clear X;refine Yo ?_;clear D E G H rf c;go_wp2;go_roundw;case rel=>exact⟨k+1,by omega,by go_num,by rw [M.o];exact a2.o.set⟩
   simp [bX];omega
 obtain rfl:k=n:=gn
 rw [aY nk]at U;generalize J:iW F d.agY ks Rc.zero=q at *;have HQ:=lh J;obtain⟨D,E,G,H⟩:=U.rc;obtain⟨z0,z1,z2,z3⟩:=U.zc;have zf:=λi=>dm U.h1 i;have HT:=lh U.t;clear U J;go_wp2_with fail
 exact ag (v:=q.v) (by simp [results,results125,go_sem,z0,z1,z2,z3];rfl) rfl ⟨by rw [HQ.o],(((HT.o.sc).sc).sc).sc⟩
theorem Hq(d:df)(F:bI->Rc)(ks:List Int)(A:Option bM)(O n cap:Nat)(cY:O<=50)(b9:n<=O)(w:bw)(hk:dn w A O ks)(hd:d.At w)
  (b7:∀x∈ks,∃l,dh d.agY x=bt l) (Q:∀x∈ks,∀l,dh d.agY x=bt l->l.ag1=3->jC l.Xg l.ks l.cs=bP) (ad:∀l,(F l).Z)
  (hF:∀x∈ks,∀l,dh d.agY x=bt l->l.ag1≠3->∀u,bH [] w u->bF ca 92 #[d.v,l.v] u λe w'=>e=bS (F l).v/\bH [] u w') :
  bF ca 153 #[d.v,bm A O cap,n] w λe w'=>e=bS (iW F d.agY (ks.take n) Rc.zero).v/\bH [] w w':=by
 have hn:=hk.1;have aM:=lh λ(x:Int) (l:bI) (y:dh d.agY x=bt l) (u:bw) (t:bH [] w u)=>zq d x l y u (hd.u t);have aL:=lh λ(x:Int) (l:bI) (y:dh d.agY x=bt l)=>(show l.At w by obtain⟨k,_,h2,_⟩:=iD y;exact (hd.agY.2 k l h2).1);obtain⟨ar,aE,ay,aD,HK,HN⟩:=lh6 b7 Q ad hF hk hn;clear hk hd b7 Q hF hn ad;obtain⟨W,N⟩:=eX (((w.alloc (bl #[bm d.sA d.sn d.sc,d.root,d.next,bm d.lA d.ln d.lc] 29)).alloc (bl #[(0:Int),(0:Int),(0:Int),(0:Int)] 59)).alloc (bl #[(0:Int),(0:Int),(0:Int),(0:Int)] 59));have T0:bH [] w W:=N▸(((tR w).a _).a _).a _;have x0:=dJ N;have x1:=Z5 N;have x2:=Zi N;have br:Hid (IV w W d 29 Rc.zero):=lh ⟨T0,x0,x1,x2⟩;clear T0 x0 x1 x2;unfold df.v at *;go_enter func153,ntmps153;go_upto_region 2 with (fail)
 rw [<-N];clear N;try simp only [aI]
 go_wp2_with fail
 go_loopw [8] (λs8 wr=>∃k:Nat,k<=n/\s8=k/\IV w wr d 29 (iW F d.agY (ks.take k) Rc.zero)) (λs8 _=>n-(bX s8).toNat);case atStart=>exact⟨0,gn,rfl,br.o⟩
 obtain⟨k,b4,rfl,U⟩:=hrel;by_cases b6:k<n
 .obtain⟨g,o,rfl,_⟩:=(HK.o.u U.t).2 k gn;have S:k<ks.length:=by have:=HN.o;omega
  have T:ks.getD k 0∈ks:=by simp only [List.getD,aB S,Option.getD_some];exact List.getElem_mem S
  obtain⟨l,y⟩:=ar.o _ T;have ap:iW F d.agY (ks.take (k+1)) Rc.zero=jP F l (iW F d.agY (ks.take k) Rc.zero):=by rw [GI S];exact sZ F d.agY _ _ l _ y
  have hZ:(iW F d.agY (ks.take k) Rc.zero).Z:=oD _ _ (λ_ _ m _=>ay.o m) qB;have ao:=aM.o _ l y;have am:=aD.o _ T l y;have Q:=aE.o _ T l y;have ax:=λu (t:bH [] w u)=>(show u.cell? ⟨g,o+k,bv⟩=bt (bo .i64 (ks.getD k 0)) by obtain⟨g',o',e',B⟩:=(HK.o.u t).2 k gn;cases e';exact B);obtain⟨ac,a3,av,b3,a1,HZ,f,ab⟩:=lh8 ax ao am Q ap hZ U (aL.o _ l y);have b0:(0:Int)<=(k:Int):=gn
  have b1:(k:Int)<(O:Int):=gn
  have b2:(k:Int)<=50:=gn
  clear ao am Q T S y ap hZ U ax;generalize ks.getD k 0=x,hq:iW F d.agY (ks.take k) Rc.zero=q at *;clear hq;go_upto_region 5 with fail
  go_cut [9] (λs9 wx=>∃b8,s9=bp (bt ⟨b8,0,bv⟩)/\wx.heap[b8]?=bt (bl ⟨l.row⟩ 51 (0,0))/\bH [] wr wx);case first=>
   refine sN 7 (tR wr) λY b=>?_;refine fE 0 (bq #[bm d.sA d.sn d.sc,d.root,d.next,bm d.lA d.ln d.lc]) ?_ (j:=by intro w' j;obtain⟨d0,d1,d2,d3⟩:=(f.o.u j).dc;go_simp);refine fE 1 (bm (bt ⟨g,o,bv⟩) O cap) ?_;refine fE 2 k ?_;refine fK 3 ?_;refine Xy 4 x (λw' j=>ac.o _ (f.o.t.t j)) ?_;refine tj 5 6 (λK c=>?_) (λK c=>?_)
   .go_simp;refine mR (a3.o _ (f.o.t.t b)) λC aw=>?_;have M:=b.t aw;refine gK c M ?_;clear c K;refine eH 6 λK c=>?_;refine bZ (d:=bt 9) rfl (di rfl (gI C)) ?_;have B:=bB C (bl ⟨dF.row⟩ 51);have a8:wr.heap.size<=C.heap.size:=M.size;have af:=M.t ((tR C).alloc (bl ⟨dF.row⟩ 51));have an:C.heap.size<(C.alloc (bl ⟨dF.row⟩ 51)).heap.size:=lz;generalize C.alloc (bl ⟨dF.row⟩ 51)=Z,C.heap.size=L at *;refine gK c af ?_;clear c K;refine iZ λK c=>?_;have aa:=dQ (o:=0) (ty:=51) (p:=l.row) (L':=l.row) B (bL dS).2 lK (row_one _) lK;refine fO (d:=bv) rfl 51 (.tmp 9) (.tmp 20) rfl rfl rfl aa ?_;refine c _ _ ?_;clear c K;(try go_frame);have a5:=af.setRow (g:=L) ⟨l.row⟩ (.inr a8);have a7:=eQ (L':=l.row) B;go_wp2;go_meet;exact⟨L,rfl,a7,a5⟩
   refine bZ (d:=bt 9) rfl (di rfl (gI Y)) ?_;have B:=bB Y (bl ⟨dF.row⟩ 51);have a8:wr.heap.size<=Y.heap.size:=b.size;have a4:=b.t ((tR Y).alloc (bl ⟨dF.row⟩ 51));have an:Y.heap.size<(Y.alloc (bl ⟨dF.row⟩ 51)).heap.size:=lz;generalize Y.alloc (bl ⟨dF.row⟩ 51)=Z,Y.heap.size=L at *;refine gK c a4 ?_;clear c K;refine eH 5 λK c=>?_;go_simp;refine mR (a3.o _ (f.o.t.t a4)) λC aw=>?_;have M:=a4.t aw;refine gK c M ?_;clear c K;have B:=(aw.old L an lz).t B;refine iZ λK c=>?_;have aa:=dQ (o:=0) (ty:=51) (p:=l.row) (L':=l.row) B (bL dS).2 lK (row_one _) lK;refine fO (d:=bv) rfl 51 (.tmp 9) (.tmp 20) rfl rfl rfl aa ?_;refine c _ _ ?_;clear c K;(try go_frame);have a5:=M.setRow (g:=L) ⟨l.row⟩ (.inr a8);have a7:=eQ (L':=l.row) B;go_wp2;go_meet;exact⟨L,rfl,a7,a5⟩
  obtain⟨b8,rfl,R,h⟩:=hcut;have U:=f.o.u h;clear h a3 f ac b0 b1;generalize wc=V at *;have y1:=cP 1 l.ag1 R;have y3:=cP 3 (.bool l.ag3) R;have f:=lh U;have H8:=lh R;clear U R;cases D:l.ag3 with
  |true=>
   rw [D]at y3;have s:=a1.o;unfold jP at s;rw [aG D]at s;have P:=lh s;clear s D;go_wp2;go_roundw;case rel=>exact⟨k+1,gn,by go_num,by rw [P.o];exact f.o⟩
   simp [bX];omega
  |false=>
   rw [D]at y3;by_cases b5:l.ag1=3
   .have s:=a1.o;unfold jP at s;rw [aF (by rw [D];simp),aG b5]at s;rw [b5]at y1;have a0:=λu (t:bH [] V u)=>zJ l.Xg l.ks l.cs q HZ.o.bd u ((ab.o.u (f.o.t.t t)).ks) ((ab.o.u (f.o.t.t t)).cs);rw [show l.Xg.area (jC l.Xg l.ks l.cs) q 1=l.spread q from rfl]at a0;have E:=BX q (l.spread q);have a9:=uY (q.join (l.spread q));generalize l.spread q=sp at *;generalize q.join sp=jn at *;generalize jn.can=cc at *;unfold Fv.v Rc.v at a0;unfold Rc.v at E a9;obtain⟨aR,HJ,HC,P⟩:=lh4 a0 E a9 s;clear a0 E a9 s D b5;(go_upto_region 8 with fail);clear y1 y3;refine sN 7 (tR V) λY b=>?_;refine fE 0 (bq #[q.x0,q.y0,q.x1,q.y1]) ?_ (j:=by intro w' j;obtain⟨G,H,I,J⟩:=(f.o.u j).rc;go_simp);refine fK 1 ?_;refine fE 2 (bq #[l.Xg.ag1,l.Xg.Xf,bm l.Xg.kA l.Xg.kn l.Xg.kc,l.Xg.div,l.Xg.value,bm l.Xg.cA l.Xg.cn l.Xg.cc]) ?_ (j:=by intro w' j;obtain⟨g0,g1,g2,g3,g4,g5⟩:=ve (j.ox H8.o);go_simp);refine fE 3 (bq #[q.x0,q.y0,q.x1,q.y1]) ?_ (j:=by intro w' j;obtain⟨G,H,I,J⟩:=(f.o.u j).rc;go_simp);refine eH 4 λK c=>?_;go_simp;refine mR (aR.o _ b) λz h=>?_;replace b:=b.t h;refine gK c b ?_;clear c K;clear h Y;obtain⟨Y,rfl⟩:=eX z;refine eH 5 λK c=>?_;go_simp;refine mR (HJ.o _) λz h=>?_;replace b:=b.t h;refine gK c b ?_;clear c K;clear h Y;obtain⟨Y,rfl⟩:=eX z;refine eH 6 λK c=>?_;go_simp;refine mR (HC.o _) λz h=>?_;replace b:=b.t h;refine gK c b ?_;clear c K;clear h Y;obtain⟨Y,rfl⟩:=eX z;have X:=f.o.u b;obtain⟨G,H,I,J⟩:=X.rc;have rf:=λi=>dm X.h2 i;have a2:=lh X;clear X;refine Yo ?_;clear G H I J rf b;go_wp2;go_roundw;case rel=>exact⟨k+1,by omega,by go_num,by rw [P.o];exact a2.o.set⟩
    simp [bX];omega
   have s:=a1.o;unfold jP at s;rw [aF (by rw [D];simp),aF b5]at s;have a6:=λu (t:bH [] V u)=>av.o b5 u (f.o.t.t t);have E:=BX q (F l);generalize F l=fl at *;generalize q.join fl=jn at *;unfold bI.v Rc.v at a6;unfold Rc.v at E;obtain⟨aq,HJ,P⟩:=lh3 a6 E s;clear a6 E s D;(go_upto_region 9 with fail);clear y1 y3 b5;refine sN 5 (tR V) λY b=>?_;refine fE 0 (bq #[q.x0,q.y0,q.x1,q.y1]) ?_ (j:=by intro w' j;obtain⟨G,H,I,J⟩:=(f.o.u j).rc;go_simp);refine fE 1 (bq #[bm d.sA d.sn d.sc,d.root,d.next,bm d.lA d.ln d.lc]) ?_ (j:=by intro w' j;obtain⟨d0,d1,d2,d3⟩:=(f.o.u j).dc;go_simp);refine Xz 2 (bq ⟨l.row⟩) (λw' j=>BP (j.ox H8.o)) ?_;refine eH 3 λK c=>?_;go_simp;refine mR (aq.o _ b) λz h=>?_;replace b:=b.t h;refine gK c b ?_;clear c K;clear h Y;obtain⟨Y,rfl⟩:=eX z;refine eH 4 λK c=>?_;go_simp;refine mR (HJ.o _) λz h=>?_;replace b:=b.t h;refine gK c b ?_;clear c K;clear h Y;obtain⟨Y,rfl⟩:=eX z;have X:=f.o.u b;obtain⟨G,H,I,J⟩:=X.rc;have rf:=λi=>dm X.h2 i;have a2:=lh X;clear X;refine Yo ?_;clear G H I J rf b;go_wp2;go_roundw;case rel=>exact⟨k+1,by omega,by go_num,by rw [P.o];exact a2.o.set⟩
   simp [bX];omega
 obtain rfl:k=n:=gn
 generalize hq:iW F d.agY (ks.take k) Rc.zero=q at *;have HQ:=lh hq;obtain⟨G,H,I,J⟩:=U.rc;obtain⟨z0,z1,z2,z3⟩:=U.zc;have zf:=λi=>dm U.h1 i;have HT:=lh U.t;clear U hq;go_wp2_with fail
 exact ag (v:=q.v) (by simp [results,results153,go_sem,z0,z1,z2,z3];rfl) rfl ⟨by rw [HQ.o],(((HT.o.sc).sc).sc).sc⟩
