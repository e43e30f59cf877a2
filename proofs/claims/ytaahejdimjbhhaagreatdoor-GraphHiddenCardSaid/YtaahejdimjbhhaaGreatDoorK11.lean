import Derived.Test.YtaahejdimjbhhaaGreatDoorK10
set_option maxRecDepth 100000
set_option maxHeartbeats 0
set_option linter.all false
namespace Go.Proofs.YtaahejdimjbhhaaGreatDoor
open Tryz Go.RowKit Go.Den
open Option renaming none->bt,some->bv
open Go.Value renaming slice->bw,int->bx,agg->bz,bool->bA,pointer->bB
open Go.Obj renaming cells->bE
open Go renaming World->bF,Value->bL,zero_of_info->bM,Addr->bP,execOp->bR,all_oneCell_toArray->bS,TypeId->bT,run_storeAt_new->bX,wpList_load_mid->ca,heap_alloc_new->cb,Calls->cd,Operand->ce
open Bool renaming false->cf,true->cg
open Go.RowKit renaming wrap64->ch,intOf->ci
inductive UI(w:bF)(base:Nat): Ending->Prop where
 |mk (f:Fv) (ks cs:List Int) (hk:Il w base (bw f.kA f.kn f.kc) ks) (hc:Il w base (bw f.cA f.cn f.cc) cs):UI w base (.returned f.v)
theorem jd(w:bF): dn w bt 0 []:=⟨rfl,λj k=>absurd k (aU j)⟩
theorem jH(w:bF)(base:Nat): Il w base (bw bt 0 0) []:=⟨lz,.inl ⟨rfl,rfl⟩⟩
theorem Tj{a:List Int}{i:Nat}{c z:Int}(h:z∈a.set i c): z∈a\/z=c:=List.mem_or_eq_of_mem_set h
structure SA(w wr:bF)(b5 b7:Nat)(zs:List Int)(rr dv:Int)(v:bL)(xs:List Int): Prop where
 t:bH [] w wr
 h0:wr.heap[w.heap.size]?=bv (bE #[(0:Int),(0:Int),bw bt 0 0,(0:Int),(0:Int),bw bt 0 0] 43 (0,0))
 h1:wr.heap[w.heap.size+1]?=bv (bE ⟨zs.map (Value.int .i64)⟩ 188 (0,0))
 h5:wr.heap[b5]?=bv (bE ⟨[(1:Int),rr,v,dv,(0:Int),bw bt 0 0]⟩ 43 (0,0))
 lt:w.heap.size+1<b5/\b5<b7/\b7<=wr.heap.size
 il:Il wr b7 v xs
theorem SA.step{w wr u:bF}{z B:Nat}{j:List Int}{i f:Int}{v d:bL}{xs m:List Int}{c:List Nat}(P:SA w wr z B j i f v xs)(T:bH c wr u)(g:∀q∈c,B<=q)(Z:Il u B d m): SA w (u.setCell ⟨z,2,bt⟩ d) z B j i f d m:=by obtain⟨I,h,k⟩:=P.lt;have n:=T.size;have b:∀q,q<B->u.heap[q]?=wr.heap[q]?:=λq a=>T.old q gn (λe=>by have:=g q e;omega);refine⟨(fH P.t T (λq a=>by have:=g q a;omega)).sc,(dG _ _ _ _ _ gn).t ((b _ gn).t P.h0),(dG _ _ _ _ _ gn).t ((b _ gn).t P.h1),dU ((b _ h).t P.h5) rfl,⟨I,h,by rw [World.size_setCell];omega⟩,?_⟩;exact Z.kept ((bH.refl [z] u).setCell _ (.inl lz)) (λq a e=>by have:=(Z.lt q a).1;simp at e;omega)
theorem SA.drawn{w wr u:bF}{z B:Nat}{b:List Int}{i f:Int}{v:bL}{xs:List Int}(P:SA w wr z B b i f v xs)(T:bH [] wr u): SA w u z B b i f v xs:=by obtain⟨I,h,k⟩:=P.lt;have n:=T.size;have a:∀q,q<B->u.heap[q]?=wr.heap[q]?:=λq c=>T.old q gn lz;exact⟨P.t.t T,(a _ gn).t P.h0,(a _ gn).t P.h1,(a _ h).t P.h5,⟨I,h,by omega⟩,P.il.u T⟩
theorem KD:(prog.info? 188).map (λi=>(i.zero,i.size))=bv (bv (bz ⟨List.replicate 60 (0:Int)⟩),60):=lB
theorem Nj: AL 188 ⟨List.replicate 60 (0:Int)⟩:=λu=>by unfold Instr.alloc;rw [Sem.run_bind,(bM KD).1];rfl
theorem Ot(u:bF): (Instr.build 188 #[]).run prog u=.ok (bz ⟨List.replicate 60 (0:Int)⟩) u:=lB
theorem NK(u:bF): (Instr.storeAt 188 (bB (bv ⟨u,0,bt⟩)) (bz ⟨List.replicate 60 (0:Int)⟩)).run prog (u.alloc (bE ⟨List.replicate 60 (0:Int)⟩ 188))=.ok () (u.alloc (bE ⟨List.replicate 60 (0:Int)⟩ 188)):=
 bX u 188 _ ⟨List.replicate 60 (0:Int)⟩ (bM KD).2 rfl (bS (cs:=List.replicate 60 (0:Int)) λv e=>by rw [List.eq_of_mem_replicate e];rfl)
theorem EP(ss:List Int)(g o:Nat)(w:bF)(h:dn w (bv ⟨g,o,bt⟩) 12 ss):
  cd prog 54 #[bw (bv ⟨g,o,bt⟩) 12 12] w λe w'=>UI w' w.heap.size e/\bH [] w w':=by
 obtain⟨g',o',an,hR⟩:=h.cell lG;injection an with an;injection an with e1 e2 _;subst e1;subst e2;have HC:=lh hR;have HA:=lh h;obtain⟨W,hW⟩:=eX ((w.alloc (bE #[(0:Int),(0:Int),bw bt 0 0,(0:Int),(0:Int),bw bt 0 0] 43)).alloc (bE ⟨List.replicate 60 (0:Int)⟩ 188));have T0:bH [] w W:=hW▸(((tR w).a _).a _);have aq:=fU hW;have ar:W.heap[w.heap.size+1]?=bv (bE ⟨(List.replicate 60 (0:Int)).map (Value.int .i64)⟩ 188 (0,0)):=by rw [hW];simp only [yV,aI];rw [aG lL];rw [List.map_replicate]
 have b8:w.heap.size+2<=W.heap.size:=od
 clear hR h;go_enter func54,ntmps54;go_upto_region 2 with (first
  |(refine bQ rfl (iU (vs:=#[]) rfl rfl (Ot _)) ?_;try go_frame)
  |(refine bQ rfl (di (t:=188) rfl (Nj _)) ?_;try go_frame)
  |(refine sR (NK _) ?_))
 rw [<-hW];clear hW;go_wp2_with fail
 go_loopw [4] (λs4 wr=>∃(k:Nat) (A:List Int),k<=12/\s4=k/\A.length=60/\(∀z∈A,0<=z/\z<=65535)/\wr.heap[w.heap.size]?=bv (bE #[(0:Int),(0:Int),bw bt 0 0,(0:Int),(0:Int),bw bt 0 0] 43 (0,0))/\wr.heap[w.heap.size+1]?=bv (bE ⟨A.map (Value.int .i64)⟩ 188 (0,0))/\bH [] w wr) (λs4 _=>12-(ci s4).toNat);case atStart=>exact⟨0,_,gn,rfl,List.length_replicate,λz J=>by rw [List.eq_of_mem_replicate J];omega,aq,ar,T0⟩
 clear aq ar T0 b8;obtain⟨k,A,hk,rfl,a3,a8,B,D,T⟩:=hrel;by_cases ac:k<12
 .have bj:=HC.o _ T k ac;obtain⟨c,ec⟩:∃c,bits BinOp.and IntKind.i64 (ss.getD k 0) 65535=c:=⟨_,rfl⟩;have G:=dM (ss.getD k 0) 65535 gn;rw [show ((65535:Nat):Int)=65535 from rfl,ec]at G;generalize ss.getD k 0=s at *;have b0:(0:Int)<=(k:Int):=by omega
  have b1:k<12:=ac;have b2:k<60:=gn
  have y:=bJ (i:=k) D (v:=bx .i64 (A.getD k 0)) (by simp [List.getD,a3,b2]);have yf:=dD D k;obtain⟨a2,a6,HT,HZ⟩:=lh4 B D T (bg a3 (bg a8 G));clear B D T a3 a8 G;go_wp2;go_roundw;case rel=>exact⟨k+1,A.set k c,gn,by go_num,by rw [List.length_set];exact HZ.o.1,λz J=>by rcases Tj J with J|rfl;exact HZ.o.2.1 z J;exact HZ.o.2.2,(dG _ _ _ _ _ gn).t a2.o,dU a6.o (by rw [List.map_set]),HT.o.sc⟩
  simp [ci];omega
 obtain rfl:k=12:=gn
 have J:=λi (hi:i<60)=>a8 (A.getD i 0) (by rw [show A.getD i 0=A[i]'(by omega) by simp [List.getD,a3,hi]];exact List.getElem_mem _);have aE:=J 0 lG;have be:=J 1 lG;have bq:=J 2 lG;have a7:=λi (hi:i<60)=>bJ (i:=i) D (v:=bx .i64 (A.getD i 0)) (by simp [List.getD,a3,hi]);have l0:=a7 0 lG;have l1:=a7 1 lG;have l2:=a7 2 lG;obtain⟨e,ee⟩:∃e,(A.getD 0 0).tmod 8=e:=⟨_,rfl⟩;have he:0<=e/\e<=7:=by rw [Int.tmod_eq_emod_of_nonneg aE.1]at ee;omega
 have we:ch (1+e)=1+e:=fC _ gn gn;obtain⟨a9,a2,a6,HT⟩:=lh4 (bg J a3) B D T;clear a8 J a7 B D T aE a3;generalize A.getD 0 0=z0,a4:A.getD 1 0=z1,a5:A.getD 2 0=z2 at *;have aR:=lh a4;have b3:=lh a5;clear a4 a5;go_upto_region 7 with (fail)
 generalize bd:1+e=C at *;have bl:1<=C/\C<=8:=gn
 clear we ee he bd l0;have a4:=aR.o;have a5:=b3.o;obtain⟨V,hV⟩:=eX (wr.alloc (bE #[C,(0:Int),bw bt 0 0,(0:Int),(0:Int),bw bt 0 0] 43));have TV:bH [] wr V:=hV▸(tR wr).a _;have R:=YE hV
 have hb:w.heap.size+1<wr.heap.size:=(ae.1 a6.o).1;have ay:wr.heap.size<V.heap.size:=(ae.1 R).1;have B:=(TV.old w.heap.size gn lz).t a2.o;have D:=(TV.old (w.heap.size+1) gn lz).t a6.o;have T1:=HT.o.t TV;rw [<-hV];clear hV TV a2 a6 HT l1 l2;generalize wr.heap.size=f at *;have bo:¬f=w.heap.size:=gn
 have ba:w.heap.size<V.heap.size:=gn
 have bp:¬w.heap.size=f:=gn
 have av:=lh D;have l1:V.cell? ⟨w+1,1,bt⟩=bv (bx .i64 z1):=by rw [<-a4];exact bJ D tE
 have l2:V.cell? ⟨w+1,2,bt⟩=bv (bx .i64 z2):=by rw [<-a5];exact bJ D tE
 have pf:∀i,V.frozen? ⟨f,i,bt⟩=cf:=λi=>dD R i;have rf:∀i,V.frozen? ⟨w,i,bt⟩=cf:=λi=>by simp [World.frozen?,B]
 have p0:V.cell? ⟨f,0,bt⟩=bv (bx .i64 C):=bJ R rfl;have p1:V.cell? ⟨f,1,bt⟩=bv (bx .i64 0):=bJ R rfl;have p2:V.cell? ⟨f,2,bt⟩=bv (bw bt 0 0):=bJ R rfl;have p3:V.cell? ⟨f,3,bt⟩=bv (bx .i64 0):=bJ R rfl;have p4:V.cell? ⟨f,4,bt⟩=bv (bx .i64 0):=bJ R rfl;have p5:V.cell? ⟨f,5,bt⟩=bv (bw bt 0 0):=bJ R rfl;have I:V.cell? ⟨w,0,bt⟩=bv (bx .i64 0):=nO
 have L:V.cell? ⟨w,1,bt⟩=bv (bx .i64 0):=nO
 have M:V.cell? ⟨w,2,bt⟩=bv (bw bt 0 0):=nO
 have N:V.cell? ⟨w,3,bt⟩=bv (bx .i64 0):=nO
 have S:V.cell? ⟨w,4,bt⟩=bv (bx .i64 0):=nO
 have O:V.cell? ⟨w,5,bt⟩=bv (bw bt 0 0):=nO
 obtain⟨af,a2,E,bh⟩:=lh4 R B T1 (bg a4 a5);clear R B D T1 a4 a5;obtain rfl|bc|rfl|rfl|rfl|rfl:C=1\/(C=2\/C=3\/C=4)\/C=5\/C=6\/C=7\/C=8:=by omega
 .obtain⟨b,er⟩:∃b,z1.tmod 3=b:=⟨_,rfl⟩;have hr:0<=b/\b<=2:=by rw [Int.tmod_eq_emod_of_nonneg be.1]at er;omega
  obtain⟨Q,ed⟩:∃Q,z2.tmod 20=Q:=⟨_,rfl⟩;obtain⟨F,ev⟩:∃F,ch (1+Q)=F:=⟨_,rfl⟩;have q1:ch (2*b)=2*b:=fC _ gn gn;have q2:ch (2*b+1)=2*b+1:=fC _ gn gn;obtain⟨m,em⟩:∃m,ch ((2*b+1)*(2*b+1))=m:=⟨_,rfl⟩;have H:0<=m/\m<=25:=by obtain rfl|rfl|rfl:b=0\/b=1\/b=2:=gn;all_goals (rw [<-em];simp [ch])
  go_upto_region 11 with (fail)
  have P0:SA w ((V.setCell ⟨f,1,bt⟩ b).setCell ⟨f,3,bt⟩ F) f V.heap.size A b F (bw bt 0 0) []:=
   ⟨(E.o.sc).sc,(dG _ _ _ _ _ gn).t ((dG _ _ _ _ _ gn).t a2.o),(dG _ _ _ _ _ gn).t ((dG _ _ _ _ _ gn).t av.out),dU (dU af.o rfl) rfl,⟨gn,ay,by simp only [World.size_setCell];exact aQ _⟩,⟨by simp,.inl ⟨rfl,rfl⟩⟩⟩
  have HQ:=lh (bg q1 (bg q2 em));clear q1 q2 em er ed ev a2 af av E l1 l2 pf rf p0 p1 p2 p3 p4 p5 I L M N S O ay ba;generalize (V.setCell ⟨f,1,bt⟩ b).setCell ⟨f,3,bt⟩ F=V6,V.heap.size=b7 at *;go_wp2_with fail
  go_loopw [6] (λs6 wr=>∃(j:Nat) (v:bL) (xs:List Int),(j:Int)<=m/\s6=j/\xs.length=j/\SA w wr f b7 A b F v xs) (λs6 _=>25-(ci s6).toNat);case atStart=>exact⟨0,_,[],gn,rfl,rfl,P0⟩
  clear P0;obtain⟨j,v,xs,hj,rfl,aD,P⟩:=hrel;obtain⟨X,n,l,rfl,_⟩:=P.il.ints;have p1:=cP 1 _ P.h5;have x:=lh P;have am:=lh aD;clear P aD;by_cases bb:(j:Int)<m
  .have br:(j:Int)<=24:=gn;have a0:(0:Int)<=3+(j:Int):=gn;have a1:3+(j:Int)<60:=gn;obtain⟨zz,ez⟩:∃zz,A.getD (3+j) 0=zz:=⟨_,rfl⟩;have aw:∀q∈dI (bw X n l),b7<=q:=λq hq=>(x.o.il.lt q hq).1;have HB:=lh aw;have D0:Hid (∀u,bH (dI (bw X n l)) wr u->u.cell? ⟨f,2,bt⟩=bv (bw X n l)):=lh λu T=>bJ ((T.old f (by have:=x.o.lt;omega) (λH=>by have:=HB.o _ H;have:=x.o.lt;omega)).t x.o.h5) rfl;have D1:Hid (∀u,bH (dI (bw X n l)) wr u->u.cell? ⟨w+1,3+j,bt⟩=bv (bx .i64 zz)):=lh λu T=>bJ ((T.old (w.heap.size+1) (by have:=x.o.lt;omega) (λH=>by have:=HB.o _ H;have:=x.o.lt;omega)).t x.o.h1) (by rw [<-ez];have:=a9.o.2;rw [aP,List.getD,aB gn];rfl);have w3:ch (3+(j:Int))=3+(j:Int):=fC _ gn gn;obtain⟨q1,q2,em⟩:=HQ.o;clear aw;(go_upto_region 14 with (fail));clear p1 q1 q2 em;obtain⟨y1,b4⟩:∃y,zz.tmod 9=y:=⟨_,rfl⟩;obtain⟨y2,ao⟩:∃y,ch (y1-2)=y:=⟨_,rfl⟩;have b6:=(ku _).t ao;have bf:=(ku _).t w3;refine cu.start (λu=>bH (dI (bw X n l)) wr u) 11 lB ?_;have hS:=(bH.refl (dI (bw X n l)) wr).drawn 1;have P1:SA w wr.drew f b7 A b F (bw X n l) xs:=x.o.drawn ((tR wr).drawn 1);change bH (dI (bw X n l)) wr wr.drew at hS;generalize wr.drew=Y at *;refine fK 0 ?_;refine Xy 1 (bw X n l) (λw' hw=>D0.out _ hw) ?_;refine fE 2 j ?_;refine fE 3 (bx .i64 (3+(j:Int))) ?_;refine fE 4 (bB (bv ⟨w+1,3+j,bt⟩)) ?_;refine Xy 5 zz (λw' hw=>D1.out _ hw) ?_;refine fE 6 y1 ?_;refine fE 7 y2 ?_;clear b4 ao b6 w3 bf;obtain⟨v2,u2,b9,ap,ab⟩:=IL (t:=22) underlying22 P1.il y2 P1.lt.2.2 (by have:=am.o;omega) 22;obtain⟨A8,n8,c8,rfl,_⟩:=ap.ints;have P2:=P1.step ab HB.o ap;have aa:=hS.t ab;have z5:u2.cell? ⟨f,2,bt⟩=bv (bw X n l):=D0.out _ aa;have bs:u2.frozen? ⟨f,2,bt⟩=cf:=dD ((ab.old f (by have:=P1.lt;omega) (λH=>by have:=HB.o _ H;have:=P1.lt;omega)).t P1.h5) 2;refine eH 8 λK Z=>?_;go_simp;refine Z _ _ (λ_=>hS.a _) ?_;clear Z K;(try go_frame);refine ty 9 rfl (dL (v:=bw X n l) (y:=bw (bv ⟨Y,0,bt⟩) 1 1) _ _ 22 rfl rfl rfl b9) λK Z=>?_;refine gK Z aa ?_;clear Z K;refine eH 10 λK Z=>?_;refine bZ (d:=bv 66) rfl (v:=bB (bv ⟨f,2,bt⟩)) (u:=u2) nJ ?_;refine gK Z aa ?_;clear Z K;refine Yo ?_;(go_wp2_with fail);refine⟨⟨_,_,_,_,_,_,_,_,_,_,_,_,_,_,_,_,_,_,_,_,_,_,_,_,_,⟨j+1,_,_,by omega,?_,by rw [aO,am.o];rfl,P2⟩,rfl⟩,?_⟩
   .go_num
   simp [ci];omega
  have bk:decide ((j:Int)<m)=cf:=ak bb;have U:=x.o.h0;have ac:=x.o.lt;have rf:∀i,wr.frozen? ⟨w,i,bt⟩=cf:=λi=>by simp [World.frozen?,U]
  have pf:∀i,wr.frozen? ⟨f,i,bt⟩=cf:=λi=>dD x.o.h5 i;have p0:=cP 0 _ x.o.h5;have p2:=cP 2 _ x.o.h5;have p3:=cP 3 _ x.o.h5;have p4:=cP 4 _ x.o.h5;have p5:=cP 5 _ x.o.h5;have I:wr.cell? ⟨w,0,bt⟩=bv (bx .i64 0):=nM
  have L:wr.cell? ⟨w,1,bt⟩=bv (bx .i64 0):=nM
  have M:wr.cell? ⟨w,2,bt⟩=bv (bw bt 0 0):=nM
  have N:wr.cell? ⟨w,3,bt⟩=bv (bx .i64 0):=nM
  have S:wr.cell? ⟨w,4,bt⟩=bv (bx .i64 0):=nM
  have O:wr.cell? ⟨w,5,bt⟩=bv (bw bt 0 0):=nM
  have bm:w.heap.size<b7:=gn
  clear U;obtain⟨q1,q2,em⟩:=HQ.o;go_wp2_with fail
  clear q1 q2 em;have TK:=((((((bH.refl [w.heap.size] wr).setCell (a:=⟨w,0,bt⟩) (1:Int) (.inl lz)).setCell (a:=⟨w,1,bt⟩) b (.inl lz)).setCell (a:=⟨w,2,bt⟩) (bw X n l) (.inl lz)).setCell (a:=⟨w,3,bt⟩) F (.inl lz)).setCell (a:=⟨w,4,bt⟩) (0:Int) (.inl lz)).setCell (a:=⟨w,5,bt⟩) (bw bt 0 0) (.inl lz);have hJ:=(x.o.il.kept TK (λq hq H=>by have:=(x.o.il.lt q hq).1;simp at H;omega)).base (by omega:w.heap.size<=_);have ax:=((((((x.o.t).setCell (a:=⟨w,0,bt⟩) (1:Int) (.inr lE)).setCell (a:=⟨w,1,bt⟩) b (.inr lE)).setCell (a:=⟨w,2,bt⟩) (bw X n l) (.inr lE)).setCell (a:=⟨w,3,bt⟩) F (.inr lE)).setCell (a:=⟨w,4,bt⟩) (0:Int) (.inr lE)).setCell (a:=⟨w,5,bt⟩) (bw bt 0 0) (.inr lE);exact ag (v:=bz #[(1:Int),b,bw X n l,F,(0:Int),bw bt 0 0]) ms rfl ⟨.mk ⟨1,b,X,n,l,F,0,bt,0,0⟩ xs [] hJ (jH _ _),ax⟩
 .obtain⟨b,er⟩:∃b,z1.tmod 4=b:=⟨_,rfl⟩;rcases bc with rfl|rfl|rfl
  ·(go_wp2_with fail);have ax:=(((((((E.o).setCell (a:=⟨f,1,bt⟩) b (.inr lE)).setCell (a:=⟨w,0,bt⟩) (2:Int) (.inr lE)).setCell (a:=⟨w,1,bt⟩) b (.inr lE)).setCell (a:=⟨w,2,bt⟩) (bw bt 0 0) (.inr lE)).setCell (a:=⟨w,3,bt⟩) (0:Int) (.inr lE)).setCell (a:=⟨w,4,bt⟩) (0:Int) (.inr lE)).setCell (a:=⟨w,5,bt⟩) (bw bt 0 0) (.inr lE);exact ag (v:=bz #[(2:Int),b,bw bt 0 0,(0:Int),(0:Int),bw bt 0 0]) ms rfl ⟨.mk ⟨2,b,bt,0,0,0,0,bt,0,0⟩ [] [] (jH _ _) (jH _ _),ax⟩
  ·(go_wp2_with fail);have ax:=(((((((E.o).setCell (a:=⟨f,1,bt⟩) b (.inr lE)).setCell (a:=⟨w,0,bt⟩) (3:Int) (.inr lE)).setCell (a:=⟨w,1,bt⟩) b (.inr lE)).setCell (a:=⟨w,2,bt⟩) (bw bt 0 0) (.inr lE)).setCell (a:=⟨w,3,bt⟩) (0:Int) (.inr lE)).setCell (a:=⟨w,4,bt⟩) (0:Int) (.inr lE)).setCell (a:=⟨w,5,bt⟩) (bw bt 0 0) (.inr lE);exact ag (v:=bz #[(3:Int),b,bw bt 0 0,(0:Int),(0:Int),bw bt 0 0]) ms rfl ⟨.mk ⟨3,b,bt,0,0,0,0,bt,0,0⟩ [] [] (jH _ _) (jH _ _),ax⟩
  go_wp2_with fail
  have ax:=(((((((E.o).setCell (a:=⟨f,1,bt⟩) b (.inr lE)).setCell (a:=⟨w,0,bt⟩) (4:Int) (.inr lE)).setCell (a:=⟨w,1,bt⟩) b (.inr lE)).setCell (a:=⟨w,2,bt⟩) (bw bt 0 0) (.inr lE)).setCell (a:=⟨w,3,bt⟩) (0:Int) (.inr lE)).setCell (a:=⟨w,4,bt⟩) (0:Int) (.inr lE)).setCell (a:=⟨w,5,bt⟩) (bw bt 0 0) (.inr lE);exact ag (v:=bz #[(4:Int),b,bw bt 0 0,(0:Int),(0:Int),bw bt 0 0]) ms rfl ⟨.mk ⟨4,b,bt,0,0,0,0,bt,0,0⟩ [] [] (jH _ _) (jH _ _),ax⟩
 .have hI:dn V (bv ⟨g,o+1,bt⟩) 11 (ss.drop 1):=by have hA:=(HA.o.u E.o);refine⟨by have:=hA.1;simp;omega,λj hj=>⟨g,o+1,rfl,?_⟩⟩;have:=HC.o _ E.o (1+j) gn;rw [Nat.add_assoc,this];simp [List.getD,Nat.add_comm]
  have aL:=lh (CG (ss.drop 1) (bv ⟨g,o+1,bt⟩) 11 11 lG V hI);clear hI;go_wp2_with (first
   |(refine iG rfl _ _ rfl (p:=1) (q:=12) rfl rfl ?_;rw [show (min (1:Int) 12)=1 from rfl];try go_frame)
   |(go_at_call 112;refine aL.o.mono ?_;rintro e w2 ⟨⟨v,c,rfl,hv⟩,ad⟩;obtain⟨X,n,l,rfl,_⟩:=hv.ints;have HV:=lh hv;have aM:=lh ad;obtain⟨G,hf⟩:=bY ad;have s0:=tq G I;have s1:=tq G L;have s2:=tq G M;have s3:=tq G N;have s4:=tq G S;have s5:=tq G O;have sf:=λi=>(hf w.heap.size i gn).t (rf i);clear hv ad))
  have TK:=(((((((bH.refl [f,w.heap.size] w2).setCell (a:=⟨f,5,bt⟩) (bw X n l) (.inl lz)).setCell (a:=⟨w,0,bt⟩) (5:Int) (.inl lz)).setCell (a:=⟨w,1,bt⟩) (0:Int) (.inl lz)).setCell (a:=⟨w,2,bt⟩) (bw bt 0 0) (.inl lz)).setCell (a:=⟨w,3,bt⟩) (0:Int) (.inl lz)).setCell (a:=⟨w,4,bt⟩) (0:Int) (.inl lz)).setCell (a:=⟨w,5,bt⟩) (bw X n l) (.inl lz);have hJ:=(HV.o.kept TK (λq hq H=>by have:=(HV.o.lt q hq).1;simp at H;omega)).base (by omega:w.heap.size<=_);have ax:=((((((((E.o.t aM.o)).setCell (a:=⟨f,5,bt⟩) (bw X n l) (.inr lE)).setCell (a:=⟨w,0,bt⟩) (5:Int) (.inr lE)).setCell (a:=⟨w,1,bt⟩) (0:Int) (.inr lE)).setCell (a:=⟨w,2,bt⟩) (bw bt 0 0) (.inr lE)).setCell (a:=⟨w,3,bt⟩) (0:Int) (.inr lE)).setCell (a:=⟨w,4,bt⟩) (0:Int) (.inr lE)).setCell (a:=⟨w,5,bt⟩) (bw X n l) (.inr lE);exact ag (v:=bz #[(5:Int),(0:Int),bw bt 0 0,(0:Int),(0:Int),bw X n l]) (by simp [results,results54,go_sem,s0,s1,s2,s3,s4,s5]) rfl ⟨.mk ⟨5,0,bt,0,0,0,0,X,n,l⟩ [] c (jH _ _) hJ,ax⟩
 .go_wp2_with fail
  have ax:=((((((E.o).setCell (a:=⟨w,0,bt⟩) (6:Int) (.inr lE)).setCell (a:=⟨w,1,bt⟩) (0:Int) (.inr lE)).setCell (a:=⟨w,2,bt⟩) (bw bt 0 0) (.inr lE)).setCell (a:=⟨w,3,bt⟩) (0:Int) (.inr lE)).setCell (a:=⟨w,4,bt⟩) (0:Int) (.inr lE)).setCell (a:=⟨w,5,bt⟩) (bw bt 0 0) (.inr lE);exact ag (v:=bz #[(6:Int),(0:Int),bw bt 0 0,(0:Int),(0:Int),bw bt 0 0]) ms rfl ⟨.mk ⟨6,0,bt,0,0,0,0,bt,0,0⟩ [] [] (jH _ _) (jH _ _),ax⟩
 .obtain⟨b,er⟩:∃b,z1.tmod 257=b:=⟨_,rfl⟩;go_wp2_with fail
  have ax:=(((((((E.o).setCell (a:=⟨f,4,bt⟩) b (.inr lE)).setCell (a:=⟨w,0,bt⟩) (7:Int) (.inr lE)).setCell (a:=⟨w,1,bt⟩) (0:Int) (.inr lE)).setCell (a:=⟨w,2,bt⟩) (bw bt 0 0) (.inr lE)).setCell (a:=⟨w,3,bt⟩) (0:Int) (.inr lE)).setCell (a:=⟨w,4,bt⟩) b (.inr lE)).setCell (a:=⟨w,5,bt⟩) (bw bt 0 0) (.inr lE);exact ag (v:=bz #[(7:Int),(0:Int),bw bt 0 0,(0:Int),b,bw bt 0 0]) ms rfl ⟨.mk ⟨7,0,bt,0,0,0,b,bt,0,0⟩ [] [] (jH _ _) (jH _ _),ax⟩
 obtain⟨ra,ea⟩:∃ra,z1.tmod 7=ra:=⟨_,rfl⟩;obtain⟨rb,eb⟩:∃rb,z2.tmod 7=rb:=⟨_,rfl⟩;obtain⟨rc,ec⟩:∃rc,ch (ra-3)=rc:=⟨_,rfl⟩;obtain⟨Q,ed⟩:∃Q,ch (rb-3)=Q:=⟨_,rfl⟩;go_wp2_with fail
 have ax:=((((((((E.o).setCell (a:=⟨f,1,bt⟩) rc (.inr lE)).setCell (a:=⟨f,4,bt⟩) Q (.inr lE)).setCell (a:=⟨w,0,bt⟩) (8:Int) (.inr lE)).setCell (a:=⟨w,1,bt⟩) rc (.inr lE)).setCell (a:=⟨w,2,bt⟩) (bw bt 0 0) (.inr lE)).setCell (a:=⟨w,3,bt⟩) (0:Int) (.inr lE)).setCell (a:=⟨w,4,bt⟩) Q (.inr lE)).setCell (a:=⟨w,5,bt⟩) (bw bt 0 0) (.inr lE);exact ag (v:=bz #[(8:Int),rc,bw bt 0 0,(0:Int),Q,bw bt 0 0]) ms rfl ⟨.mk ⟨8,rc,bt,0,0,0,Q,bt,0,0⟩ [] [] (jH _ _) (jH _ _),ax⟩
section
def Fr(A:Option bP)(base:Nat): Prop:=∀a,A=bv a->base<=a.block
theorem Fr.nil(base:Nat): Fr bt base:=λa h=>sY
theorem Fr.mono{A:Option bP}{base b:Nat}(h:Fr A base)(g:b<=base): Fr A b:=λa e=>aK g (h a e)
def Ho(w:bF)(c:Nat): Prop:=∃b t d,w.heap[c]?=bv (bE b t d)/\b.size<=200
theorem lJ{w w':bF}{c:Nat}(e:∀q,q≠c->w'.heap[q]?=w.heap[q]?){g:Nat}(d:g≠c)(i:Nat): w'.cell? ⟨g,i,bt⟩=w.cell? ⟨g,i,bt⟩:=by simp only [World.cell?,e g d]
theorem dn.off{w w':bF}{A:Option bP}{n:Nat}{xs:List Int}{c base:Nat}(h:dn w A n xs)(a:Fr A base)(i:c<base)(d:∀q,q≠c->w'.heap[q]?=w.heap[q]?): dn w' A n xs:=by refine⟨h.1,λj b=>?_⟩;obtain⟨g,o,e,f⟩:=h.2 j b;have:=a _ e;exact⟨g,o,e,by rw [lJ d (by dsimp only at this;omega)];exact f⟩
theorem iL.off{w w':bF}{A:Option bP}{n:Nat}{xs:List (Int×Int)}{c base:Nat}(h:iL w A n xs)(i:Fr A base)(p:c<base)(a:∀q,q≠c->w'.heap[q]?=w.heap[q]?): iL w' A n xs:=by
 refine⟨h.1,λj m=>?_⟩;obtain⟨g,o,e,f,b⟩:=h.2 j m;have:=i _ e;have d:g≠c:=by dsimp only at this;omega
 exact⟨g,o,e,by rw [lJ a d];exact f,by rw [lJ a d];exact b⟩
theorem dB.off{w w':bF}{A:Option bP}{n:Nat}{b:List dC}{c:Nat}(h:dB w A n b)(s:Ho w c)(p:∀q,q≠c->w'.heap[q]?=w.heap[q]?): dB w' A n b:=by
 refine⟨h.1,λj t u=>?_⟩;obtain⟨e,g,o,f,a⟩:=h.2 j t u;refine⟨e,g,o,f,?_⟩;have i:g≠c:=by
  rintro rfl;obtain⟨x,ty,y,d,z⟩:=s;have m:257<t.row.length:=by simp [dC.row,e.1]
  have:=a 257 _ (aB m);rw [aA _ _ _ _ _ _ d,Array.getElem?_eq_none gn]at this;cases this
 intro k uu v;rw [<-a k uu v];exact lJ p i _
structure bI.New(l:bI)(w:bF)(base:Nat): Prop where
 at_:l.At w
 fi:Fr l.Xi base
 fk:Fr l.Xg.kA base
 fc:Fr l.Xg.cA base
 fp:Fr l.pA base
theorem bI.New.off{l:bI}{w w':bF}{base c:Nat}(h:l.New w base)(b:c<base)(n:Ho w c)(e:∀q,q≠c->w'.heap[q]?=w.heap[q]?): l.New w' base:=
 ⟨⟨h.at_.ag0.off h.fi b e,h.at_.ks.off h.fk b e,h.at_.cs.off h.fc b e,h.at_.pts.off h.fp b e,h.at_.Xm.off n e,h.at_.mask.off n e,h.at_.Xk⟩,h.fi,h.fk,h.fc,h.fp⟩
theorem bI.New.u{l:bI}{w w':bF}{base:Nat}(h:l.New w base)(T:bH [] w w'): l.New w' base:=⟨h.at_.u T,h.fi,h.fk,h.fc,h.fp⟩
theorem bI.New.mono{l:bI}{w:bF}{base b:Nat}(h:l.New w base)(g:b<=base): l.New w b:=⟨h.at_,h.fi.mono g,h.fk.mono g,h.fc.mono g,h.fp.mono g⟩
theorem Ic{w:bF}{b i:Nat}{L L':List bL}{v:bL}{t:bT}{d:Nat×Nat}(h:w.heap[b]?=bv (bE ⟨L⟩ t d))(C:L.set i v=L'): w.setCell ⟨b,i,bt⟩ v=w.setRow b ⟨L'⟩:=by
 subst C;simp only [World.setCell,World.setRow];congr 1;apply Array.ext_getElem?;intro j;simp only [au];by_cases e:b=j
 .subst e;simp [h]
 simp [e]
theorem Vr:(prog.info? 123).map (λi=>(i.zero,i.size,i.bytes))=bv (bv (bz #[(0:Int),(0:Int)]),2,16):=lB
def kK:kD:=⟨123,2,16,bz #[(0:Int),(0:Int)],Vr,rfl,by decide,by decide,by decide⟩
def jZ(p:Int×Int): List bL:=[p.1,p.2]
theorem PE(p:Int×Int): kK.Row (jZ p):=⟨rfl,λuu o=>by
 simp only [jZ,aS,List.mem_nil_iff,or_false]at o;rcases o with rfl|rfl<;>rfl⟩
theorem zn{w:bF}{base:Nat}{A:Option bP}{n cap:Nat}{ps:List (Int×Int)}(h:iK kK w base (bw A n cap) (ps.map jZ)): iL w A n ps/\Fr A base:=by
 rcases h.form with ⟨e,i⟩|⟨g,o,s,e,m,_,_,C⟩
 .injection e with c z N;rw [c,z];have:ps=[]:=List.map_eq_nil_iff.1 i;rw [this];exact⟨⟨rfl,λj b=>absurd b (aU j)⟩,.nil _⟩
 injection e with c z N;rw [aJ]at z;rw [c,z];refine⟨⟨rfl,λj b=>⟨g,o,rfl,?_⟩⟩,λa d=>by injection d with d;rw [<-d];exact m⟩;have p:(ps.map jZ)[j]?=bv (jZ ps[j]):=by simp [b]
 have f:=C j _ p;have q:ps.getD j (0,0)=ps[j]:=by simp [List.getD,b]
 rw [q];rw [show kK.size=2 from rfl]at f;exact⟨by simpa using f 0 _ rfl,by simpa [Nat.add_assoc]using f 1 _ rfl⟩
def s8(s0 s1 s2 s3 s4 s5 s6 s7:Int): List bL:=[s0,s1,s2,s3,s4,s5,s6,s7]
def P3:List (Int×Int):=[(0,0),(0,0),(0,0)]
def bI.Bare0(l:bI): Prop:=(l.Xi=bt/\l.Xh=0/\l.ag0=[])/\(l.Xg.kA=bt/\l.Xg.kn=0/\l.ks=[])/\l.Xg.cA=bt/\l.Xg.cn=0/\l.cs=[]
def bI.Bare(l:bI): Prop:=l.Bare0/\l.pts=[]/\l.pA=bt/\l.pn=0/\l.pc=0
def dF : bI :=
  { id := 0, ag1 := 0, name := ⟨#[]⟩, ag3 := cf, Xl := 0, mode := 0, clip := cf,
    agZ := ⟨0, 0, 0, 0, 0, 0, 0⟩, space := 0, Xi := bt, Xh := 0, Xj := 0, ag0 := [], of := 0,
    Xg := ⟨0, 0, bt, 0, 0, 0, 0, bt, 0, 0⟩, ks := [], cs := [], f0 := 0, f1 := 0, f2 := 0, f3 := 0, pA := bt, pn := 0, pc := 0, pts := [],
    tA := bt, tn := 0, tc := 0, Xm := [], Xt := cf, mA := bt, mn := 0, mc := 0, mask := [] }
structure uJ(w wr:bF)(b3:Nat)(S:List bL)(k:Int)(l:bI): Prop where
 t:bH [] w wr
 hs:wr.heap[w.heap.size]?=bv (bE ⟨S⟩ 66 (0,0))
 h2:wr.heap[w.heap.size+1]?=bv (bE ⟨dF.row⟩ 51 (0,0))
 h3:wr.heap[b3]?=bv (bE ⟨l.row⟩ 51 (0,0))
 lt:w.heap.size+2<=b3
 ok:bI.Tidy { l with pts:=P3 } 0
 kd:l.ag1=k
 bare:l.Bare
 own:iK kK wr (b3+1) (bw l.pA l.pn l.pc) (l.pts.map jZ)
 ti:dB wr l.tA l.tn l.Xm
 mk_:dB wr l.mA l.mn l.mask
variable {w wr uu:bF} {b3:Nat} {S:List bL} {k:Int} {l:bI}
theorem uJ.lt2(P:uJ w wr b3 S k l): b3<wr.heap.size:=(ae.1 P.h3).1
theorem uJ.u(P:uJ w wr b3 S k l)(T:bH [] wr uu): uJ w uu b3 S k l:=by have e:=P.lt;have f:=P.lt2;exact⟨P.t.t T,(T.old _ gn lz).t P.hs,(T.old _ gn lz).t P.h2,(T.old _ gn lz).t P.h3,P.lt,P.ok,P.kd,P.bare,P.own.u T,P.ti.u T,P.mk_.u T⟩
theorem uJ.slim(P:uJ w wr b3 S k l): Ho wr b3:=⟨_,_,_,P.h3,lK⟩
theorem Q9(uu:bF)(b:Nat)(c:Array bL): bH [b] uu (uu.setRow b c):=(bH.refl [b] uu).setRow _ (.inl lz)
theorem KT{v:bL}{a:List (List bL)}(h:iK kK uu (b3+1) v a)(c:Array bL): iK kK (uu.setRow b3 c) (b3+1) v a:=
 h.kept (Q9 uu b3 c) λg d e=>sP
theorem uJ.put(P:uJ w wr b3 S k l)(l':bI)(J:bI.Tidy { l' with pts:=P3 } 0)(c:l'.ag1=k)(b:l'.Bare)(own:iK kK wr (b3+1) (bw l'.pA l'.pn l'.pc) (l'.pts.map jZ))(f:dB wr l'.tA l'.tn l'.Xm)(d:dB wr l'.mA l'.mn l'.mask): uJ w (wr.setRow b3 ⟨l'.row⟩) b3 S k l':=by have e:=P.lt;have g:=P.lt2;exact⟨P.t.setRow _ (.inr gn),(fQ _ _ _ _ gn).t P.hs,(fQ _ _ _ _ gn).t P.h2,eQ P.h3,e,J,c,b,KT own _,f.off P.slim (λq a=>fQ _ _ _ q a),d.off P.slim (λq a=>fQ _ _ _ q a)⟩
theorem uJ.cell(P:uJ w wr b3 S k l)(l':bI){i:Nat}{v:bL}(C:l.row.set i v=l'.row)(J:bI.Tidy { l' with pts:=P3 } 0)(c:l'.ag1=k)(b:l'.Bare)(own:iK kK wr (b3+1) (bw l'.pA l'.pn l'.pc) (l'.pts.map jZ))(f:dB wr l'.tA l'.tn l'.Xm)(d:dB wr l'.mA l'.mn l'.mask): uJ w (wr.setCell ⟨b3,i,bt⟩ v) b3 S k l':=by rw [Ic P.h3 C];exact P.put l' J c b own f d
structure WA(w wr:bF)(b3:Nat)(l:bI): Prop where
 t:bH [] w wr
 h2:wr.heap[w.heap.size+1]?=bv (bE ⟨dF.row⟩ 51 (0,0))
 h3:wr.heap[b3]?=bv (bE ⟨l.row⟩ 51 (0,0))
 lt:w.heap.size+2<=b3
 ok:l.Tidy 0
 nw:l.New wr (b3+1)
 kid:l.Xh=0/\l.ag0=[]
theorem uJ.fin(P:uJ w wr b3 S k l)(b:l.ag1=5->jy l.pts=cg): WA w wr b3 l:=by
 obtain⟨⟨⟨c,h,i⟩,⟨d,H,E⟩,c1,c2,c3⟩,_⟩:=P.bare;have j:=zn P.own;have a:=P.ok;refine⟨P.t,P.h2,P.h3,P.lt,{ a with path:=b },⟨⟨?_,?_,?_,j.1,P.ti,P.mk_,gn⟩,?_,?_,?_,j.2⟩,h,i⟩
 .rw [c,h,i];exact jd _
 .rw [d,H,E];exact jd _
 .rw [c1,c2,c3];exact jd _
 .rw [c];exact .nil _
 .rw [d];exact .nil _
 rw [c1];exact .nil _
theorem uJ.Xg(P:uJ w wr b3 S 3 l)(f:Fv)(ks cs:List Int)(d:Il wr (b3+1) (bw f.kA f.kn f.kc) ks)(c:Il wr (b3+1) (bw f.cA f.cn f.cc) cs): WA w (wr.setRow b3 ⟨({ l with Xg:=f,ks:=ks,cs:=cs }:bI).row⟩) b3 { l with Xg:=f,ks:=ks,cs:=cs }:=by
 obtain⟨⟨⟨i,m,p⟩,_⟩,_⟩:=P.bare;have x:=P.lt;have C:=P.lt2;have z:=P.kd;have e:=λq y=>fQ wr b3 ⟨({ l with Xg:=f,ks:=ks,cs:=cs }:bI).row⟩ q y;have j:=zn (KT P.own ⟨({ l with Xg:=f,ks:=ks,cs:=cs }:bI).row⟩);have b:∀{A:Option bP} {n u:Nat} {B:List Int},Il wr (b3+1) (bw A n u) B->Fr A (b3+1):=λh a v=>by subst v;obtain⟨g,o,s⟩:=a;exact (h.lt g mo).1
 have I:=P.ok;refine⟨P.t.setRow _ (.inr gn),(fQ _ _ _ _ gn).t P.h2,eQ P.h3,x,{ I with Xr:=λh=>absurd z h,path:=λh=>by have h:l.ag1=5:=h;omega },⟨⟨?_,?_,?_,j.1,P.ti.off P.slim e,P.mk_.off P.slim e,by show l.Xh<=50;omega⟩,?_,b d,b c,j.2⟩,m,p⟩
 .show dn _ l.Xi l.Xh l.ag0;rw [i,m,p];exact jd _
 .exact d.ints'.off (b d) (Nat.lt_succ_self _) e
 .exact c.ints'.off (b c) (Nat.lt_succ_self _) e
 show Fr l.Xi _;rw [i];exact .nil _
theorem dB.below{w w':bF}{A:Option bP}{n:Nat}{c:List dC}{bb:Nat}(h:dB w A n c)(m:0<n->∀a,A=bv a->a.block<bb)(s:∀q,q<bb->w'.heap[q]?=w.heap[q]?): dB w' A n c:=by refine⟨h.1,λj t b=>?_⟩;obtain⟨e,g,o,f,d⟩:=h.2 j t b;have x:=(ah.1 b).1;have p:=m pV _ f;refine⟨e,g,o,f,λi v u=>?_⟩;rw [<-d i v u];simp only [World.cell?,s g p]
theorem dB.lt{w:bF}{A:Option bP}{n:Nat}{c:List dC}(h:dB w A n c): 0<n->∀a,A=bv a->a.block<w.heap.size:=by
 intro G a C;have i:0<c.length:=pV
 obtain⟨e,g,o,f,b⟩:=h.2 0 c[0] sq;rw [f]at C;injection C with C;rw [<-C];exact ai (b 0 _ rfl)
structure OE(w wr:bF)(b3 bb:Nat)(S:List bL)(l:bI): Prop where
 t:bH [] w wr
 hs:wr.heap[w.heap.size]?=bv (bE ⟨S⟩ 66 (0,0))
 h2:wr.heap[w.heap.size+1]?=bv (bE ⟨dF.row⟩ 51 (0,0))
 h3:wr.heap[b3]?=bv (bE ⟨l.row⟩ 51 (0,0))
 lt:w.heap.size+2<=b3/\b3<bb/\bb<=wr.heap.size
 ok:bI.Tidy { l with pts:=P3 } 0
 kd:l.ag1=5
 bare:l.Bare0
 own:iK kK wr bb (bw l.pA l.pn l.pc) (l.pts.map jZ)
 ti:dB wr l.tA l.tn l.Xm
 tb:0<l.tn->∀a,l.tA=bv a->a.block<bb
 mk_:dB wr l.mA l.mn l.mask
 mb:0<l.mn->∀a,l.mA=bv a->a.block<bb
theorem uJ.path(P:uJ w wr b3 S 5 l): OE w wr b3 wr.heap.size S l:=
 have h:=P.bare.2.1
 have j:=P.bare.2.2.1
 have G:=P.bare.2.2.2.1
 have b:=P.bare.2.2.2.2
 ⟨P.t,P.hs,P.h2,P.h3,⟨P.lt,P.lt2,aQ _⟩,P.ok,P.kd,P.bare.1,by rw [h,j,G,b];exact jU _ _ _,P.ti,P.ti.lt,P.mk_,P.mk_.lt⟩
variable {bb:Nat}
theorem OE.u(P:OE w wr b3 bb S l)(T:bH [] wr uu): OE w uu b3 bb S l:=by obtain⟨I,h,a⟩:=P.lt;have n:=T.size;exact⟨P.t.t T,(T.old _ gn lz).t P.hs,(T.old _ gn lz).t P.h2,(T.old _ gn lz).t P.h3,⟨I,h,by omega⟩,P.ok,P.kd,P.bare,P.own.u T,P.ti.u T,P.tb,P.mk_.u T,P.mb⟩
theorem OE.step(P:OE w wr b3 bb S l){d:List Nat}(T:bH d wr uu)(f:∀q∈d,bb<=q){A:Option bP}{n c:Nat}{ps:List (Int×Int)}(Z:iK kK uu bb (bw A n c) (ps.map jZ)):
  OE w (uu.setCell ⟨b3,27,bt⟩ (bw A n c)) b3 bb S { l with pA:=A,pn:=n,pc:=c,pts:=ps }:=by
 obtain⟨m,j,p⟩:=P.lt;have o:=T.size;have b:∀q,q<bb->uu.heap[q]?=wr.heap[q]?:=λq a=>T.old q gn (λe=>by have:=f q e;omega);have g:=(b b3 j).t P.h3;have af:Ho uu b3:=⟨_,_,_,g,by simp [bI.row]⟩;have i:=λq a=>dG uu b3 27 (bw A n c) q a;have I:=P.ok;have z:=P.kd;refine⟨(fH P.t T (λq a=>by have:=f q a;omega)).sc,(dG _ _ _ _ _ gn).t ((b _ gn).t P.hs),(dG _ _ _ _ _ gn).t ((b _ gn).t P.h2),dU g rfl,⟨m,j,by rw [World.size_setCell];omega⟩,
  { I with Xo:=λh=>absurd z h },z,P.bare,?_,(P.ti.below P.tb b).off af i,P.tb,(P.mk_.below P.mb b).off af i,P.mb⟩
 exact Z.kept ((bH.refl [b3] uu).setCell _ (.inl lz)) (λq a e=>by have:=(Z.2.lt q a).1;simp at e;omega)
theorem OE.fin(P:OE w wr b3 bb S l)(b:jy l.pts=cg): WA w wr b3 l:=by
 obtain⟨⟨c,h,i⟩,⟨d,H,E⟩,c1,c2,c3⟩:=P.bare;obtain⟨I,e,f⟩:=P.lt;have j:=zn P.own;have a:=P.ok;refine⟨P.t,P.h2,P.h3,I,{ a with path:=λ_=>b },⟨⟨?_,?_,?_,j.1,P.ti,P.mk_,gn⟩,?_,?_,?_,j.2.mono e⟩,h,i⟩
 .rw [c,h,i];exact jd _
 .rw [d,H,E];exact jd _
 .rw [c1,c2,c3];exact jd _
 .rw [c];exact .nil _
 .rw [d];exact .nil _
 rw [c1];exact .nil _
theorem MP{ps:List (Int×Int)}(g:3<=ps.length)(a:ps.length<=64)(b:∀p∈ps,uG p.1 p.2=cf): jy ps=cg:=by unfold jy;simp only [az,decide_eq_true_eq,aZ];exact⟨⟨g,a⟩,λp c=>by rw [b p c];rfl⟩
theorem gV{z:Int}(e:-1000<=z)(a:z<=1000): ch z=z:=fC _ gn gn
theorem uJ.pix(P:uJ w wr b3 S 5 l)(r g b a:Int): uJ w (wr.setRow b3 ⟨({ l with f0:=r,f1:=g,f2:=b,f3:=a }:bI).row⟩) b3 S 5 { l with f0:=r,f1:=g,f2:=b,f3:=a }:=by
 have z:=P.kd;refine P.put { l with f0:=r,f1:=g,f2:=b,f3:=a } ?_ z ?_ P.own P.ti P.mk_
 .have o:=P.ok;exact { o with Xo:=λh=>absurd z h }
 exact P.bare
def Rn(p c:Int): Int:=p.fdiv (2 ^ (min c.toNat 64))
theorem GG{P:Program}{o:Oper}{a:Act}{d f:bT}{x y:ce}{p c:Int}(e:o.op=.binOp .shr d x y f)(b:a.eval x=p)(hy:a.eval y=c)(g:0<=c)(w:bF): (bR a.eval o).run P w=.ok (.value (bx .i64 (Rn p c))) w:=by simp only [bR,e,b,hy];simp [eqGuard,binOp,Op.shift,show ¬c<0 by omega,Rn,IntKind.bits]
theorem PZ(x y:Int)(uu:bF): (Instr.build 123 #[(0,x),(1,y)]).run prog uu=.ok (bz ⟨jZ (x,y)⟩) uu:=lB
theorem wQ:(prog.info? 43).map (·.size)=bv 6:=lB
theorem Tv:(prog.info? 45).map (·.size)=bv 4:=lB
theorem dS:(prog.info? 51).map (λi=>(i.zero,i.size))=bv (bv (bz ⟨dF.row⟩),31):=lB
theorem gI: AL 51 ⟨dF.row⟩:=λuu=>by unfold Instr.alloc;rw [Sem.run_bind,(bM dS).1];rfl
theorem zo:(prog.info? 40).map (·.size)=bv 7:=lB
theorem row_one(l:bI): ∀v∈l.row,v.oneCell'=cg:=by intro v e;simp only [bI.row,aS,List.mem_nil_iff,or_false]at e;rcases e with h|h|h|h|h|h|h|h|h|h|h|h|h|h|h|h|h|h|h|h|h|h|h|h|h|h|h|h|h|h|h<;>(subst h;rfl)
theorem gX(uu:bF)(l:bI): (Instr.storeAt 51 (bB (bv ⟨uu,0,bt⟩)) (bz ⟨l.row⟩)).run prog (uu.alloc (bE ⟨dF.row⟩ 51))=.ok () (uu.alloc (bE ⟨l.row⟩ 51)):=
 bX uu 51 _ ⟨l.row⟩ (bM dS).2 rfl (bS (cs:=l.row) (row_one l))
theorem wu(k:Int)(e:1<=k)(f:k<=5): bI.Tidy { fB k with pts:=P3 } 0:=by
 obtain rfl|rfl|rfl|rfl|rfl:k=1\/k=2\/k=3\/k=4\/k=5:=gn
 all_goals
  refine⟨?_,?_,?_,?_,?_,?_,?_,?_,?_,?_,?_,?_,?_,?_⟩<;>simp [fB,kW,P3]<;>decide
theorem Ec(k:Int): (fB k).Bare:=⟨⟨⟨rfl,rfl,rfl⟩,⟨rfl,rfl,rfl⟩,rfl,rfl,rfl⟩,rfl,rfl,rfl,rfl⟩
theorem kZ(w:bF): dB w bt 0 []:=⟨rfl,λj t h=>qc⟩
theorem nC{w uu:bF}(o:∀q,q<w.heap.size->uu.heap[q]?=w.heap[q]?){g i:Nat}{v:bL}(h:w.cell? ⟨g,i,bt⟩=bv v): uu.cell? ⟨g,i,bt⟩=bv v:=by rw [<-h];simp only [World.cell?,o g (ai h)]
theorem dn.keep{w uu:bF}(b:∀q,q<w.heap.size->uu.heap[q]?=w.heap[q]?){A:Option bP}{n:Nat}{c:List Int}(h:dn w A n c): dn uu A n c:=
 ⟨h.1,λj a=>by obtain⟨g,o,e,f⟩:=h.2 j a;exact⟨g,o,e,nC b f⟩⟩
theorem iL.keep{w uu:bF}(a:∀q,q<w.heap.size->uu.heap[q]?=w.heap[q]?){A:Option bP}{n:Nat}{c:List (Int×Int)}(h:iL w A n c): iL uu A n c:=
 ⟨h.1,λj d=>by obtain⟨g,o,e,f,b⟩:=h.2 j d;exact⟨g,o,e,nC a f,nC a b⟩⟩
theorem dB.keep{w uu:bF}(d:∀q,q<w.heap.size->uu.heap[q]?=w.heap[q]?){A:Option bP}{n:Nat}{c:List dC}(h:dB w A n c): dB uu A n c:=
 ⟨h.1,λj t b=>by obtain⟨a,g,o,e,f⟩:=h.2 j t b;exact⟨a,g,o,e,λi v m=>nC d (f i v m)⟩⟩
theorem bI.At.keep{w uu:bF}(o:∀q,q<w.heap.size->uu.heap[q]?=w.heap[q]?){l:bI}(h:l.At w): l.At uu:=
 ⟨h.ag0.keep o,h.ks.keep o,h.cs.keep o,h.pts.keep o,h.Xm.keep o,h.mask.keep o,h.Xk⟩
end
theorem bK{w:bF}{g i:Nat}{L:Array bL}{t:bT}(d:w.heap[g]?=bv (bE L t (0,0))){v:bL}(e:L[i]?=bv v): w.cell? ⟨g,i,bt⟩=bv v:=by rw [aA _ _ _ _ _ _ d];exact e
theorem cO(i:Nat)(v:bL){w:bF}{g:Nat}{L:Array bL}{t:bT}(d:w.heap[g]?=bv (bE L t (0,0)))(e:L[i]?=bv v:=by rfl): w.cell? ⟨g,i,bt⟩=bv v:=bK d e
theorem dm{w:bF}{g:Nat}{L:Array bL}{t:bT}(d:w.heap[g]?=bv (bE L t (0,0)))(i:Nat): w.frozen? ⟨g,i,bt⟩=cf:=by simp [World.frozen?,d]
theorem acF(f:Fv)(ks cs:List Int)(r:Rc)(C:r.bd)(w:bF)(B:dn w f.kA f.kn ks)(g:dn w f.cA f.cn cs): cd prog 159 #[f.v,r.v] w λe w'=>e=.returned ((r.join (f.area (jC f ks cs) r (-1))).can).v/\bH [] w w':=by
 have z:=λu (t:bH [] w u)=>acp f ks cs r C u (B.u t) (g.u t);have y:=BX r (f.area (jC f ks cs) r (-1));have x:=uY (r.join (f.area (jC f ks cs) r (-1)));generalize (r.join (f.area (jC f ks cs) r (-1))).can=m at *;generalize r.join (f.area (jC f ks cs) r (-1))=b at *;generalize f.area (jC f ks cs) r (-1)=a at *;clear B g C;obtain⟨k,M,D,F,E,s,N,cA,q,p⟩:=f;obtain⟨j,l,H,J⟩:=r;obtain⟨Y,Z,m2,m3⟩:=m;obtain⟨b0,b1,b2,b3⟩:=b;obtain⟨a0,a1,a2,a3⟩:=a;simp only [Rc.v,Fv.v]at *;obtain⟨R,Q,P⟩:=lh3 z y x;clear z y x;obtain⟨W,d⟩:=eX (((w.alloc (bE #[k,M,bw D F E,s,N,bw cA q p] 43)).alloc (bE #[j,l,H,J] 59)).alloc (bE #[(0:Int),(0:Int),(0:Int),(0:Int)] 59));have n:bH [] w W:=d▸(((tR w).a _).a _).a _;have ar:w.heap.size+3<=W.heap.size:=by rw [d];simp
 obtain⟨a4,a5,a6,a7,a8,a9⟩:=WY (DD d).1;obtain⟨G,I,K,L⟩:=GX (DD d).2.1;obtain⟨aa,ab,ac,ad⟩:=GX (DD d).2.2;have zf:∀i,W.frozen? ⟨w+2,i,bt⟩=cf:=λi=>by rw [d];simp [go_sem]
 go_enter func159,ntmps159;go_upto_region 1 with (fail)
 rw [<-d];clear d;refine sN 6 (tR W) λV h=>?_;refine fE 0 (bz #[j,l,H,J]) ?_ (j:=λw' c=>by have S:=tc c G;have T:=tc c I;have U:=tc c K;have X:=tc c L;go_simp);refine fE 1 (bz #[k,M,bw D F E,s,N,bw cA q p]) ?_ (j:=λw' c=>by have af:=tc c a4;have am:=tc c a5;have an:=tc c a6;have ao:=tc c a7;have ap:=tc c a8;have aq:=tc c a9;go_simp);refine fE 2 (bz #[j,l,H,J]) ?_ (j:=λw' c=>by have S:=tc c G;have T:=tc c I;have U:=tc c K;have X:=tc c L;go_simp);refine PR 3 (R.o _ (n.t h)) λO h _=>?_
 refine PR 4 (Q.o _) λO h _=>?_
 refine PR 5 (P.o _) λO h _=>?_
 obtain⟨g,A⟩:=bY h;have z0:=tq g aa;have z1:=tq g ab;have z2:=tq g ac;have z3:=tq g ad;have zg:=λi=>(A (w.heap.size+2) i gn).t (zf i);clear g A;refine Yo ?_
 go_wp2_with fail
 exact ag (v:=bz #[Y,Z,m2,m3]) (by simp [results,results159,go_sem,z0,z1,z2,z3]) rfl ⟨rfl,(((((n.t h).sc).sc).sc).sc)⟩
def vC(x n:Int): Int:=(x.tmod n+n).tmod n
theorem zl(x:Int){n:Int}(h:0<n): -n<x.tmod n/\x.tmod n<n:=by have e:=Int.tmod_lt_of_pos x h;refine⟨?_,e⟩;have f:=Int.tmod_lt_of_pos (-x) h;rw [Int.neg_tmod]at f;omega
theorem GM(x:Int){n:Int}(h:0<n): 0<=vC x n/\vC x n<n:=by have e:=zl x h;exact⟨Int.tmod_nonneg _ gn,Int.tmod_lt_of_pos _ h⟩
theorem IJ(x n:Int)(a:0<n)(b:n<=400)(w:bF): cd prog 10 #[x,n] w λe w'=>e=.returned (bx .i64 (vC x n))/\w'=w:=by
 have J:¬n=0:=gn
 have g:=zl x a;have a0:=zl (x.tmod n+n) a;have c:ch (x.tmod n)=x.tmod n:=gV gn gn;have d:ch (x.tmod n+n)=x.tmod n+n:=gV gn gn;have h:ch ((x.tmod n+n).tmod n)=(x.tmod n+n).tmod n:=gV gn gn;clear g a0;go_enter func10,ntmps10;go_wp2;go_ret;exact⟨rfl,rfl⟩
theorem Hg{o:Oper}{a:Act}{w:bF}{s x:ce}(b:o.op=Op.call { callee:=Callee.builtin Builtin.min,args:=#[s,x],argTypes:=#[3,3] }){p q:Int}(n:a.eval s=p)(c:a.eval x=q): (bR a.eval o).run prog w=.ok (.value (bx .i64 (min p q))) w:=by have e:=LJ p q o.type w;simp [bR,b,resolve,invoke,builtin,n,c,e,Result.andThen]
theorem Gp{o:Oper}{a:Act}{w:bF}{s x:ce}(b:o.op=Op.call { callee:=Callee.builtin Builtin.max,args:=#[s,x],argTypes:=#[3,3] }){p q:Int}(n:a.eval s=p)(c:a.eval x=q): (bR a.eval o).run prog w=.ok (.value (bx .i64 (max p q))) w:=by have e:=KZ p q o.type w;simp [bR,b,resolve,invoke,builtin,n,c,e,Result.andThen]
theorem rP.still{W wr V:bF}{r:Rc}(H:rP W wr r)(T:bH [] wr V): rP W V r:=by have ar:=H.sz;have q:=bY T;exact⟨H.t.t T,aK ar T.size,(q.1 _ _ gn).t H.c0,(q.1 _ _ gn).t H.c1,(q.1 _ _ gn).t H.c2,(q.1 _ _ gn).t H.c3,λi=>(q.2 _ _ gn).t (H.f i),λi=>(q.2 _ _ gn).t (H.f' i),(q.1 _ _ gn).t H.d0,(q.1 _ _ gn).t H.d1,(q.1 _ _ gn).t H.d2,(q.1 _ _ gn).t H.d3⟩
theorem rP.set{W V:bF}{s p o q:Int}(H:rP W V ⟨s,p,o,q⟩)(u v:Int):
  rP W ((((V.setCell ⟨W+1,0,bt⟩ (bx .i64 (min s u))).setCell ⟨W+1,1,bt⟩ (bx .i64 (min p v))).setCell ⟨W+1,2,bt⟩ (bx .i64 (max o u))).setCell ⟨W+1,3,bt⟩ (bx .i64 (max q v))) (iP ⟨s,p,o,q⟩ (u,v)):=by
 obtain⟨t,n,k,l,z,N,d,c,e,g,h,j⟩:=H;simp only at k l z N;have a:∀i,W.heap.size<=(Addr.mk (W.heap.size+1) i bt).block:=λi=>lE
 refine⟨(((t.setCell _ (.inr (a _))).setCell _ (.inr (a _))).setCell _ (.inr (a _))).setCell _ (.inr (a _)),?_,?_,?_,?_,?_,?_,?_,?_,?_,?_,?_⟩
 .simpa only [World.size_setCell]using n
 all_goals simp [go_sem,iP,k,l,z,N,e,g,h,j,c,d]
theorem QO(ps:List (Int×Int))(A:Option bP)(n cap:Nat)(h1:1<=n)(h2:n<=64)(w:bF)(F:iL w A n ps):
  cd prog 228 #[bw A n cap] w λe w'=>e=.returned (gY ps).v/\bH [] w w':=by
 have T:=F.1;obtain⟨g,o,rfl,j⟩:=F.get gn;have HU:∀w,bH [] w (w.alloc (bE #[(0:Int),(0:Int),(0:Int),(0:Int)] 59)).drew/\bH [] w ((w.alloc (bE #[(0:Int),(0:Int),(0:Int),(0:Int)] 59)).alloc (bE #[(0:Int),(0:Int),(0:Int),(0:Int)] 59)).drew:=λw=>⟨((tR w).a _).drawn 1,(((tR w).a _).a _).drawn 1⟩;obtain⟨L,M⟩:=j w (tR w) 0 gn;have L:w.cell? ⟨g,o,bt⟩=bv (bx .i64 (ps.getD 0 (0,0)).1):=by simpa using L
 have M:w.cell? ⟨g,o+1,bt⟩=bv (bx .i64 (ps.getD 0 (0,0)).2):=by simpa using M
 have G:=HU w;have J:=j _ G.1 0 gn;have K:=j _ G.2 0 gn;have a2:(w.alloc (bE #[(0:Int),(0:Int),(0:Int),(0:Int)] 59)).drew.cell? ⟨g,o,bt⟩=bv (bx .i64 (ps.getD 0 (0,0)).1):=by simpa using J.1
 have a3:(w.alloc (bE #[(0:Int),(0:Int),(0:Int),(0:Int)] 59)).drew.cell? ⟨g,o+1,bt⟩=bv (bx .i64 (ps.getD 0 (0,0)).2):=by simpa using J.2
 have a4:((w.alloc (bE #[(0:Int),(0:Int),(0:Int),(0:Int)] 59)).alloc (bE #[(0:Int),(0:Int),(0:Int),(0:Int)] 59)).drew.cell? ⟨g,o,bt⟩=bv (bx .i64 (ps.getD 0 (0,0)).1):=by simpa using K.1
 have a6:((w.alloc (bE #[(0:Int),(0:Int),(0:Int),(0:Int)] 59)).alloc (bE #[(0:Int),(0:Int),(0:Int),(0:Int)] 59)).drew.cell? ⟨g,o+1,bt⟩=bv (bx .i64 (ps.getD 0 (0,0)).2):=by simpa using K.2
 clear J K G;have U:(ps.take 1).foldl iP ⟨(ps.getD 0 (0,0)).1,(ps.getD 0 (0,0)).2,(ps.getD 0 (0,0)).1,(ps.getD 0 (0,0)).2⟩=⟨(ps.getD 0 (0,0)).1,(ps.getD 0 (0,0)).2,(ps.getD 0 (0,0)).1,(ps.getD 0 (0,0)).2⟩:=by
  cases ps with
  |nil=>rfl
  |cons p q=>simp [iP]
 have HX:=lh U;clear U;have l:gY ps=ps.foldl iP ⟨(ps.getD 0 (0,0)).1,(ps.getD 0 (0,0)).2,(ps.getD 0 (0,0)).1,(ps.getD 0 (0,0)).2⟩:=rfl;have i:=lh j;generalize (ps.getD 0 (0,0)).1=x,(ps.getD 0 (0,0)).2=y at *;have HM:=lh l;have N:=lh T;clear j l T F;have P:(0:Int)<(n:Int):=gn
 go_enter func228,ntmps228;go_wp2_with fail
 go_region;clear L M a2 a3 a4 a6 P;go_wp2_with fail
 go_loopw [4] (λs4 wr=>∃k:Nat,1<=k/\k<=n/\s4=k/\rP w wr ((ps.take k).foldl iP ⟨x,y,x,y⟩)) (λs4 _=>n-(ci s4).toNat);case atStart=>
  have a1:(ps.take 1).foldl iP ⟨x,y,x,y⟩=⟨x,y,x,y⟩:=HX.o;refine⟨1,gn,gn,rfl,?_⟩;rw [a1];refine⟨(((tR w).a _).a _).drawn 1,?_,?_,?_,?_,?_,?_,?_,?_,?_,?_,?_⟩;all_goals simp [go_sem]
 obtain⟨k,a7,hk,rfl,H⟩:=hrel;have Q:=H.c0;have c1:=H.c1;have c2:=H.c2;have c3:=H.c3;generalize E:(ps.take k).foldl iP ⟨x,y,x,y⟩=r at *;obtain⟨m,B,C,D⟩:=r;simp only at Q c1 c2 c3;by_cases a5:k<n
 .obtain⟨O,b⟩:=i.o _ H.t k a5;generalize W:ps.getD k (0,0)=z at *;obtain⟨u,v⟩:=z;simp only at O b;obtain⟨HR,I,h⟩:=lh3 E W H;have P:(0:Int)<=(k:Int):=by omega
  have b1:(k:Int)<(n:Int):=gn
  have ar:=h.o.sz;clear E W H;go_upto_region 5 with fail
  refine sN 33 (tR wr) λV R=>?_;refine fK 0 ?_;refine Xy 1 m (λw' c=>tc c Q) ?_;refine fE 2 (bw (bv ⟨g,o,bt⟩) n cap) ?_;refine fE 3 k ?_;refine fK 4 ?_;refine fK 5 ?_;refine fE 6 u ?_ (j:=λw' c=>by obtain⟨O,b⟩:=i.o _ (h.o.t.t c) k a5;rw [I.o]at O b;simp only at O b;go_simp);refine fE 7 (bx .i64 (min m u)) ?_ rfl (j:=λw' c=>Hg (s:=.tmp 29) (x:=.tmp 34) rfl rfl rfl);refine fK 8 ?_;refine Xy 9 B (λw' c=>tc c c1) ?_;refine fE 10 (bw (bv ⟨g,o,bt⟩) n cap) ?_;refine fE 11 k ?_;refine fK 12 ?_;refine fK 13 ?_;refine fE 14 v ?_ (j:=λw' c=>by obtain⟨O,b⟩:=i.o _ (h.o.t.t c) k a5;rw [I.o]at O b;simp only at O b;go_simp);refine fE 15 (bx .i64 (min B v)) ?_ rfl (j:=λw' c=>Hg (s:=.tmp 37) (x:=.tmp 42) rfl rfl rfl);refine fK 16 ?_;refine Xy 17 C (λw' c=>tc c c2) ?_;refine fE 18 (bw (bv ⟨g,o,bt⟩) n cap) ?_;refine fE 19 k ?_;refine fK 20 ?_;refine fK 21 ?_;refine fE 22 u ?_ (j:=λw' c=>by obtain⟨O,b⟩:=i.o _ (h.o.t.t c) k a5;rw [I.o]at O b;simp only at O b;go_simp);refine fE 23 (bx .i64 (max C u)) ?_ rfl (j:=λw' c=>Gp (s:=.tmp 45) (x:=.tmp 50) rfl rfl rfl);refine fK 24 ?_;refine Xy 25 D (λw' c=>tc c c3) ?_;refine fE 26 (bw (bv ⟨g,o,bt⟩) n cap) ?_;refine fE 27 k ?_;refine fK 28 ?_;refine fK 29 ?_;refine fE 30 v ?_ (j:=λw' c=>by obtain⟨O,b⟩:=i.o _ (h.o.t.t c) k a5;rw [I.o]at O b;simp only at O b;go_simp);refine fE 31 (bx .i64 (max D v)) ?_ rfl (j:=λw' c=>Gp (s:=.tmp 53) (x:=.tmp 58) rfl rfl rfl);refine fE 32 (bz #[(min m u:Int),(min B v:Int),(max C u:Int),(max D v:Int)]) ?_;have d:=h.o.still R;obtain⟨X,Y,Z,v3,vf⟩:=bg d.c0 (bg d.c1 (bg d.c2 (bg d.c3 d.f)));simp only at X Y Z v3;refine Yo ?_
  have d:=lh d;clear R X Y Z v3 vf;go_wp2;go_roundw;case rel=>
   refine⟨k+1,gn,gn,by go_num,?_⟩;have S:k<ps.length:=(by rw [<-N.o];exact a5);have ht:ps.take (k+1)=ps.take k++[(u,v)]:=(by rw [aT S,<-I.o];simp [List.getD,S]);rw [ht,List.foldl_append,HR.o];exact d.o.set u v
  simp [ci];omega
 obtain rfl:k=n:=gn
 have l:gY ps=⟨m,B,C,D⟩:=by rw [HM.o,<-E,N.o,List.take_length]
 have a0:=lh l;have d0:=H.d0;have d1:=H.d1;have d2:=H.d2;have d3:=H.d3;have f0:=H.f';have TT:=H.t;clear E H l;go_wp2_with fail
 refine ag (v:=bz #[m,B,C,D]) (by simp [results,results228,go_sem,d0,d1,d2,d3]) rfl ⟨by rw [a0.o];rfl,((((TT.sc).sc).sc).sc)⟩
theorem MC(h:Rc): h.meet h=h.norm:=by obtain⟨a,b,c,d⟩:=h;unfold Rc.meet;simp only [Int.max_self,Int.min_self]
theorem Hw(ps:List (Int×Int))(p:jy ps=cg)(A:Option bP)(n cap:Nat)(w:bF)(m:iL w A n ps):
  cd prog 152 #[bw A n cap] w λe w'=>e=.returned ((gY ps).meet (gY ps)).v/\bH [] w w':=by
 obtain⟨⟨C,I⟩,_⟩:=nD p;have G:=m.1;rw [<-G]at C I;have q:=λw' (t:bH [] w w')=>Es ps A n cap w' (m.u t);rw [p]at q;have z:=λw' (t:bH [] w w')=>QO ps A n cap gn I w' (m.u t);have y:=iM (gY ps);rw [MC];generalize gY ps=h at *;have B:h.norm=if h.empty then Rc.zero else h:=rfl
 rw [B];generalize h.empty=L at *;obtain⟨g,i,H,J⟩:=h;simp only [Rc.v]at *;obtain⟨E,D,x⟩:=lh3 q z y;clear q z y p m G C I B;have d:bH [] _ _:=(tR w).alloc (bE #[(0:Int),(0:Int),(0:Int),(0:Int)] 59);have a:=d.here;go_enter func152,ntmps152;go_upto_region 5 with (first
  |(go_at_call 227;refine mR (E.o _ (d.t a)) λR c=>?_;have a:=a.t c;obtain⟨f,l⟩:=bY a)
  |(go_at_call 228;refine mR (D.o _ (d.t a)) λs c=>?_;have a:=a.t c;obtain⟨f,l⟩:=bY a)
  |fail)
 have a:=a.alloc (bE #[g,i,H,J] 59);have j:=cb s (bE #[g,i,H,J] 59);have O:=d.size;have P:=c.size;generalize s.alloc (bE #[g,i,H,J] 59)=W,s.heap.size=b at *;have K:=cO 0 g j;have M:=cO 1 i j;have Q:=cO 2 H j;have N:=cO 3 J j;clear f l c;cases L with
 |true=>
  go_wp2_with (first
   |(go_at_call 111;refine mR (x.o _) λF c=>?_;have a:=a.t c;obtain⟨f,l⟩:=bY a)
   |fail)
  have a:=d.t a;exact ag (v:=bz #[(0:Int),(0:Int),(0:Int),(0:Int)]) (by simp [results,results152,go_sem,f]) rfl ⟨rfl,((((a.sc).sc).sc).sc)⟩
 |false=>
  go_wp2_with (first
   |(go_at_call 111;refine mR (x.o _) λF c=>?_;have a:=a.t c;obtain⟨f,l⟩:=bY a;have k:=c.ox j;have K:=cO 0 g k;have M:=cO 1 i k;have Q:=cO 2 H k;have N:=cO 3 J k)
   |fail)
  have a:=d.t a;exact ag (v:=bz #[g,i,H,J]) (by simp [results,results152,go_sem,f]) rfl ⟨rfl,((((a.sc).sc).sc).sc)⟩
def Cf:List Int->Int->Nat->Option Nat
 | [],_,_=>bt
 |x::xs,id,k=>if x=id then bv k else Cf xs id (k+1)
def kE:List bI->Int->Option (Int×Nat)
 | [],_=>bt
 |l::ls,id=>if l.ag1=2 then (match Cf l.ag0 id 0 with
  |some k=>bv (l.id,k)
  |none=>kE ls id) else kE ls id
def VJ(o:Option (Int×Nat)): Int:=match o with
 |some (p,_)=>p
 |none=>0
def UY(o:Option (Int×Nat)): Int:=match o with
 |some (_,k)=>(k:Int)
 |none=>0
theorem Gh{ks:List Int}{j:Nat}(h:j<ks.length): ks.drop j=ks.getD j 0::ks.drop (j+1):=by rw [List.drop_eq_getElem_cons h];simp [List.getD,h]
theorem DK{ls:List bI}{k:Nat}{l:bI}(h:ls[k]?=bv l)(id:Int): kE (ls.drop k) id=if l.ag1=2 then (match Cf l.ag0 id 0 with
  |some k=>bv (l.id,k)
  |none=>kE (ls.drop (k+1)) id) else kE (ls.drop (k+1)) id:=by
 obtain⟨d,rfl⟩:=ah.1 h;rw [List.drop_eq_getElem_cons d];rfl
theorem Gq(d:df)(id:Int)(w:bF)(h:d.At w): CR 99 #[d.v,id] w (bz #[(VJ (kE d.agY id):Int),(UY (kE d.agY id):Int),bA (kE d.agY id).isSome]):=by
 have I:=h.agY;have af:=h.small;have hn:=I.1;have Y:=λm=>I.cell m;clear h I;obtain⟨sA,sn,sc,ag2,ab,next,lA,p,lc,agY⟩:=d;simp only [df.v]at *;have HC:=lh Y;have O:=lh hn;clear Y hn;go_enter func99,ntmps99;go_wp2_with fail
 obtain⟨W,s⟩:=eX ((w.alloc (bE #[bw sA sn sc,ab,next,bw lA p lc] 29)).alloc (bE #[(0:Int),(0:Int),bA cf] 177));have TW:bH [] w W:=s▸((tR w).a _).a _;have C:=cAt 3 (JK s).1 rfl;obtain⟨B,J,Q⟩:=WP (JK s).2;have D:∀i,W.frozen? ⟨w+1,i,bt⟩=cf:=λi=>by rw [s];simp [go_sem]
 rw [<-s];go_loopw [5] (λs5 wr=>∃k:Nat,k<=p/\s5=k/\bH [] W wr/\kE (agY.drop k) id=kE agY id) (λs5 _=>p-(ci s5).toNat);case atStart=>exact⟨0,gn,rfl,tR W,rfl⟩
 obtain⟨k,hk,rfl,T,a7⟩:=hrel;have P:=lh a7;clear a7;have y:=TW.t T;have C:wr.cell? ⟨w,3,bt⟩=bv (bw lA p lc):=by rw [(bY T).1 _ _ (ai C)];exact C
 have x:=ai B;have B:wr.cell? ⟨w+1,0,bt⟩=bv (bx .i64 0):=by rw [(bY T).1 _ _ x];exact B
 have J:wr.cell? ⟨w+1,1,bt⟩=bv (bx .i64 0):=by rw [(bY T).1 _ _ x];exact J
 have Q:wr.cell? ⟨w+1,2,bt⟩=bv (bA cf):=by rw [(bY T).1 _ _ x];exact Q
 have D:∀i,wr.frozen? ⟨w+1,i,bt⟩=cf:=λi=>by rw [(bY T).2 _ _ x];exact D i
 by_cases ad:k<p
 .obtain⟨g,o,rfl,S⟩:=HC.o gn;have b9:k<agY.length:=by have:=O.o;omega
  obtain⟨l,K⟩:∃l,agY[k]?=bv l:=⟨agY[k],nv⟩;obtain⟨H,Z⟩:=S wr y k l K;have L:=DK K id;rw [P.o]at L;have G:=lh L;clear L;have a0:(prog.info? 51).map (·.size)=bv l.row.length:=(bM rX).2;have a8:=pX l wr;have aw:=oM wr;have b0:(0:Int)<=(k:Int):=gn
  have b1:(k:Int)<(p:Int):=gn
  have A:=jg l wr 51;have p0:=kQ A 0 l.id rfl;have p1:=kQ A 1 l.ag1 rfl;have am:=kQ A 15 (bw l.Xi l.Xh l.Xj) rfl;have c:=(tR wr).alloc (bE ⟨l.row⟩ 51);have a4:=H.ag0;have ac:=H.Xk;clear A H S K b9;generalize l.row=e,l.Xi=kA,l.Xh=n,l.Xj=kc at *;have M:=lh a4;clear a4;go_wp2_with (first
   |(refine ca rfl 51 _ rfl _ _ rfl _ _ Z underlying51 rfl a0 ?_)
   |(refine bU rfl 51 _ _ rfl rfl rfl a8 ?_))
  have z:=ai B;have y0:(wr.alloc (bE ⟨e⟩ 51)).cell? ⟨w+1,0,bt⟩=bv (bx .i64 0):=by rw [(bY c).1 _ _ z];exact B
  have y1:(wr.alloc (bE ⟨e⟩ 51)).cell? ⟨w+1,1,bt⟩=bv (bx .i64 0):=by rw [(bY c).1 _ _ z];exact J
  have y2:(wr.alloc (bE ⟨e⟩ 51)).cell? ⟨w+1,2,bt⟩=bv (bA cf):=by rw [(bY c).1 _ _ z];exact Q
  have yf:∀i,(wr.alloc (bE ⟨e⟩ 51)).frozen? ⟨w+1,i,bt⟩=cf:=λi=>by rw [(bY c).2 _ _ z];exact D i
  have R:bH [] W (wr.alloc (bE ⟨e⟩ 51)):=T.t c;have TX:bH [] w (wr.alloc (bE ⟨e⟩ 51)):=y.t c;have X:Hid (dn (wr.alloc (bE ⟨e⟩ 51)) kA n l.ag0):=lh (M.o.u c);clear B J Q D a8 aw Z a0 C M;generalize wr.heap.size=b,wr.alloc (bE ⟨e⟩ 51)=V at *;clear c T y;have a6:n=l.ag0.length:=X.o.1;have N:=lh a6;clear a6;go_loopw [7] (λs7 v=>∃j:Nat,j<=n/\s7=j/\v=V/\Cf (l.ag0.drop j) id j=Cf l.ag0 id 0) (λs7 _=>n-(ci s7).toNat);case atStart=>exact⟨0,gn,rfl,rfl,rfl⟩
  obtain⟨j,hj,rfl,rfl,a3⟩:=hrel;have F:=lh a3;clear a3;by_cases aa:j<n
  .obtain⟨g2,o2,rfl,U⟩:=X.o.cell gn;have ax:=U _ (tR _) j aa;clear U;have a2:=Gh (ks:=l.ag0) (j:=j) (by have:=N.o;omega);generalize l.ag0.getD j 0=q at *;have a5:=lh a2;clear a2;have c0:(0:Int)<=(j:Int):=gn;have c1:(j:Int)<(n:Int):=gn;by_cases a1:l.ag1=2
   .rw [a1]at p1;have a9:=lh a1;clear a1;by_cases hq:q=id
    .subst hq;(go_wp2_with fail);refine ag (v:=bz #[l.id,j,bA cg]) si rfl ⟨?_,?_⟩
     .have m:=G.o;have f:=F.o;rw [a5.o]at f;rw [show Cf (q::l.ag0.drop (j+1)) q j=bv j from aG rfl]at f;rw [aG a9.o,<-f]at m;rw [m];rfl
     exact ((TX.sc).sc).sc
    go_wp2;go_roundw;case rel=>exact⟨j+1,gn,by go_num,by first|rfl|trivial,by have f:=F.o;rw [a5.o]at f;rw [<-f];exact (aF hq).symm⟩
    simp [ci];omega
   have E:=lh (show kE (agY.drop (k+1)) id=kE agY id by rw [G.o,aF a1]);(go_wp2_with fail);exact⟨⟨k+1,gn,by go_num,R,E.o⟩,by simp [ci];omega⟩
  obtain rfl:j=n:=gn
  have E:=lh (show kE (agY.drop (k+1)) id=kE agY id by
   have m:=G.o;have f:=F.o;rw [List.drop_of_length_le (by have:=N.o;omega)]at f;rw [<-f]at m;rw [m];split<;>rfl)
  go_wp2_with fail
  exact⟨⟨k+1,gn,by go_num,R,E.o⟩,by simp [ci];omega⟩
 obtain rfl:k=p:=gn
 have E:=lh (show kE agY id=bt by rw [<-P.o,List.drop_of_length_le rj];rfl);go_wp2_with fail
 refine ag (v:=bz #[(0:Int),(0:Int),bA cf]) sI rfl ⟨by rw [E.o];rfl,?_⟩;exact ((y.sc).sc).sc
def Uo(ks:List Int)(id:Int): Int:=match Cf ks id 0 with
 |some k=>(k:Int)
 |none=>-1
theorem Ji(ks:List Int)(id:Int)(A:Option bP)(n cap:Nat)(c:n<=50)(w:bF)(h:dn w A n ks):
  CR 239 #[bw A n cap,id] w (bx .i64 (Uo ks id)):=by
 have G:=h.1;have p:=lh h;have a:=lh G;clear h G;go_enter func239,ntmps239;go_wp2_with fail
 go_loopw [8] (λs8 v=>∃j:Nat,j<=n/\s8=j/\v=w/\Cf (ks.drop j) id j=Cf ks id 0) (λs8 _=>n-(ci s8).toNat);case atStart=>exact⟨0,gn,rfl,rfl,rfl⟩
 obtain⟨j,k,rfl,rfl,a3⟩:=hrel;have F:=lh a3;clear a3;by_cases a0:j<n
 .obtain⟨g,o,rfl,d⟩:=p.o.2 j a0;have a2:=Gh (ks:=ks) (j:=j) (by have:=a.o;omega);generalize ks.getD j 0=q at *;have a5:=lh a2;have B:(0:Int)<=(j:Int):=by omega
  have c1:(j:Int)<(n:Int):=gn
  clear a2;by_cases b:id=q
  .subst b;have f:=F.o;rw [a5.o,show Cf (id::ks.drop (j+1)) id j=bv j from aG rfl]at f;have i:=lh f;clear f;go_wp2;go_ret;exact⟨by unfold Uo;rw [<-i.o];rfl,tR _⟩
  have f:=F.o;rw [a5.o,show Cf (q::ks.drop (j+1)) id j=Cf (ks.drop (j+1)) id (j+1) from aF λe=>b e.symm]at f;have i:=lh f;clear f;go_wp2;go_roundw;case rel=>exact⟨j+1,gn,by go_num,by first|rfl|trivial,i.o⟩
  simp [ci];omega
 obtain rfl:j=n:=gn
 have f:=F.o;rw [List.drop_of_length_le (by have:=a.o;omega)]at f;have i:=lh f;clear f;go_wp2;go_ret;exact⟨by unfold Uo;rw [<-i.o];rfl,tR _⟩
theorem Ef(d:df)(id:Int)(w:bF)(h:d.At w): CR 188 #[d.v,id] w (.tuple #[bx .i64 (VJ (kE d.agY id)),bx .i64 (UY (kE d.agY id)),bA (kE d.agY id).isSome]):=by
 have p:=h.agY;have an:=h.small;have U:=p.1;have M:=λe=>p.cell e;clear h p;obtain⟨sA,sn,sc,ag2,ab,next,lA,f,lc,agY⟩:=d;simp only [df.v]at *;have HC:=lh M;have B:=lh U;clear M U;go_enter func188,ntmps188;go_wp2_with fail
 obtain⟨W,q⟩:=eX (w.alloc (bE #[bw sA sn sc,ab,next,bw lA f lc] 29));have E:bH [] w W:=q▸(tR w).a _;rw [<-q];clear q;go_loopw [13] (λs13 wr=>∃k:Nat,k<=f/\s13=k/\bH [] W wr/\kE (agY.drop k) id=kE agY id) (λs13 _=>f-(ci s13).toNat);case atStart=>exact⟨0,gn,rfl,tR W,rfl⟩
 obtain⟨k,hk,rfl,T,a7⟩:=hrel;have P:=lh a7;clear a7;have y:=E.t T;by_cases am:k<f
 .obtain⟨g,o,rfl,K⟩:=HC.o gn;have b9:k<agY.length:=by have:=B.o;omega
  obtain⟨l,x⟩:∃l,agY[k]?=bv l:=⟨agY[k],nv⟩;obtain⟨D,N⟩:=K wr y k l x;have L:=DK x id;rw [P.o]at L;have G:=lh L;have O:(prog.info? 51).map (·.size)=bv l.row.length:=(bM rX).2;have Y:=pX l wr;have aw:=oM wr;have b0:(0:Int)<=(k:Int):=gn
  have b1:(k:Int)<(f:Int):=gn
  have n:=(tR wr).alloc (bE ⟨l.row⟩ 51);have R:(wr.alloc (bE ⟨l.row⟩ 51)).heap[wr.heap.size]?=bv (bE ⟨l.row⟩ 51 (0,0)):=cb _ _;have Q:=λu (t:bH [] (wr.alloc (bE ⟨l.row⟩ 51)) u)=>Ji l.ag0 id l.Xi l.Xh l.Xj D.Xk u (D.ag0.u (n.t t));obtain⟨aL,H,a5⟩:=lh3 Q (T.t n) E;clear D K x b9 L Q T y n;have p0:=cP 0 l.id R;have m:=cP 1 l.ag1 R;have aa:=cP 15 (bw l.Xi l.Xh l.Xj) R;have C:=lh R;clear R;generalize a9:l.row=ad at *;clear a9;go_upto_region 4 with (first
   |(refine ca rfl 51 _ rfl _ _ rfl _ _ N underlying51 rfl O ?_)
   |(refine bU rfl 51 _ _ rfl rfl rfl Y ?_))
  clear Y aw N O;generalize wr.alloc (bE ⟨ad⟩ 51)=V,wr.heap.size=b at *;have ac:(l.ag1=2/\∃j:Nat,Cf l.ag0 id 0=bv j)\/kE (agY.drop (k+1)) id=kE agY id:=by
   have e:=G.o;by_cases a1:l.ag1=2
   .rw [aG a1]at e;cases c:Cf l.ag0 id 0 with
    |some j=>exact .inl ⟨a1,j,rfl⟩
    |none=>rw [c]at e;exact .inr e.symm
   rw [aF a1]at e;exact .inr e.symm
  have A:=lh ac;clear ac;have X:Cf l.ag0 id 0=bt->Uo l.ag0 id=-1:=λh=>by unfold Uo;rw [h]
  have a3:=lh X;clear X;have af:∀j:Nat,l.ag1=2->Cf l.ag0 id 0=bv j->kE agY id=bv (l.id,j)/\Uo l.ag0 id=(j:Int):=λj e I=>⟨by have J:=G.o;rw [aG e,I]at J;exact J,by unfold Uo;rw [I]⟩;have a2:=lh af;clear af;go_upto_region 5 with (go_at_call 239;refine mR (aL.o _ (tR V)) λw5 Z=>?_)
  have s:=(ae.1 C.o).1;have p0:=((bY Z).1 b 0 s).t p0;have m:=((bY Z).1 b 1 s).t m;have a8:=lh (H.o.t Z);clear aa Z s C H aL;by_cases a1:l.ag1=2
  .cases c:Cf l.ag0 id 0 with
   |some j=>
    obtain⟨F,i⟩:=a2.o j a1 c;rw [a1]at m;rw [i];have a0:=lh F;clear F i c a1;(go_wp2_with fail);exact ag (v:=.tuple #[l.id,j,bA cg]) (by simp [results,results188]) rfl ⟨by rw [a0.o];rfl,a5.o.t a8.o⟩
   |none=>
    have i:=a3.o c;have a6:=lh (A.o.resolve_left λh=>by obtain⟨_,j,S⟩:=h;rw [c]at S;cases S);rw [a1]at m;rw [i];clear i c a1;go_wp2;go_roundw;case rel=>exact⟨k+1,by omega,by go_num,a8.o,a6.o⟩
    simp [ci];omega
  have a6:=lh (A.o.resolve_left λh=>a1 h.1);generalize Uo l.ag0 id=z at *;go_wp2;go_roundw;case rel=>exact⟨k+1,gn,by go_num,a8.o,a6.o⟩
  simp [ci];omega
 obtain rfl:k=f:=gn
 have a4:=lh (show kE agY id=bt by rw [<-P.o,List.drop_of_length_le pY];rfl);go_wp2_with fail
 exact ag (v:=.tuple #[(0:Int),(0:Int),bA cf]) (by simp [results,results188]) rfl ⟨by rw [a4.o];rfl,y⟩
