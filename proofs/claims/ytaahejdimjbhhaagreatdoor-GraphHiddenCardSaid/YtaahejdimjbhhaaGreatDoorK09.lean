import Derived.Test.YtaahejdimjbhhaaGreatDoorK08
set_option maxRecDepth 100000
set_option maxHeartbeats 0
set_option linter.all false
namespace Go.Proofs.YtaahejdimjbhhaaGreatDoor
open Tryz Go.RowKit Go.Den
open Go.Value renaming slice->bF,int->bL,agg->bM,pointer->bP
open Option renaming none->bR,some->bS
open Go.Obj renaming cells->bT
open Go.Proofs.Tryz renaming zeroCells80->bX,prog->ca,underlying80->cb,underlying181->cc
open Go renaming heap_alloc_new->cd,World->ce,run_loadVar_row->cf,Value->cg,Addr->ch,run_loadAt_mid->ci,Calls->cj,zero_of_info->ck,loadVar->cl
open Go.RowKit renaming intOf->cm,wrap64->cn
open Bool renaming false->co,true->cp
theorem JI.setCell{w:ce}{base:Nat}{v:cg}{a:List dC}(h:JI w base v a)(c i:Nat)(b:c<base)(x:cg): JI (w.setCell ⟨c,i,bR⟩ x) base v a:=
 ⟨h.1,h.2.1,h.2.2.keep λg d=>by
  have:=(h.2.2.lt g d).1;simp only [World.setCell,au];rw [aF gn]⟩
theorem yV(u:ce)(b:Obj)(i:Nat): (u.alloc b).heap[i]?=if i=u.heap.size then bS b else u.heap[i]?:=by
 by_cases h:i=u.heap.size
 .rw [aG h,h];exact cd u b
 rw [aF h];show (u.heap.push b)[i]?=_;rw [Array.getElem?_push,aF h]
def acB(x y:Int)(a:List Int): List dC:=if oO (fG a)=cp then [] else [⟨x,y,fG a⟩]
theorem SV(ao:List dC)(A:Option ch)(n cap:Nat)(hn:n<=1024)(x y:Int)(f:List Int)(ac:jo f)(w:ce)(h:dB w A n ao):
  cj ca 106 #[bM #[bF A n cap],bM #[x,y],tv f] w λe w'=>(∃A' n' bt bp,e=.returned (bM #[bF A' n' bt])/\dB w' A' n' bp/\(n=0->bp=acB x y f))/\bH [] w w':=by
 have aM:Hid (acB x y f=if oO (fG f)=cp then [] else [⟨x,y,fG f⟩]):=lh rfl;have b3:=D9 f ac.1;have ba:=GV (fG f) (xu ac).1;have a4:=xu ac;have hA:1<=n->∃g o,A=bS ⟨g,o,bR⟩/\∀w',bH [] w w'->∀j t,ao[j]?=bS t->jo t.px/\w'.rangeAt g (o+j*258) t.row:=λh1=>h.get h1;have hl:=h.1;have ay:(f.map (Value.int .u8)).length=256:=by rw [aJ,ac.1]
 obtain⟨W,hW⟩:=eX (((((w.alloc (bT #[bF A n cap] 49)).alloc (bT #[x,y] 24)).alloc (bT ⟨f.map (Value.int .u8)⟩ 80)).alloc (bT #[bF bR 0 0] 49)).alloc (bT #[bF bR 0 0] 49));have T0:bH [] w W:=hW▸((((((tR w).a _).a _).a _).a _).a _);have bA:W.heap.size=w.heap.size+5:=od
 have b6:=jM hW;have b7:=jL hW;have ap:=jI hW;have b8:=kM hW;have b9:=kL hW;have bd:=cf (P:=ca) W (w.heap.size+2) 80 80 ⟨f.map (Value.int .u8)⟩ (0,0) _ ap cb rfl qb;have bj:∀u,bH [] W u->(Instr.storeAt 80 (bP (bS ⟨w+2,0,bR⟩)) (bM ⟨(fG f).map (Value.int .u8)⟩)).run ca u=.ok () (u.setRow (w+2) ⟨(fG f).map (Value.int .u8)⟩):=λu T=>
  jV (ty:=80) ((T.old _ gn lz).t ap) pq (by show (f.map (Value.int .u8)).length=((fG f).map (Value.int .u8)).length;rw [ay,aJ,a4.1]) lW
 have b4:∀u,bH [] W u->lM w (u.setRow (w+2) ⟨(fG f).map (Value.int .u8)⟩) A n cap x y (fG f) (bF bR 0 0) []:=λu T=>by
  have an:∀i,i<5->u.heap[w.heap.size+i]?=W.heap[w.heap.size+i]?:=λi hi=>T.old _ gn lz;have aq:∀g,g≠w.heap.size+2->(u.setRow (w+2) ⟨(fG f).map (Value.int .u8)⟩).heap[g]?=u.heap[g]?:=λg hg=>by simp only [World.setRow,au,Ne.symm hg,if_false]
  refine⟨(T0.t T).setRow _ (.inr gn),?_,?_,?_,?_,?_,lz,jU _ _ _⟩
  .exact (aq _ gn).t ((an 0 gn).t b6)
  .exact (aq _ gn).t ((an 1 gn).t b7)
  .simp only [World.setRow,au,if_true,(an 2 gn).t ap];rfl
  .exact (aq _ gn).t ((an 3 gn).t b8)
  exact (aq _ gn).t ((an 4 gn).t b9)
 have bf:∀u v ts,lM w u A n cap x y (fG f) v ts->(cl 80 ⟨w+2,0,bR⟩).run ca u=.ok (bM ⟨(fG f).map (Value.int .u8)⟩) u:=λu v ts h=>
  cf (P:=ca) u (w.heap.size+2) 80 80 ⟨(fG f).map (Value.int .u8)⟩ (0,0) _ h.h2 cb rfl pq
 have bb:=λu=>Fa x y (fG f) a4.1 u;obtain⟨HA,HN,aL,aR,aw,bs,br,ar⟩:=lh8 hA hl b3 ba a4 bj b4 bf;have aE:=lh bb;unfold tv at aL aR;unfold tv;clear hA hl h b3 ba a4 bj b4 bf bb b6 b7 ap b8 b9 ay ac;generalize (⟨f.map (Value.int .u8)⟩:Array cg)=c0,bw:fG f=l at *;clear bw;generalize bc:(⟨l.map (Value.int .u8)⟩:Array cg)=c1 at *;have bx:=lh bc;clear bc;go_enter func106,ntmps106;go_upto_region 2 with (fail)
 rw [show w.heap.size+1+1=w.heap.size+2 from rfl,show w.heap.size+2+1=w.heap.size+3 from rfl,show w.heap.size+3+1=w.heap.size+4 from rfl,<-hW];clear hW;go_upto_region 3 with (first
  |(refine fD rfl 80 (.tmp 5) rfl rfl bd ?_)
  |(go_at_call 164;refine mR (aL.o _) λw1 bk=>?_)
  |(refine bU rfl 80 (.tmp 5) (.tmp 13) rfl rfl rfl (bs.o _ bk) ?_))
 have P1:=br.o _ bk;clear bd;generalize w1.setRow (w+2) c1=V at *;have be:=ar.o _ _ _ P1;go_upto_region 5 with (first
  |(refine fD rfl 80 (.tmp 5) rfl rfl be ?_)
  |(go_at_call 162;refine mR (aR.o _) λw2 bl=>?_))
 have z:=P1.drawn bl;clear P1 be bl;generalize oO l=bz at *;go_wp2_with fail
 go_loopw [9,10] (λs9 s10 wr=>∃(b:Bool) (k:Nat) (v:cg) (J:List dC),k<=n/\s9=.bool b/\s10=k/\J.length<=2*k/\(k=0->b=bz/\J=[])/\lM w wr A n cap x y l v J) (λ_ s10 _=>n-(cm s10).toNat);case atStart=>exact⟨bz,0,_,[],gn,rfl,rfl,lz,λ_=>⟨rfl,rfl⟩,z⟩
 clear z;obtain⟨b,k,v,J,hk,rfl,rfl,bE,hz,P⟩:=hrel;replace hz:=lh hz;obtain⟨B,C,D,c3,c4,E,N⟩:=P.cells;by_cases bB:k<n
 .obtain⟨g,o,rfl,hR⟩:=HA.o gn;have bh:k<ao.length:=by have:=HN.o;omega
  obtain⟨t,ht⟩:∃t,ao[k]?=bS t:=⟨ao[k],by simp [bh]⟩;have av:=λw' T=>hR w' T k t ht;obtain⟨ok,L⟩:=av wr P.t;have d0:wr.cell? ⟨g,o+k*258,bR⟩=bS (bL .i64 t.x):=by simpa using L 0 _ rfl
  have d1:wr.cell? ⟨g,o+k*258+1,bR⟩=bS (bL .i64 t.y):=L 1 _ rfl;have HR:=lh av;have HT:=lh ok;have b0:(0:Int)<=(k:Int):=gn
  have b1:(k:Int)<(n:Int):=gn
  clear hR av L ht bh ok;have c:=lh P;clear P;generalize bm:t.x=s,bo:t.y=ty at *;have HX:=lh bm;have HY:=lh bo;clear bm bo;cases b with
  |true=>
   (go_upto_region 8 with (fail));go_quiet (fail)
   have TV:=(tR wr).drawn nq;have P:=c.o.drawn TV;have TV:bH [] wr (wr.drewN nq):=TV;have P:lM w (wr.drewN nq) (bS ⟨g,o,bR⟩) n cap x y l v J:=P;generalize wr.drewN nq=V at *;clear c TV B C D c3 c4 E N d0 d1;obtain⟨B,C,D,c3,c4,E,N⟩:=P.cells;have L:=(HR.o V P.t).2;have d0:V.cell? ⟨g,o+k*258,bR⟩=bS (bL .i64 s):=pE;have d1:V.cell? ⟨g,o+k*258+1,bR⟩=bS (bL .i64 ty):=qx;clear L;have c:=lh P;clear P;(go_upto_region 11 with (fail));by_cases Q:s=x/\ty=y
   .obtain⟨rfl,rfl⟩:=Q;go_quiet (fail)
    have P:lM w (V.drewN nq) (bS ⟨g,o,bR⟩) n cap s ty l v (J):=c.o.drawn ((tR V).drawn nq);go_wp2;go_roundw;case rel=>exact⟨cp,k+1,_,_,gn,rfl,by go_num,by (try simp only [aO,List.length_singleton]);omega,λh=>absurd h gn,P⟩
    simp [cm];omega
   have aa:s=x->¬ty=y:=λa b=>Q ⟨a,b⟩;clear Q;by_cases h1:s=x;have h2:=aa h1;all_goals
    go_quiet (fail)
    have P:lM w (V.drewN nq) (bS ⟨g,o,bR⟩) n cap x y l v (J):=c.o.drawn ((tR V).drawn nq);generalize V.drewN nq=U at *;clear B C D c3 c4 E N d0 d1;(go_upto_region 12 with (fail));have a1:∀q∈dI v,w.heap.size+5<=q:=λq S=>(P.own.2.2.lt q S).1;have Z:=lh a1;have b5:=P.lt;obtain⟨B,C,D,c3,c4,E,N⟩:=P.cells;have D0:Hid (∀u,bH (dI v) U u->u.cell? ⟨w,0,bR⟩=bS (bF (bS ⟨g,o,bR⟩) n cap)):=lh λu T=>ng
    have D1:Hid (∀u,bH (dI v) U u->u.cell? ⟨w+4,0,bR⟩=bS v):=lh λu T=>nf
    have a5:Hid (∀u,bH (dI v) U u->(Instr.loadAt 181 (bP (bS ⟨g,o+k*258,bR⟩))).run ca u=.ok (bM ⟨t.row⟩) u):=lh λu T=>ci u _ _ 181 _ _ (HR.o _ (fH P.t T (λq S=>sh))).2 cc rfl oQ;have c:=lh P;have a7:=lh (jA HT.o);clear P B C D c3 c4 E N a1;refine cu.start (λu=>bH (dI v) U u) 10 lB ?_;have M:=(bH.refl (dI v) U).drawn 1;have P:lM w U.drew (bS ⟨g,o,bR⟩) n cap x y l v (J):=c.o.drawn ((tR U).drawn 1);change bH (dI v) U U.drew at M;generalize U.drew=Y at *;have c:=lh P;clear P;refine fK 0 ?_;refine Xy 1 v (λw' F=>D1.out _ F) ?_;refine fK 2 ?_;refine Xy 3 (bF (bS ⟨g,o,bR⟩) n cap) (λw' F=>D0.out _ F) ?_;refine fE 4 k ?_;refine fK 5 ?_;refine Xz 6 (bM ⟨t.row⟩) (λw' F=>a5.o w' F) ?_;obtain⟨v2,u2,ad,z,O,a2,a3⟩:=c.o.app t HT.o oE;obtain⟨A3,n3,b2,rfl,_⟩:=z.own.at;refine eH 7 λK m=>?_;refine bZ (d:=bS 59) rfl (dV (y:=bM ⟨t.row⟩) rfl rfl (nN a7.o Y)) ?_;refine m _ _ (λ_=>M.a _) ?_;clear m K;(try go_frame);refine eH 8 λK m=>?_;refine bZ (d:=bS 60) rfl (dL (v:=v) (y:=bF (bS ⟨Y,0,bR⟩) 1 1) _ _ 47 rfl rfl rfl ad) ?_;refine m _ _ (λ_=>M.t O) ?_;clear m K;(try go_frame);refine eH 9 λK m=>?_;refine bZ (d:=bS 61) rfl (v:=bP (bS ⟨w+4,0,bR⟩)) (u:=u2) nJ ?_;refine m _ _ (λ_=>M.t O) ?_;clear m K;(try go_frame);refine Yo ?_;go_wp2;go_roundw;case rel=>exact⟨cp,k+1,_,_,gn,rfl,by go_num,by (try simp only [aO,List.length_singleton]);omega,λh=>absurd h gn,z⟩
    case measure=>simp [cm];omega
  |false=>
   have bq:=lh (Iy x y s ty);have TR:=(tR wr).drawn 1;have HS:Hid (∀w',bH [] wr w'->(w'.cell? ⟨w+1,0,bR⟩=bS (bL .i64 x)/\w'.cell? ⟨w+1,1,bR⟩=bS (bL .i64 y)/\w'.cell? ⟨w,0,bR⟩=bS (bF (bS ⟨g,o,bR⟩) n cap)/\w'.cell? ⟨g,o+k*258,bR⟩=bS (bL .i64 s)/\w'.cell? ⟨g,o+k*258+1,bR⟩=bS (bL .i64 ty))):=lh λw' T=>by
    have am:∀{b i:Nat} {v:cg},wr.cell? ⟨b,i,bR⟩=bS v->w'.cell? ⟨b,i,bR⟩=bS v:=λh=>oA
    exact⟨am C,am D,am B,am d0,am d1⟩
   (go_upto_region 8 with (fail));clear B C D c3 c4 E N d0 d1;generalize (decide (y<ty)||decide (y=ty)&&decide (x<s))=q at *;go_region_held3 (λw'=>w'.cell? ⟨w+1,0,bR⟩=bS (bL .i64 x)/\w'.cell? ⟨w+1,1,bR⟩=bS (bL .i64 y)/\w'.cell? ⟨w,0,bR⟩=bS (bF (bS ⟨g,o,bR⟩) n cap)/\w'.cell? ⟨g,o+k*258,bR⟩=bS (bL .i64 s)/\w'.cell? ⟨g,o+k*258+1,bR⟩=bS (bL .i64 ty)) (first|exact HS.o _ TR|exact HS.o _ (TR.t aD)) (first
    |(go_at_call 165;refine mR (bq.o _) λw5 aD=>?_))
   have P:=c.o.drawn (TR.t aD);clear c HS aD TR;generalize w5=V at *;cases q with
   |false=>
    obtain⟨B,C,D,c3,c4,E,N⟩:=P.cells;have L:=(HR.o V P.t).2;have d0:V.cell? ⟨g,o+k*258,bR⟩=bS (bL .i64 s):=pE;have d1:V.cell? ⟨g,o+k*258+1,bR⟩=bS (bL .i64 ty):=qx;clear L;have c:=lh P;clear P;(go_upto_region 11 with (fail));by_cases Q:s=x/\ty=y
    .obtain⟨rfl,rfl⟩:=Q;go_quiet (fail)
     have P:lM w (V.drewN nq) (bS ⟨g,o,bR⟩) n cap s ty l v (J):=c.o.drawn ((tR V).drawn nq);go_wp2;go_roundw;case rel=>exact⟨co,k+1,_,_,gn,rfl,by go_num,by (try simp only [aO,List.length_singleton]);omega,λh=>absurd h gn,P⟩
     simp [cm];omega
    have aa:s=x->¬ty=y:=λa b=>Q ⟨a,b⟩;clear Q;by_cases h1:s=x;have h2:=aa h1;all_goals
     go_quiet (fail)
     have P:lM w (V.drewN nq) (bS ⟨g,o,bR⟩) n cap x y l v (J):=c.o.drawn ((tR V).drawn nq);generalize V.drewN nq=U at *;clear B C D c3 c4 E N d0 d1;(go_upto_region 12 with (fail));have a1:∀q∈dI v,w.heap.size+5<=q:=λq S=>(P.own.2.2.lt q S).1;have Z:=lh a1;have b5:=P.lt;obtain⟨B,C,D,c3,c4,E,N⟩:=P.cells;have D0:Hid (∀u,bH (dI v) U u->u.cell? ⟨w,0,bR⟩=bS (bF (bS ⟨g,o,bR⟩) n cap)):=lh λu T=>ng
     have D1:Hid (∀u,bH (dI v) U u->u.cell? ⟨w+4,0,bR⟩=bS v):=lh λu T=>nf
     have a5:Hid (∀u,bH (dI v) U u->(Instr.loadAt 181 (bP (bS ⟨g,o+k*258,bR⟩))).run ca u=.ok (bM ⟨t.row⟩) u):=lh λu T=>ci u _ _ 181 _ _ (HR.o _ (fH P.t T (λq S=>sh))).2 cc rfl oQ;have c:=lh P;have a7:=lh (jA HT.o);clear P B C D c3 c4 E N a1;refine cu.start (λu=>bH (dI v) U u) 10 lB ?_;have M:=(bH.refl (dI v) U).drawn 1;have P:lM w U.drew (bS ⟨g,o,bR⟩) n cap x y l v (J):=c.o.drawn ((tR U).drawn 1);change bH (dI v) U U.drew at M;generalize U.drew=Y at *;have c:=lh P;clear P;refine fK 0 ?_;refine Xy 1 v (λw' F=>D1.out _ F) ?_;refine fK 2 ?_;refine Xy 3 (bF (bS ⟨g,o,bR⟩) n cap) (λw' F=>D0.out _ F) ?_;refine fE 4 k ?_;refine fK 5 ?_;refine Xz 6 (bM ⟨t.row⟩) (λw' F=>a5.o w' F) ?_;obtain⟨v2,u2,ad,z,O,a2,a3⟩:=c.o.app t HT.o oE;obtain⟨A3,n3,b2,rfl,_⟩:=z.own.at;refine eH 7 λK m=>?_;refine bZ (d:=bS 59) rfl (dV (y:=bM ⟨t.row⟩) rfl rfl (nN a7.o Y)) ?_;refine m _ _ (λ_=>M.a _) ?_;clear m K;(try go_frame);refine eH 8 λK m=>?_;refine bZ (d:=bS 60) rfl (dL (v:=v) (y:=bF (bS ⟨Y,0,bR⟩) 1 1) _ _ 47 rfl rfl rfl ad) ?_;refine m _ _ (λ_=>M.t O) ?_;clear m K;(try go_frame);refine eH 9 λK m=>?_;refine bZ (d:=bS 61) rfl (v:=bP (bS ⟨w+4,0,bR⟩)) (u:=u2) nJ ?_;refine m _ _ (λ_=>M.t O) ?_;clear m K;(try go_frame);refine Yo ?_;go_wp2;go_roundw;case rel=>exact⟨co,k+1,_,_,gn,rfl,by go_num,by (try simp only [aO,List.length_singleton]);omega,λh=>absurd h gn,z⟩
     case measure=>simp [cm];omega
   |true=>
    obtain⟨B,C,D,c3,c4,E,N⟩:=P.cells;have ab:=ar.o _ _ _ P;have a9:=aE.o V;have a8:=lh (jA (t:=⟨x,y,l⟩) aw.o);obtain⟨v2,u2,ad,z,O,a2,a3⟩:=P.app ⟨x,y,l⟩ aw.o gn;obtain⟨G,I,H,rfl,_⟩:=z.own.at;have af:=nN a8.o V;have a6:=lh z;clear P z O;go_upto_region 10 with (first
     |(refine fD rfl 80 (.tmp 5) rfl rfl ab ?_;try go_frame)
     |(refine bQ rfl (oN (p:=bM #[x,y]) (q:=bM c1) rfl rfl rfl a9) ?_;try go_frame)
     |(refine bQ rfl (dV (y:=bM ⟨dC.row ⟨x,y,l⟩⟩) rfl rfl af) ?_;try go_frame)
     |(refine bQ rfl (dL (v:=v) (y:=bF (bS ⟨V,0,bR⟩) 1 1) _ _ 47 rfl rfl rfl ad) ?_;try go_frame))
    have P:lM w (u2.setCell ⟨w+4,0,bR⟩ (bF G I H)) (bS ⟨g,o,bR⟩) n cap x y l (bF G I H) (J++[⟨x,y,l⟩]):=a6.o;clear a2 a3 B C D c3 c4 E N ab a9 af ad a6 a8;generalize u2.setCell ⟨w+4,0,bR⟩ (bF G I H)=V2 at *;obtain⟨B,C,D,c3,c4,E,N⟩:=P.cells;have L:=(HR.o V2 P.t).2;have d0:V2.cell? ⟨g,o+k*258,bR⟩=bS (bL .i64 s):=pE;have d1:V2.cell? ⟨g,o+k*258+1,bR⟩=bS (bL .i64 ty):=qx;clear L;have c:=lh P;clear P;(go_upto_region 11 with (fail));by_cases Q:s=x/\ty=y
    .obtain⟨rfl,rfl⟩:=Q;go_quiet (fail)
     have P:lM w (V2.drewN nq) (bS ⟨g,o,bR⟩) n cap s ty l (bF G I H) (J++[⟨s,ty,l⟩]):=c.o.drawn ((tR V2).drawn nq);go_wp2;go_roundw;case rel=>exact⟨cp,k+1,_,_,gn,rfl,by go_num,by (try simp only [aO,List.length_singleton]);omega,λh=>absurd h gn,P⟩
     simp [cm];omega
    have aa:s=x->¬ty=y:=λa b=>Q ⟨a,b⟩;clear Q;by_cases h1:s=x;have h2:=aa h1;all_goals
     go_quiet (fail)
     have P:lM w (V2.drewN nq) (bS ⟨g,o,bR⟩) n cap x y l (bF G I H) (J++[⟨x,y,l⟩]):=c.o.drawn ((tR V2).drawn nq);generalize V2.drewN nq=U at *;clear B C D c3 c4 E N d0 d1;(go_upto_region 12 with (fail));have a1:∀q∈dI (bF G I H),w.heap.size+5<=q:=λq S=>(P.own.2.2.lt q S).1;have Z:=lh a1;have b5:=P.lt;obtain⟨B,C,D,c3,c4,E,N⟩:=P.cells;have D0:Hid (∀u,bH (dI (bF G I H)) U u->u.cell? ⟨w,0,bR⟩=bS (bF (bS ⟨g,o,bR⟩) n cap)):=lh λu T=>ng
     have D1:Hid (∀u,bH (dI (bF G I H)) U u->u.cell? ⟨w+4,0,bR⟩=bS (bF G I H)):=lh λu T=>nf
     have a5:Hid (∀u,bH (dI (bF G I H)) U u->(Instr.loadAt 181 (bP (bS ⟨g,o+k*258,bR⟩))).run ca u=.ok (bM ⟨t.row⟩) u):=lh λu T=>ci u _ _ 181 _ _ (HR.o _ (fH P.t T (λq S=>sh))).2 cc rfl oQ;have c:=lh P;have a7:=lh (jA HT.o);clear P B C D c3 c4 E N a1;refine cu.start (λu=>bH (dI (bF G I H)) U u) 10 lB ?_;have M:=(bH.refl (dI (bF G I H)) U).drawn 1;have P:lM w U.drew (bS ⟨g,o,bR⟩) n cap x y l (bF G I H) (J++[⟨x,y,l⟩]):=c.o.drawn ((tR U).drawn 1);change bH (dI (bF G I H)) U U.drew at M;generalize U.drew=Y at *;have c:=lh P;clear P;refine fK 0 ?_;refine Xy 1 ((bF G I H)) (λw' F=>D1.out _ F) ?_;refine fK 2 ?_;refine Xy 3 (bF (bS ⟨g,o,bR⟩) n cap) (λw' F=>D0.out _ F) ?_;refine fE 4 k ?_;refine fK 5 ?_;refine Xz 6 (bM ⟨t.row⟩) (λw' F=>a5.o w' F) ?_;obtain⟨v2,u2,ad,z,O,a2,a3⟩:=c.o.app t HT.o oE;obtain⟨A3,n3,b2,rfl,_⟩:=z.own.at;refine eH 7 λK m=>?_;refine bZ (d:=bS 59) rfl (dV (y:=bM ⟨t.row⟩) rfl rfl (nN a7.o Y)) ?_;refine m _ _ (λ_=>M.a _) ?_;clear m K;(try go_frame);refine eH 8 λK m=>?_;refine bZ (d:=bS 60) rfl (dL (v:=(bF G I H)) (y:=bF (bS ⟨Y,0,bR⟩) 1 1) _ _ 47 rfl rfl rfl ad) ?_;refine m _ _ (λ_=>M.t O) ?_;clear m K;(try go_frame);refine eH 9 λK m=>?_;refine bZ (d:=bS 61) rfl (v:=bP (bS ⟨w+4,0,bR⟩)) (u:=u2) nJ ?_;refine m _ _ (λ_=>M.t O) ?_;clear m K;(try go_frame);refine Yo ?_;go_wp2;go_roundw;case rel=>exact⟨cp,k+1,_,_,gn,rfl,by go_num,by (try simp only [aO,List.length_singleton]);omega,λh=>absurd h gn,z⟩
     case measure=>simp [cm];omega
 obtain rfl:n=k:=gn
 cases b with
 |true=>
  obtain⟨X,n9,a0,rfl,_⟩:=P.own.at;have c:=lh P;clear P;go_wp2_with fail
  have P:=c.o;have hT:=(P.own.setCell (w.heap.size+3) 0 gn (bF X n9 a0)).at;obtain⟨A8,n8,bv,h8,hT⟩:=hT;injection h8 with e1 e2 e3;subst e1;subst e2;subst e3;have ax:=P.t.setCell (a:=⟨w+3,0,bR⟩) (bF X n9 a0) (.inr lE);exact ag (v:=bM #[bF X n9 a0]) sW rfl ⟨⟨_,_,_,_,rfl,hT,λh0=>qZ⟩,ax⟩
 |false=>
  have ab:=ar.o _ _ _ P;have a9:=aE.o wr;have a8:=lh (jA (t:=⟨x,y,l⟩) aw.o);obtain⟨v2,u2,ad,z,O,a2,a3⟩:=P.app ⟨x,y,l⟩ aw.o gn;obtain⟨X,n9,a0,rfl,_⟩:=z.own.at;have af:=nN a8.o wr;have a6:=lh z;clear P z O;go_upto_region 15 with (first
   |(refine fD rfl 80 (.tmp 5) rfl rfl ab ?_;try go_frame)
   |(refine bQ rfl (oN (p:=bM #[x,y]) (q:=bM c1) rfl rfl rfl a9) ?_;try go_frame)
   |(refine bQ rfl (dV (y:=bM ⟨dC.row ⟨x,y,l⟩⟩) rfl rfl af) ?_;try go_frame)
   |(refine bQ rfl (dL (v:=v) (y:=bF (bS ⟨wr,0,bR⟩) 1 1) _ _ 47 rfl rfl rfl ad) ?_;try go_frame))
  have P:lM w (u2.setCell ⟨w+4,0,bR⟩ (bF X n9 a0)) A n cap x y l (bF X n9 a0) (J++[⟨x,y,l⟩]):=a6.o;clear a2 a3 B C D c3 c4 E N ab a9 af ad a6 a8;generalize u2.setCell ⟨w+4,0,bR⟩ (bF X n9 a0)=V2 at *;obtain⟨B,C,D,c3,c4,E,N⟩:=P.cells;have c:=lh P;clear P;go_wp2_with fail
  have P:=c.o;have hT:=(P.own.setCell (w.heap.size+3) 0 gn (bF X n9 a0)).at;obtain⟨A8,n8,bv,h8,hT⟩:=hT;injection h8 with e1 e2 e3;subst e1;subst e2;subst e3;have ax:=P.t.setCell (a:=⟨w+3,0,bR⟩) (bF X n9 a0) (.inr lE);exact ag (v:=bM #[bF X n9 a0]) sW rfl ⟨⟨_,_,_,_,rfl,hT,λh0=>qZ⟩,ax⟩
theorem VC(c:List Int)(h:jo c)(i:Nat)(m:i<64)(r g b a:Int)(j:0<=r/\r<=255)(f:0<=g/\g<=255)(d:0<=b/\b<=255)(C:0<=a/\a<=255): jo (c.take (4*i)++[r,g,b,a]++c.drop (4*i+4)):=by
 refine⟨?_,λv e=>?_⟩
 .simp [h.1];omega
 rcases aV.1 e with e|e
 .rcases aV.1 e with e|e
  .exact h.2 v (List.mem_of_mem_take e)
  simp only [aS,aW,or_false]at e;rcases e with rfl|rfl|rfl|rfl<;>assumption
 exact h.2 v (List.mem_of_mem_drop e)
def acO(c:List Int)(x y r g b a:Int): List Int:=c.take (4*(8*y+x).toNat)++[r,g,b,a]++c.drop (4*(8*y+x).toNat+4)
theorem QZ(f:List Int)(h:jo f)(x y r g b a:Int)(hr:0<=r/\r<=255)(hg:0<=g/\g<=255)(hb:0<=b/\b<=255)(ha:0<=a/\a<=255)(w:ce):
  cj ca 46 #[tv f,x,y,bM #[bL .u8 r,bL .u8 g,bL .u8 b,bL .u8 a]] w λe w'=>(∃O,jo O/\e=.returned (tv O)/\((0<=x/\x<8)/\0<=y/\y<8->O=acO f x y r g b a))/\bH [] w w':=by
 have R:∀u:ce,(Instr.alloc 80 cp (.tuple #[])).run ca u=.ok (bP (bS ⟨u,0,bR⟩)) (u.alloc (bT bX 80)):=λu=>oi
 have K:(f.map (Value.int .u8)).length=256:=by rw [aJ,h.1]
 obtain⟨W,m⟩:=eX (((w.alloc (bT ⟨f.map (Value.int .u8)⟩ 80)).alloc (bT #[bL .u8 r,bL .u8 g,bL .u8 b,bL .u8 a] 45)).alloc (bT bX 80));have Q:bH [] w W:=m▸((((tR w).a _).a _).a _);have a1:W.heap.size=w.heap.size+3:=mq
 have l:=dJ m;have b7:=Z5 m;have ap:=iR m;have p0:W.cell? ⟨w+1,0,bR⟩=bS (bL .u8 r):=nA
 have p1:W.cell? ⟨w+1,1,bR⟩=bS (bL .u8 g):=nA
 have p2:W.cell? ⟨w+1,2,bR⟩=bS (bL .u8 b):=nA
 have p3:W.cell? ⟨w+1,3,bR⟩=bS (bL .u8 a):=nA
 have A:=lh (Vx x y);have z:Hid (∀(u:ce) (d:List Int),bH [] w u->jo d->u.heap[w.heap.size]?=bS (bT ⟨d.map (Value.int .u8)⟩ 80 (0,0))->u.heap[w.heap.size+2]?=bS (bT bX 80 (0,0))->
   (cl 80 ⟨w,0,bR⟩).run ca u=.ok (bM ⟨d.map (Value.int .u8)⟩) u/\(Instr.storeAt 80 (bP (bS ⟨w+2,0,bR⟩)) (bM ⟨d.map (Value.int .u8)⟩)).run ca u=.ok () (u.setRow (w+2) ⟨d.map (Value.int .u8)⟩)/\
   (cl 80 ⟨w+2,0,bR⟩).run ca (u.setRow (w+2) ⟨d.map (Value.int .u8)⟩)=.ok (bM ⟨d.map (Value.int .u8)⟩) (u.setRow (w+2) ⟨d.map (Value.int .u8)⟩)/\bH [] w (u.setRow (w+2) ⟨d.map (Value.int .u8)⟩)):=lh λu d T D X B=>by
  have n:(prog.info? 80).map (·.size)=bS (⟨d.map (Value.int .u8)⟩:Array cg).size:=by rw [iE];show bS 256=bS (d.map (Value.int .u8)).length;rw [aJ,D.1]
  have a0:(u.setRow (w+2) ⟨d.map (Value.int .u8)⟩).heap[w.heap.size+2]?=bS (bT ⟨d.map (Value.int .u8)⟩ 80 (0,0)):=by simp only [World.setRow,au,if_true,B];rfl
  exact⟨cf (P:=ca) u w.heap.size 80 80 ⟨d.map (Value.int .u8)⟩ (0,0) _ X cb rfl n,
   jV (ty:=80) B n (by rw [<-QQ,vX];show 256=(d.map (Value.int .u8)).length;rw [aJ,D.1]) lW,
   cf (P:=ca) _ (w.heap.size+2) 80 80 ⟨d.map (Value.int .u8)⟩ (0,0) _ a0 cb rfl n,T.setRow _ (.inr gn)⟩
 unfold tv;by_cases J:(0<=x/\x<8)/\0<=y/\y<8
 .obtain⟨⟨Y,B⟩,Z,h4⟩:=J;have j:(decide (0<=x)&&decide (x<8)&&decide (0<=y)&&decide (y<8))=cp:=by simp [Y,B,Z,h4]
  rw [j]at A;clear j;obtain⟨i,n⟩:∃i:Nat,8*y+x=(i:Int):=⟨(8*y+x).toNat,gn⟩;have V:Hid (acO f x y r g b a=f.take (4*i)++[r,g,b,a]++f.drop (4*i+4)):=lh (by unfold acO;rw [show (8*y+x).toNat=i by omega]);have S:i<64:=gn
  have D:=xm (p:=[bL .u8 r,bL .u8 g,bL .u8 b,bL .u8 a]) (L:=f.map (Value.int .u8)) (L':=(f.take (4*i)++[r,g,b,a]++f.drop (4*i+4)).map (Value.int .u8)) l K rfl lW S (by simp [List.map_take,List.map_drop]);have M:=VC f h i S r g b a hr hg hb ha;have aq:∀q c,q≠w.heap.size->(W.setRow w c).heap[q]?=W.heap[q]?:=λq c j=>by simp only [World.setRow,au,Ne.symm j,if_false]
  obtain⟨G,I,N,C⟩:=z.o _ _ (Q.setRow _ (.inr (aQ _))) M (by simp only [World.setRow,au,if_true,l];rfl) ((aq _ _ gn).t ap);have H:=lh C;have aw:=lh M;have d0:IntKind.i64.wrap (8*y+x)=(i:Int):=by rw [n];simp [IntKind.wrap,IntKind.bits,IntKind.signed];omega
  clear h M C aq l b7 ap K z;generalize f.take (4*i)++[r,g,b,a]++f.drop (4*i+4)=d at *;generalize k:(⟨d.map (Value.int .u8)⟩:Array cg)=F at *;have E:=lh k;clear k;generalize (⟨f.map (Value.int .u8)⟩:Array cg)=c0 at *;go_enter func46,ntmps46;go_upto_region 1 with (fail)
  rw [show w.heap.size+1+1=w.heap.size+2 from rfl,<-m];clear m R;go_wp2_with (first
   |(go_at_call 107;refine mR (A.o _) λw1 s=>?_;rw [s];clear s)
   |(refine fD rfl 80 (.tmp 4) rfl rfl G ?_;try go_frame)
   |(refine sR D ?_)
   |(refine sR I ?_))
  refine ag (v:=bM F) ?_ rfl ⟨⟨_,aw.o,by rw [E.o],λ_=>V.o.symm⟩,H.o⟩;simp [results,results46,asAddr,N]
 have j:(decide (0<=x)&&decide (x<8)&&decide (0<=y)&&decide (y<8))=co:=lO
 rw [j]at A;clear j;obtain⟨G,I,N,C⟩:=z.o _ _ Q h l ap;obtain⟨H,aw,U⟩:=lh3 C h J;clear h C l b7 ap K z J;generalize k:(⟨f.map (Value.int .u8)⟩:Array cg)=F at *;have E:=lh k;clear k;go_enter func46,ntmps46;go_upto_region 1 with (fail)
 rw [show w.heap.size+1+1=w.heap.size+2 from rfl,<-m];clear m R;go_wp2_with (first
  |(go_at_call 107;refine mR (A.o _) λw1 s=>?_;rw [s];clear s)
  |(refine fD rfl 80 (.tmp 4) rfl rfl G ?_;try go_frame)
  |(refine sR I ?_))
 refine ag (v:=bM F) ?_ rfl ⟨⟨_,aw.o,by rw [E.o],λh=>absurd h U.o⟩,H.o⟩;simp [results,results46,asAddr,N]
def Thin(w:ce)(c:Nat): Prop:=∃b t d,w.heap[c]?=bS (bT b t d)/\b.size<=2
theorem Thin.setCell{w:ce}{c:Nat}(h:Thin w c)(i:Nat)(v:cg): Thin (w.setCell ⟨c,i,bR⟩ v) c:=by obtain⟨b,t,d,e,f⟩:=h;refine⟨b.setIfInBounds i v,t,d,?_,by simpa using f⟩;simp only [World.setCell,au,if_true,e];rfl
theorem dB.thin{w:ce}{A:Option ch}{n:Nat}{d:List dC}(h:dB w A n d){c:Nat}(m:Thin w c)(i:Nat)(v:cg): dB (w.setCell ⟨c,i,bR⟩ v) A n d:=by
 refine⟨h.1,λj t s=>?_⟩;obtain⟨a,g,o,f,b⟩:=h.2 j t s;refine⟨a,g,o,f,?_⟩;have p:g≠c:=by
  rintro rfl;obtain⟨y,ty,B,l,z⟩:=m;have q:2<t.row.length:=sK
  have:=b 2 _ (aB q);rw [aA _ _ _ _ _ _ l,Array.getElem?_eq_none gn]at this;cases this
 intro k u x;rw [<-b k u x];have e:(w.setCell ⟨c,i,bR⟩ v).heap[g]?=w.heap[g]?:=by simp only [World.setCell,au];rw [aF (Ne.symm p)]
 simp only [World.cell?,e]
inductive O1(w:ce)(G:List dC->Int->Prop): Ending->Prop where
 |mk (A:Option ch) (n cap:Nat) (ts:List dC) (E:Int) (h:dB w A n ts) (hg:G ts E):O1 w G (.returned (bM #[bF A n cap,bL .i64 E]))
theorem Q8(ao:List dC)(A:Option ch)(n cap:Nat)(x y:Int)(f:List Int)(ac:jo f)(w:ce)(h:dB w A n ao):
  cj ca 45 #[bM #[bF A n cap],bM #[bL .i64 x,bL .i64 y],tv f] w λe w'=>O1 w' (λs E=>n=0->(-8192<=x/\x<=8191)->(-8192<=y/\y<=8191)->s=acB x y f/\E=0) e/\bH [] w w':=by
 have C:=BL x y;have U:=λu (T:bH [] w u)=>PI ao A n cap u (h.u T);have V:=λ(s:List dC) N I a9 (hn:I<=1024) u (hT:dB u N I s)=>SV s N I a9 hn x y f ac u hT;have S:=Pi;have Q:(acB x y f).length<=1:=by unfold acB;split<;>simp
 have ay:(f.map (Value.int .u8)).length=256:=by rw [aJ,ac.1]
 obtain⟨W,m⟩:=eX ((((w.alloc (bT #[bF A n cap] 49)).alloc (bT #[bL .i64 x,bL .i64 y] 24)).alloc (bT ⟨f.map (Value.int .u8)⟩ 80)).alloc (bT #[bF bR 0 0,bL .i64 0] 54));have B:bH [] w W:=m▸(((((tR w).a _).a _).a _).a _);have am:W.heap.size=w.heap.size+4:=mq
 have a1:=iI m;have b7:=jk m;have ap:=jF m;have b8:=jX m;have q0:W.cell? ⟨w,0,bR⟩=bS (bF A n cap):=by rw [aA _ _ _ _ _ _ a1];rfl
 have q1:W.cell? ⟨w+1,0,bR⟩=bS (bL .i64 x):=nA
 have q2:W.cell? ⟨w+1,1,bR⟩=bS (bL .i64 y):=nA
 have z0:W.cell? ⟨w+3,0,bR⟩=bS (bF bR 0 0):=pe
 have z1:W.cell? ⟨w+3,1,bR⟩=bS (bL .i64 0):=pe
 have zf:∀i,W.frozen? ⟨w+3,i,bR⟩=co:=λi=>by simp [World.frozen?,b8]
 have ar:Hid (∀u,bH [] W u->(Instr.loadAt 80 (bP (bS ⟨w+2,0,bR⟩))).run ca u=.ok (tv f) u):=lh λu T=>
  cf (P:=ca) u (w.heap.size+2) 80 80 ⟨f.map (Value.int .u8)⟩ (0,0) _ ((T.old _ gn lz).t ap) cb rfl qb
 have R:Hid (∀u,bH [] W u->Thin u (w.heap.size+3)):=lh λu T=>⟨_,_,_,(T.old _ gn lz).t b8,lz⟩;generalize a2:(decide (-8192<=x)&&decide (x<=8191)&&decide (-8192<=y)&&decide (y<=8191))=q at C;have a7:=lh a2;clear a2;generalize acB x y f=PE at *;have aM:Hid (PE.length<=1):=lh Q;clear Q;obtain⟨O,a5,a6,a4⟩:=lh4 C U V S;unfold tv at *;clear h C U V S a1 b7 ap b8 ay ac;generalize (⟨f.map (Value.int .u8)⟩:Array cg)=c0 at *;go_enter func45,ntmps45;go_upto_region 1 with (fail)
 rw [show w.heap.size+1+1=w.heap.size+2 from rfl,show w.heap.size+2+1=w.heap.size+3 from rfl,<-m];clear m;cases q with
 |false=>
  go_upto_region 2 with (go_at_call 104;refine mR (O.o _) λJ aR=>?_)
  obtain⟨j,hf⟩:=bY aR;go_wp2_with fail
  have L:=tq j z0;have M:=tq j z1;exact ag (v:=bM #[bF bR 0 0,bL .i64 1]) sT rfl ⟨.mk _ _ _ [] _ (nX _) (λ_ hx H=>absurd a7.o (by simp [hx.1,hx.2,H.1,H.2])),((B.t aR).sc).sc⟩
 |true=>
  go_upto_region 3 with (go_at_call 104;refine mR (O.o _) λJ aR=>?_)
  have D0:Hid (∀u,bH [] W u->u.cell? ⟨w,0,bR⟩=bS (bF A n cap)):=lh λu T=>tD
  have D1:Hid (∀u,bH [] W u->u.cell? ⟨w+1,0,bR⟩=bS (bL .i64 x)):=lh λu T=>by rw [(bY T).1 _ _ (ai q1)];exact q1
  have D2:Hid (∀u,bH [] W u->u.cell? ⟨w+1,1,bR⟩=bS (bL .i64 y)):=lh λu T=>by rw [(bY T).1 _ _ (ai q2)];exact q2
  refine cu.start (λu=>bH [] W u) 6 lB ?_;have b:=aR.drawn 1;change bH [] W J.drew at b;generalize J.drew=Y at *;clear aR;refine Xy 0 (bM #[bF A n cap]) (λw' d=>D0.out _ d) ?_;refine fE 2 (bM #[bL .i64 x,bL .i64 y]) ?_ (j:=λw' d=>by have e1:=D1.out _ d;have e2:=D2.out _ d;go_simp);refine Xz 3 (bM c0) (λw' d=>ar.o w' d) ?_;refine eH 1 λK c=>?_;go_simp;refine (a5.o _ (B.t b)).mono ?_;rintro e w2 ⟨⟨A2,n2,aa,af,rfl,X,ad,aD⟩,a3⟩;replace aD:=lh aD;have b:=b.t a3;clear a3;refine gK c b ?_;clear c K
  refine eH 4 λK c=>?_;go_simp;refine (a6.o af A2 n2 aa ad _ X).mono ?_;rintro e w3 ⟨⟨A3,n3,b2,an,rfl,D,p⟩,aw⟩;replace p:=lh p;have b:=b.t aw;clear aw X;refine gK c b ?_;clear c K
  refine eH 5 λK c=>?_;go_simp;refine (a4.o A3 n3 b2 _).mono ?_;rintro e w4 ⟨he,G⟩;have b:=b.t G;have Z:=D.u G;obtain⟨g,k,l,z,E,rfl,a0,F⟩:∃g k l z E,e=.returned (bM #[bF g k l,bL .i64 E])/\dB w4 g k z/\(n2=0->z=PE/\E=0):=by
   rcases he with rfl|⟨ab,rfl⟩
   .exact⟨_,_,_,_,_,rfl,Z,λh=>⟨p.out h,rfl⟩⟩
   exact⟨_,_,_,[],_,rfl,nX _,λh=>absurd ab (by have h1:=D.1;rw [p.out h]at h1;have:=aM.o;omega)⟩
  replace F:=lh F;clear G D Z he;refine gK c b ?_;clear c K
  obtain⟨j,hf⟩:=bY b;have a8:=lh a0;clear a0;refine iZ λK c=>?_;have L:=tq j z0;have M:=tq j z1;go_simp;refine c _ _ ?_;clear c K;try go_frame
  go_wp2_with fail
  have ax:bH [] w ((w4.setCell ⟨w+3,0,bR⟩ (bF g k l)).setCell ⟨w+3,1,bR⟩ (bL .i64 E)):=((B.t b).sc).sc;refine ag (v:=bM #[bF g k l,bL .i64 E]) sT rfl ⟨.mk _ _ _ z _ ?_ (λh _ _=>F.out (aD.out h)),ax⟩;exact (a8.o.thin (R.o _ b) _ _).thin ((R.o _ b).setCell _ _) _ _
theorem Qi(ao:List dC)(A:Option ch)(n cap:Nat)(x y r g b a:Int)(hx:-4611686018427387904<=x/\x<=4611686018427387904)(hy:-4611686018427387904<=y/\y<=4611686018427387904)(hr:0<=r/\r<=255)(hg:0<=g/\g<=255)(hb:0<=b/\b<=255)(ha:0<=a/\a<=255)(p q:Int)(hp:iq x 8=p)(hq:iq y 8=q)(w:ce)(h:dB w A n ao):
  cj ca 14 #[bM #[bF A n cap],x,y,bM #[bL .u8 r,bL .u8 g,bL .u8 b,bL .u8 a]] w λe w'=>O1 w' (λts E=>n=0->(-8192<=p/\p<=8191)->(-8192<=q/\q<=8191)->((0<=IntKind.i64.wrap (x-IntKind.i64.wrap (8*p))/\IntKind.i64.wrap (x-IntKind.i64.wrap (8*p))<8)/\0<=IntKind.i64.wrap (y-IntKind.i64.wrap (8*q))/\IntKind.i64.wrap (y-IntKind.i64.wrap (8*q))<8)->ts=acB p q (acO (List.replicate 256 0) (IntKind.i64.wrap (x-IntKind.i64.wrap (8*p))) (IntKind.i64.wrap (y-IntKind.i64.wrap (8*q))) r g b a)/\E=0) e/\bH [] w w':=by
 have aL:∀u:ce,(Instr.alloc 80 cp (.tuple #[])).run ca u=.ok (bP (bS ⟨u,0,bR⟩)) (u.alloc (bT bX 80)):=λu=>oi
 have a7:=SS x y hx hy;rw [hp,hq]at a7;have ap:=λu (T:bH [] w u)=>PI ao A n cap u (h.u T);have aD:=λ(ts:List dC) A' n' b5 (hn:n'<=1024) (p q:Int) u (hT:dB u A' n' ts)=>PU ts A' n' b5 hn p q u hT;have ax:=λf (ac:jo f) (p q:Int) u=>QZ f ac p q r g b a hr hg hb ha u;have ar:=λf (ac:jo f) (p q:Int) u (T:bH [] w u)=>Q8 ao A n cap p q f ac u (h.u T);clear hx hy h;obtain⟨W,J⟩:=eX (((w.alloc (bT #[bF A n cap] 49)).alloc (bT #[bL .u8 r,bL .u8 g,bL .u8 b,bL .u8 a] 45)).alloc (bT #[bF bR 0 0,(0:Int)] 54));have S:bH [] w W:=J▸((((tR w).a _).a _).a _);have bk:W.heap.size=w.heap.size+3:=by rw [J];simp
 have aE:=dJ J;have b7:=Z5 J;have b8:=iR J;have q0:W.cell? ⟨w,0,bR⟩=bS (bF A n cap):=by rw [aA _ _ _ _ _ _ aE];rfl
 have z0:W.cell? ⟨w+2,0,bR⟩=bS (bF bR 0 0):=pe
 have z1:W.cell? ⟨w+2,1,bR⟩=bS (bL .i64 0):=pe
 have zf:∀i,W.frozen? ⟨w+2,i,bR⟩=co:=λi=>by simp [World.frozen?,b8]
 have D0:Hid (∀u,bH [] W u->u.cell? ⟨w,0,bR⟩=bS (bF A n cap)):=lh λu T=>tD
 have D5:Hid (∀u,bH [] W u->u.cell? ⟨w+1,0,bR⟩=bS (bL .u8 r)/\u.cell? ⟨w+1,1,bR⟩=bS (bL .u8 g)/\u.cell? ⟨w+1,2,bR⟩=bS (bL .u8 b)/\u.cell? ⟨w+1,3,bR⟩=bS (bL .u8 a)):=lh λu T=>by have e:=(T.old (w.heap.size+1) gn lz).t b7;refine⟨?_,?_,?_,?_⟩<;>(rw [aA _ _ _ _ _ _ e];rfl)
 have am:Hid (∀u,bH [] W u->Thin u (w.heap.size+2)):=lh λu T=>⟨_,_,_,(T.old _ gn lz).t b8,lz⟩;have bs:Hid (∀(u:ce) (c:Nat) (f:List Int),jo f->u.heap[c]?=bS (bT bX 80 (0,0))->(Instr.storeAt 80 (bP (bS ⟨c,0,bR⟩)) (tv f)).run ca u=.ok () (u.setRow c ⟨f.map (Value.int .u8)⟩)/\(u.setRow c ⟨f.map (Value.int .u8)⟩).heap[c]?=bS (bT ⟨f.map (Value.int .u8)⟩ 80 (0,0))):=lh λu c f ac h2=>by
  have hi:(prog.info? 80).map (·.size)=bS (⟨f.map (Value.int .u8)⟩:Array cg).size:=pG
  refine⟨jV (ty:=80) h2 hi (by rw [<-QQ,vX];show 256=(f.map (Value.int .u8)).length;rw [aJ,ac.1]) lW,?_⟩;simp only [World.setRow,au,if_true,h2];rfl
 have aM:Hid (∀(u:ce) (c:Nat) (f:List Int),jo f->u.heap[c]?=bS (bT ⟨f.map (Value.int .u8)⟩ 80 (0,0))->(Instr.loadAt 80 (bP (bS ⟨c,0,bR⟩))).run ca u=.ok (tv f) u):=lh λu c f ac h2=>
  cf (P:=ca) u c 80 80 ⟨f.map (Value.int .u8)⟩ (0,0) _ h2 cb rfl pG
 obtain⟨b1,ad,a6,b3,b2,a3⟩:=lh6 a7 ap aD ax ar aL;clear a7 ap aD ax ar aE b7 b8 aL hr hg hb ha hp hq;go_enter func14,ntmps14;go_upto_region 1 with (fail)
 rw [show w.heap.size+1+1=w.heap.size+2 from rfl,<-J];clear J;go_upto_region 2 with (go_at_call 42;refine mR (b1.o _) λw1 aR=>?_)
 obtain⟨s,b7⟩:=eX (w1.alloc (bT #[p,q] 24));have V:bH [] W s:=b7▸aR.a _;have aq:=YE b7
 have bl:s.heap.size=w1.heap.size+1:=sd
 have bm:=aR.size;rw [<-b7];clear b7 aR;generalize w1.heap.size=b9 at *;have R:Hid (∀u,bH [] s u->u.cell? ⟨b9,0,bR⟩=bS (bL .i64 p)/\u.cell? ⟨b9,1,bR⟩=bS (bL .i64 q)):=lh λu T=>by have e:=(T.old b9 gn lz).t aq;refine⟨?_,?_⟩<;>(rw [aA _ _ _ _ _ _ e];rfl)
 clear aq;go_cut [10] (λs10 wx=>∃c f,jo f/\(n=0->f=List.replicate 256 0)/\s10=bP (bS ⟨c,0,bR⟩)/\s.heap.size<=c/\wx.heap[c]?=bS (bT ⟨f.map (Value.int .u8)⟩ 80 (0,0))/\bH [] s wx);case first=>
  refine cu.start (λu=>bH [] s u) 5 lB ?_;have D:=(tR s).drawn 1;change bH [] s s.drew at D;generalize s.drew=Y at *;refine Xy 0 (bM #[bF A n cap]) (λw' l=>D0.out _ (V.t l)) ?_;refine fE 2 (bM #[p,q]) ?_ (j:=λw' l=>by obtain⟨e1,e2⟩:=R.out _ l;go_simp);refine tj 1 4 (λK j=>?_) (λK j=>?_)
  .go_simp;refine (ad.o _ (S.t (V.t D))).mono ?_;rintro e H ⟨⟨Q,n2,a0,af,rfl,a1,a5,G⟩,O⟩;replace G:=lh G;have I:=D.t O;refine gK j I ?_;clear j K;refine tj 3 4 (λK j=>?_) (λK j=>?_)
   .go_simp;refine (a6.o af Q n2 a0 a5 p q _ a1).mono ?_;rintro e z ⟨⟨f,ac,rfl,k⟩,aw⟩;replace k:=lh k;have C:=I.t aw;refine gK j C ?_;clear j K;refine eH 4 λK j=>?_;refine bZ (d:=bS 10) rfl (di rfl (a3.o z)) ?_;have m:=cd z (bT bX 80);have M:=C.size;have B:=C.alloc (bT bX 80);have N:z.heap.size<(z.alloc (bT bX 80)).heap.size:=lz;generalize z.alloc (bT bX 80)=Z,z.heap.size=c at *;refine gK j B ?_;clear j K;have a4:s.heap.size<=c:=M;refine iZ λK j=>?_;obtain⟨a8,F⟩:=bs.o Z c f ac m;refine fO (d:=bR) rfl 80 (.tmp 10) (.tmp 17) rfl rfl rfl a8 ?_;refine j _ _ ?_;clear j K;(try go_frame);have L:=B.setRow (g:=c) ⟨f.map (Value.int .u8)⟩ (.inr a4);go_wp2;go_meet;exact⟨c,f,ac,λh=>k.out (G.out h),rfl,a4,F,L⟩
   refine bZ (d:=bS 10) rfl (di rfl (a3.o H)) ?_;have bj:=(tR H).alloc (bT bX 80);have m:=cd H (bT bX 80);have M:=I.size;have B:=I.alloc (bT bX 80);have N:H.heap.size<(H.alloc (bT bX 80)).heap.size:=lz;generalize H.alloc (bT bX 80)=Z,H.heap.size=c at *;refine gK j B ?_;clear j K;have a4:s.heap.size<=c:=M;refine eH 3 λK j=>?_;go_simp;refine (a6.o af Q n2 a0 a5 p q _ (a1.u bj)).mono ?_;rintro e z ⟨⟨f,ac,rfl,k⟩,aw⟩;replace k:=lh k;have C:=B.t aw;refine gK j C ?_;clear j K;have m:=(aw.old c N lz).t m;refine iZ λK j=>?_;obtain⟨a8,F⟩:=bs.o z c f ac m;refine fO (d:=bR) rfl 80 (.tmp 10) (.tmp 17) rfl rfl rfl a8 ?_;refine j _ _ ?_;clear j K;(try go_frame);have L:=C.setRow (g:=c) ⟨f.map (Value.int .u8)⟩ (.inr a4);go_wp2;go_meet;exact⟨c,f,ac,λh=>k.out (G.out h),rfl,a4,F,L⟩
  refine bZ (d:=bS 10) rfl (di rfl (a3.o Y)) ?_;have m:=cd Y (bT bX 80);have M:=D.size;have B:=D.alloc (bT bX 80);have N:Y.heap.size<(Y.alloc (bT bX 80)).heap.size:=lz
  generalize Y.alloc (bT bX 80)=Z,Y.heap.size=c at *;refine gK j B ?_;clear j K
  have a4:s.heap.size<=c:=M;refine eH 1 λK j=>?_;go_simp;refine (ad.o _ (S.t (V.t B))).mono ?_;rintro e H ⟨⟨Q,n2,a0,af,rfl,a1,a5,G⟩,O⟩;replace G:=lh G;have I:=B.t O;refine gK j I ?_;clear j K
  have ba:=aj N O.size;have m:=(O.old c N lz).t m;refine eH 3 λK j=>?_;go_simp;refine (a6.o af Q n2 a0 a5 p q _ a1).mono ?_;rintro e z ⟨⟨f,ac,rfl,k⟩,aw⟩;replace k:=lh k;have C:=I.t aw;refine gK j C ?_;clear j K
  have m:=(aw.old c ba lz).t m;refine iZ λK j=>?_;obtain⟨a8,F⟩:=bs.o z c f ac m;refine fO (d:=bR) rfl 80 (.tmp 10) (.tmp 17) rfl rfl rfl a8 ?_;refine j _ _ ?_;clear j K;try go_frame
  have L:=C.setRow (g:=c) ⟨f.map (Value.int .u8)⟩ (.inr a4);go_wp2;go_meet;exact⟨c,f,ac,λh=>k.out (G.out h),rfl,a4,F,L⟩
 obtain⟨c,f,ac,k,rfl,a4,F,a2⟩:=hcut;replace k:=lh k;have X:=V.t a2;have b0:Hid (∀u,bH [] wc u->(Instr.loadAt 80 (bP (bS ⟨c,0,bR⟩))).run ca u=.ok (tv f) u):=lh λu T=>aM.o u c f ac ((T.old c (ae.1 F).1 lz).t F);go_upto_region 3 with (fail)
 refine cu.start (λu=>bH [] wc u) 16 lB ?_;have D:=(tR wc).drawn 1;change bH [] wc wc.drew at D;generalize wc.drew=Y at *;refine Xy 0 (bM #[bF A n cap]) (λw' l=>D0.out _ (X.t l)) ?_;refine fE 1 (bM #[p,q]) ?_ (j:=λw' l=>by obtain⟨e1,e2⟩:=R.out _ (a2.t l);go_simp);refine Xz 2 (tv f) (λw' l=>b0.o w' l) ?_;refine fE 3 x ?_;refine fK 4 ?_;refine fE 5 p ?_ (j:=λw' l=>by obtain⟨e1,e2⟩:=R.out _ (a2.t l);go_simp);refine fE 6 (bL .i64 (IntKind.i64.wrap (8*p))) ?_;refine fE 7 (bL .i64 (IntKind.i64.wrap (x-IntKind.i64.wrap (8*p)))) ?_;refine fE 8 y ?_;refine fK 9 ?_;refine fE 10 q ?_ (j:=λw' l=>by obtain⟨e1,e2⟩:=R.out _ (a2.t l);go_simp);refine fE 11 (bL .i64 (IntKind.i64.wrap (8*q))) ?_;refine fE 12 (bL .i64 (IntKind.i64.wrap (y-IntKind.i64.wrap (8*q)))) ?_;refine fE 13 (bM #[bL .u8 r,bL .u8 g,bL .u8 b,bL .u8 a]) ?_ (j:=λw' l=>by obtain⟨e1,e2,e3,e4⟩:=D5.out _ (X.t l);go_simp);refine eH 14 λK j=>?_;go_simp;refine (b3.o f ac _ _ _).mono ?_;rintro e w5 ⟨⟨bf,bc,rfl,ab⟩,bd⟩;replace ab:=lh ab;have a9:=D.t bd;refine gK j a9 ?_;clear j K
 refine eH 15 λK j=>?_;go_simp;refine (b2.o bf bc p q _ (S.t (X.t a9))).mono ?_;rintro e w6 ⟨hG,be⟩;have av:=a9.t be;obtain⟨A9,n9,an,bh,E,ay,aa⟩:=hG;replace aa:=lh aa;refine gK j av ?_;clear j K
 have U:=X.t av;obtain⟨m,hf⟩:=bY U;have b4:=lh ay;clear ay;refine iZ λK j=>?_;have y0:=tq m z0;have y1:=tq m z1;go_simp;refine j _ _ ?_;clear j K;try go_frame
 go_wp2_with fail
 have b6:bH [] w ((w6.setCell ⟨w+2,0,bR⟩ (bF A9 n9 an)).setCell ⟨w+2,1,bR⟩ E):=((S.t U).sc).sc;exact ag (v:=bM #[bF A9 n9 an,E]) (by simp [results,results14,go_sem,y0,y1]) rfl ⟨.mk _ _ _ bh _ ((b4.o.thin (am.o _ U) _ _).thin ((am.o _ U).setCell _ _) _ _) (λh hx hy bb=>by have h1:=aa.out h hx hy;rw [ab.out bb,k.out h]at h1;exact h1),b6⟩
structure IW(w wr:ce)(A:Option ch)(n cap:Nat)(ts:List dC): Prop where
 t:bH [] w wr
 h0:wr.heap[w.heap.size]?=bS (bT #[bF bR 0 0] 49 (0,0))
 h1:wr.heap[w.heap.size+1]?=bS (bT #[bF A n cap] 49 (0,0))
 ti:dB wr A n ts
theorem IW.lt{w wr:ce}{A:Option ch}{n cap:Nat}{c:List dC}(h:IW w wr A n cap c): w.heap.size+2<=wr.heap.size:=(ae.1 h.h1).1
theorem IW.cells{w wr:ce}{A:Option ch}{n cap:Nat}{c:List dC}(h:IW w wr A n cap c): wr.cell? ⟨w,0,bR⟩=bS (bF bR 0 0)/\wr.cell? ⟨w+1,0,bR⟩=bS (bF A n cap)/\wr.frozen? ⟨w,0,bR⟩=co/\wr.frozen? ⟨w+1,0,bR⟩=co:=
 ⟨by rw [aA _ _ _ _ _ _ h.h0];rfl,by rw [aA _ _ _ _ _ _ h.h1];rfl,by simp [World.frozen?,h.h0],by simp [World.frozen?,h.h1]⟩
theorem IW.u{w wr w':ce}{A:Option ch}{n cap:Nat}{c:List dC}(h:IW w wr A n cap c)(T:bH [] wr w'): IW w w' A n cap c:=by have i:=h.lt;exact⟨h.t.t T,(T.old _ gn lz).t h.h0,(T.old _ gn lz).t h.h1,h.ti.u T⟩
theorem IW.thin{w wr:ce}{A:Option ch}{n cap:Nat}{c:List dC}(h:IW w wr A n cap c)(i:Nat)(m:i<=1): Thin wr (w.heap.size+i):=by
 rcases Nat.le_one_iff_eq_zero_or_eq_one.1 m with rfl|rfl
 .exact⟨_,_,_,h.h0,lz⟩
 exact⟨_,_,_,h.h1,lz⟩
theorem IW.set{w wr:ce}{A a:Option ch}{n cap c cap':Nat}{b E:List dC}(h:IW w wr A n cap b)(o:dB wr a c E): IW w (wr.setCell ⟨w+1,0,bR⟩ (bF a c cap')) a c cap' E:=by
 have i:=h.lt;refine⟨h.t.sc,?_,?_,o.thin (h.thin 1 gn) _ _⟩
 .simp only [World.setCell,au];rw [aF gn];exact h.h0
 simp only [World.setCell,au,if_true,h.h1];rfl
theorem dB.thinR{w:ce}{A:Option ch}{n:Nat}{d:List dC}(h:dB w A n d){c:Nat}(i:Thin w c)(cs:Array cg): dB (w.setRow c cs) A n d:=by
 refine⟨h.1,λj t q=>?_⟩;obtain⟨a,g,o,f,b⟩:=h.2 j t q;refine⟨a,g,o,f,?_⟩;have m:g≠c:=by
  rintro rfl;obtain⟨v,ty,x,l,z⟩:=i;have p:2<t.row.length:=sK
  have:=b 2 _ (aB p);rw [aA _ _ _ _ _ _ l,Array.getElem?_eq_none gn]at this;cases this
 intro k u s;rw [<-b k u s];have e:(w.setRow c cs).heap[g]?=w.heap[g]?:=by simp only [World.setRow,au];rw [aF (Ne.symm m)]
 simp only [World.cell?,e]
theorem Pz:(prog.info? 54).map (λi=>(i.zero,i.size))=bS (bS (bM #[bF bR 0 0,(0:Int)]),2):=lB
theorem DL: AL 54 #[bF bR 0 0,(0:Int)]:=λu=>by unfold Instr.alloc;rw [Sem.run_bind,(ck Pz).1];rfl
theorem Dp{u:ce}{c:Nat}(h:u.heap[c]?=bS (bT #[bF bR 0 0,(0:Int)] 54 (0,0)))(A:Option ch)(n cap:Nat)(E:Int):
  (Instr.storeAt 54 (bP (bS ⟨c,0,bR⟩)) (bM #[bF A n cap,E])).run ca u=.ok () (u.setRow c #[bF A n cap,E])/\(u.setRow c #[bF A n cap,E]).heap[c]?=bS (bT #[bF A n cap,E] 54 (0,0))/\Thin u c:=by
 refine⟨jV (ty:=54) (cells:=#[bF A n cap,E]) h (ck Pz).2 rfl lW,?_,⟨_,_,_,h,lz⟩⟩;simp only [World.setRow,au,if_true,h];rfl
theorem ku(z:Int): IntKind.i64.wrap z=cn z:=nI
theorem Wj(x y:Int): 0<=bits BinOp.or IntKind.u8 x y/\bits BinOp.or IntKind.u8 x y<=255:=by
 have:∀z,0<=IntKind.u8.wrap z/\IntKind.u8.wrap z<=255:=λz=>lD
 exact this _
theorem DI(ss:List Int)(A:Option ch)(n cap:Nat)(hn:n<=100)(w:ce)(h:dn w A n ss):
  cj ca 52 #[bF A n cap] w λe w'=>(∃B F G X,e=.returned (bM #[bF B F G])/\dB w' B F X)/\bH [] w w':=by
 have hC:=λh1=>h.cell h1;have hl:=h.1;have ad:=λ(ts:List dC) B F G (x y r g b a:Int) (h1:(-100<=x/\x<=100)/\-100<=y/\y<=100) (h2:(0<=r/\r<=255)/\(0<=g/\g<=255)/\(0<=b/\b<=255)/\0<=a/\a<=255) u (hT:dB u B F ts)=>Qi ts B F G x y r g b a gn gn h2.1 h2.2.1 h2.2.2.1 h2.2.2.2 _ _ rfl rfl u hT;obtain⟨W,S⟩:=eX ((w.alloc (bT #[bF bR 0 0] 49)).alloc (bT #[bF bR 0 0] 49));have hP:IW w W bR 0 0 []:=by
  refine⟨S▸(((tR w).a _).a _),?_,?_,nX _⟩
  .rw [S];simp only [yV,aI];rw [aF gn,aG lL]
  rw [S];simp only [yV,aI];rw [aG lL]
 obtain⟨HC,HS,HL⟩:=lh3 hC ad hl;clear hC ad hl h;go_enter func52,ntmps52;go_upto_region 2 with (fail)
 rw [<-S];clear S;go_wp2_with fail
 go_loopw [4] (λs4 wr=>∃(k:Nat) (B:Option ch) (F G:Nat) (X:List dC),k<=n/\s4=k/\IW w wr B F G X) (λs4 _=>n-(cm s4).toNat);case atStart=>exact⟨0,_,_,_,_,gn,rfl,hP⟩
 clear hP;obtain⟨k,A1,n1,a1,aD,hk,rfl,P⟩:=hrel;by_cases ay:k<n
 .obtain⟨g,o,rfl,hR⟩:=HC.o gn;have HR:=lh (λw' T=>hR w' T k ay);have ax:=HR.o _ P.t;clear hR;generalize ss.getD k 0=s at *;have b0:(0:Int)<=(k:Int):=by omega
  have b1:(k:Int)<(n:Int):=gn
  have i:=lh P;clear P;go_upto_region 5 with (fail)
  have ax:wr.drew.cell? ⟨g,o+k,bR⟩=bS (bL .i64 s):=ax;have ar:((wr.alloc (bT #[bL .u8 0,bL .u8 0,bL .u8 0,bL .u8 0] 45)).drew).cell? ⟨g,o+k,bR⟩=bS (bL .i64 s):=HR.o _ ((i.o.t.a _).drawn 1);go_region;obtain⟨r,er⟩:∃r,s%256=r:=⟨_,rfl⟩;obtain⟨z,eg⟩:∃z,s/32%256=z:=⟨_,rfl⟩;obtain⟨O,eb⟩:∃O,s/512%256=O:=⟨_,rfl⟩;obtain⟨q,ea⟩:∃q,bits BinOp.or IntKind.u8 (s/8%256) 15=q:=⟨_,rfl⟩;have ab:Hid ((0<=r/\r<=255)/\(0<=z/\z<=255)/\(0<=O/\O<=255)/\0<=q/\q<=255):=lh ⟨gn,gn,gn,by rw [<-ea];exact Wj _ _⟩;rw [er,eg,eb,ea];obtain⟨V,hV⟩:=eX ((wr.alloc (bT #[bL .u8 r,bL .u8 z,bL .u8 O,bL .u8 q] 45)).drew);have PV:IW w V A1 n1 a1 aD:=hV▸i.o.u (((tR wr).a _).drawn 1);have C:V.heap[wr.heap.size]?=bS (bT #[bL .u8 r,bL .u8 z,bL .u8 O,bL .u8 q] 45 (0,0)):=by rw [hV];exact cd wr _
  have b3:w.heap.size+2<=wr.heap.size:=i.o.lt;rw [<-hV];obtain⟨M,e7⟩:∃c,bits BinOp.and IntKind.i64 s 7=c:=⟨_,rfl⟩;obtain⟨c1,e1⟩:∃c,bits BinOp.and IntKind.i64 (s/16) 15=c:=⟨_,rfl⟩;obtain⟨c2,e2⟩:∃c,bits BinOp.and IntKind.i64 (s/256) 15=c:=⟨_,rfl⟩;obtain⟨c3,e3⟩:∃c,bits BinOp.and IntKind.i64 s 1=c:=⟨_,rfl⟩;have d7:=dM s 7 gn;have d1:=dM (s/16) 15 gn;have d2:=dM (s/256) 15 gn;have d3:=dM s 1 gn;rw [show ((7:Nat):Int)=7 from rfl,e7]at d7;rw [show ((15:Nat):Int)=15 from rfl,e1]at d1;rw [show ((15:Nat):Int)=15 from rfl,e2]at d2;rw [show ((1:Nat):Int)=1 from rfl,e3]at d3;have f7:cn (1+M)=1+M:=fC _ gn gn;have f1:cn (c1-4)=c1-4:=fC _ gn gn;have f2:cn (c2-4)=c2-4:=fC _ gn gn;have HD:Hid ((0<=M/\M<=7)/\(0<=c1/\c1<=15)/\(0<=c2/\c2<=15)/\0<=c3/\c3<=1):=lh ⟨d7,d1,d2,d3⟩;clear ax ar hV er eg eb ea i d7 d1 d2 d3;generalize wr.heap.size=c5 at *;go_wp2_with fail
  go_loopw [6] (λs6 wr=>∃(j:Nat) (B:Option ch) (F G:Nat) (X:List dC),(j:Int)<=1+M/\s6=j/\IW w wr B F G X/\wr.heap[c5]?=bS (bT #[bL .u8 r,bL .u8 z,bL .u8 O,bL .u8 q] 45 (0,0))) (λs6 _=>8-(cm s6).toNat);case atStart=>exact⟨0,_,_,_,_,by have:=HD.o;omega,rfl,PV,C⟩
  clear PV C;obtain⟨j,A2,n2,a0,am,hj,rfl,P,C⟩:=hrel;obtain⟨y0,y1,a6,a7⟩:=P.cells;have ax:=HR.o _ P.t;by_cases av:(j:Int)<1+M
  .have hD:=HD.o;have aR:(j:Int)<=7:=gn;have g1:cn (c1-4+j)=c1-4+j:=fC _ gn gn;obtain⟨m,em⟩:∃m,cn ((j:Int)*c3)=m:=⟨_,rfl⟩;have hm:0<=m/\m<=7:=by
    have h3:c3=0\/c3=1:=gn;rcases h3 with rfl|rfl
    .rw [Int.mul_zero]at em;rw [<-em];exact⟨by simp [cn],by simp [cn]⟩
    rw [Int.mul_one,fC _ gn gn]at em;omega
   have g2:cn (c2-4+m)=c2-4+m:=fC _ gn gn;have k1:=(ku _).t f1;have k2:=(ku _).t f2;have k3:=(ku _).t g1;have k4:=(ku _).t g2;have k5:=(ku _).t em;have HM:Hid ((-100<=c1-4+j/\c1-4+j<=100)/\-100<=c2-4+m/\c2-4+m<=100):=lh gn;have i:=lh P;have H5:=lh C;have D0:Hid (∀u,bH [] wr u->u.cell? ⟨w+1,0,bR⟩=bS (bF A2 n2 a0)):=lh λu T=>(i.o.u T).cells.2.1;have D1:Hid (∀u,bH [] wr u->u.cell? ⟨g,o+k,bR⟩=bS (bL .i64 s)):=lh λu T=>HR.o _ (i.o.t.t T);have D5:Hid (∀u,bH [] wr u->u.cell? ⟨c5,0,bR⟩=bS (bL .u8 r)/\u.cell? ⟨c5,1,bR⟩=bS (bL .u8 z)/\u.cell? ⟨c5,2,bR⟩=bS (bL .u8 O)/\u.cell? ⟨c5,3,bR⟩=bS (bL .u8 q)):=lh λu T=>by have e:=(T.old c5 (ae.1 H5.o).1 lz).t H5.o;refine⟨?_,?_,?_,?_⟩<;>(rw [aA _ _ _ _ _ _ e];rfl)
   clear P C hD hm;(go_upto_region 9 with (fail));clear ax y0 y1 a6 a7;go_cut [7] (λs7 wx=>∃(c:Nat) (E:Int) (l:Option ch) (p b2:Nat) (an:List dC),s7=bP (bS ⟨c,0,bR⟩)/\wr.heap.size<=c/\wx.heap[c]?=bS (bT #[bF l p b2,E] 54 (0,0))/\dB wx l p an/\bH [] wr wx);case first=>
    refine cu.start (λu=>bH [] wr u) 28 lB ?_;have Q:=(tR wr).drawn 1;change bH [] wr wr.drew at Q;generalize wr.drew=Y at *;refine Xy 0 (bM #[bF A2 n2 a0]) (λw' D=>D0.out _ D) ?_;refine fE 1 (bF (bS ⟨g,o,bR⟩) n cap) ?_;refine fE 2 k ?_;refine fK 3 ?_;refine Xy 4 s (λw' D=>D1.out _ D) ?_;refine fE 5 (bL .i64 (s/16)) ?_;refine fE 6 c1 ?_;refine fE 7 (bL .i64 (c1-4)) ?_;refine fE 8 j ?_;refine fE 9 (bL .i64 (c1-4+j)) ?_;refine fE 10 (bF (bS ⟨g,o,bR⟩) n cap) ?_;refine fE 11 k ?_;refine fK 12 ?_;refine Xy 13 s (λw' D=>D1.out _ D) ?_;refine fE 14 (bL .i64 (s/256)) ?_;refine fE 15 c2 ?_;refine fE 16 (bL .i64 (c2-4)) ?_;refine fE 17 j ?_;refine fE 18 (bF (bS ⟨g,o,bR⟩) n cap) ?_;refine fE 19 k ?_;refine fK 20 ?_;refine Xy 21 s (λw' D=>D1.out _ D) ?_;refine fE 22 c3 ?_;refine fE 23 m ?_;refine fE 24 (bL .i64 (c2-4+m)) ?_;refine fE 25 (bM #[bL .u8 r,bL .u8 z,bL .u8 O,bL .u8 q]) ?_ (j:=λw' D=>by obtain⟨f0,f1,f2,f3⟩:=D5.out _ D;go_simp);refine tj 26 27 (λK f=>?_) (λK f=>?_)
    .go_simp;refine (HS.o am A2 n2 a0 _ _ r z O q HM.o ab.o _ (i.o.u Q).ti).mono ?_;rintro e H ⟨hG,aw⟩;obtain⟨l,p,b2,an,E,N,_⟩:=hG;have L:=Q.t aw;refine gK f L ?_;clear f K;refine ty 27 rfl (di rfl (DL H)) λK f=>?_;have U:=cd H (bT #[bF bR 0 0,(0:Int)] 54);have R:=L.size;have tz:=(tR H).alloc (bT #[bF bR 0 0,(0:Int)] 54);have J:=L.alloc (bT #[bF bR 0 0,(0:Int)] 54);have af:H.heap.size<(H.alloc (bT #[bF bR 0 0,(0:Int)] 54)).heap.size:=lz;generalize H.alloc (bT #[bF bR 0 0,(0:Int)] 54)=Z,H.heap.size=c at *;refine gK f J ?_;clear f K;refine iZ λK f=>?_;obtain⟨a8,I,a5⟩:=Dp U l p b2 E;refine fO (d:=bR) rfl 54 (.tmp 7) (.tmp 76) rfl rfl rfl a8 ?_;refine f _ _ ?_;clear f K;(try go_frame);have a2:=J.setRow (g:=c) #[bF l p b2,E] (.inr R);have a3:=(N.u tz).thinR a5 #[bF l p b2,E];go_wp2;go_meet;exact⟨c,E,l,p,b2,an,rfl,R,I,a3,a2⟩
    refine bZ (d:=bS 7) rfl (di rfl (DL Y)) ?_;have U:=cd Y (bT #[bF bR 0 0,(0:Int)] 54);have R:=Q.size;have tz:=(tR Y).alloc (bT #[bF bR 0 0,(0:Int)] 54);have J:=Q.alloc (bT #[bF bR 0 0,(0:Int)] 54);have af:Y.heap.size<(Y.alloc (bT #[bF bR 0 0,(0:Int)] 54)).heap.size:=lz;generalize Y.alloc (bT #[bF bR 0 0,(0:Int)] 54)=Z,Y.heap.size=c at *;refine gK f J ?_;clear f K;refine eH 26 λK f=>?_;go_simp;refine (HS.o am A2 n2 a0 _ _ r z O q HM.o ab.o _ (i.o.u J).ti).mono ?_;rintro e H ⟨hG,aw⟩;obtain⟨l,p,b2,an,E,N,_⟩:=hG;have L:=J.t aw;refine gK f L ?_;clear f K;have U:=(aw.old c af lz).t U;refine iZ λK f=>?_;obtain⟨a8,I,a5⟩:=Dp U l p b2 E;refine fO (d:=bR) rfl 54 (.tmp 7) (.tmp 76) rfl rfl rfl a8 ?_;refine f _ _ ?_;clear f K;(try go_frame);have a2:=L.setRow (g:=c) #[bF l p b2,E] (.inr R);have a3:=N.thinR a5 #[bF l p b2,E];go_wp2;go_meet;exact⟨c,E,l,p,b2,an,rfl,R,I,a3,a2⟩
   obtain⟨c,E,l,p,b2,an,rfl,aL,I,N,a4⟩:=hcut;have P:=i.o.u a4;have C:=(a4.old c5 (ae.1 H5.o).1 lz).t H5.o;obtain⟨y0,y1,a6,a7⟩:=P.cells;have x0:wc.cell? ⟨c,0,bR⟩=bS (bF l p b2):=(by rw [aA _ _ _ _ _ _ I];rfl);have x1:wc.cell? ⟨c,1,bR⟩=bS (bL .i64 E):=(by rw [aA _ _ _ _ _ _ I];rfl);obtain⟨ac,ao,a9⟩:=lh3 P N C;clear P N C I a4;by_cases hE:E=0
   .subst hE;(go_wp2_with fail);have P3:=ac.o.set (cap':=b2) ao.o;have ap:(wc.setCell ⟨w+1,0,bR⟩ (bF l p b2)).heap[c5]?=bS (bT #[bL .u8 r,bL .u8 z,bL .u8 O,bL .u8 q] 45 (0,0)):=(by simp only [World.setCell,au];rw [aF gn];exact a9.o);go_roundw;case rel=>exact⟨j+1,_,_,_,_,gn,by go_num,P3,ap⟩
    simp [cm];omega
   have aE:(E==0)=co:=(by simpa using hE);go_wp2;go_roundw;case rel=>exact⟨j+1,_,_,_,_,gn,by go_num,ac.o,a9.o⟩
   simp [cm];omega
  have i:=lh P;clear P C;have aM:decide ((j:Int)<1+M)=co:=ak av;go_wp2_with fail
  exact⟨⟨k+1,_,_,_,_,gn,by go_num,i.o⟩,by simp [cm];omega⟩
 obtain rfl:n=k:=gn
 obtain⟨y0,y1,a6,a7⟩:=P.cells;have i:=lh P;clear P;go_wp2_with fail
 have aq:=i.o.t.setCell (a:=⟨w,0,bR⟩) (bF A1 n1 a1) (.inr lE);exact ag (v:=bM #[bF A1 n1 a1]) (by simp [results,results52,go_sem,y0]) rfl ⟨⟨_,_,_,_,rfl,i.o.ti.thin (i.o.thin 0 gn) _ _⟩,aq⟩
