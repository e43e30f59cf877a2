import Derived.Test.YtaahejdimjbhhaaGreatDoorK14
set_option maxRecDepth 100000
set_option maxHeartbeats 0
set_option linter.all false
namespace Go.Proofs.YtaahejdimjbhhaaGreatDoor
open Tryz Go.RowKit Go.Den
open Go.Obj renaming cells->co
open Go.Value renaming slice->cp,int->cq,agg->cr,pointer->ct,string->cw,bool->cx
open Option renaming some->cy,none->cz
open Go renaming World->cB,heap_alloc_new->cD,zero_of_info->cE,MapEntry->cF,run_loadVar_row->cG,Value->cH,yielded->cI,Calls->cJ,Oper->cK,TypeId->cM,wpOp_step->cQ,run_loadAt_mid->cR,Program->cS,execOp->cT,asAddr->cU
open Go.Ending renaming returned->cV
open Bool renaming true->cW,false->cX
open Go.Proofs.Tryz renaming prog->cY,underlying51->da
open Go.RowKit renaming wrap64->db,intOf->dc
def Ky(b:List Nat)(d:df)(id:Int)(w':cB)(e:Ending): Prop:=match dh d.agY id with
 |some l=>∃m,l.Like m/\gG b w' (λu=>m.At u)/\e=cV (.tuple #[d.v,m.v,cx cW])
 |none=>e=cV (.tuple #[d.v,dF.v,cx cX])
def sD(b:List Nat)(d:df)(id:Int)(J:Bool)(w':cB)(e:Ending): Prop:=if J=cW then Ky b d id w' e else e=cV (.tuple #[cr #[cp cz 0 0,(0:Int),(0:Int),cp cz 0 0],dF.v,cx cX])
theorem wE{w:cB}{b:Nat}{L:Array cH}{t:cM}{c:Nat}{r:Array cH}(h:w.heap[b]?=cy (co L t (0,0)))(a:b≠c): (w.setRow c r).heap[b]?=cy (co L t (0,0)):=(fQ _ _ _ _ a).t h
theorem ut{w:cB}{b:Nat}{L:Array cH}{x y z t p q r s:cH}{ty:cM}(h:w.heap[b]?=cy (co L ty (0,0)))(f:L=#[p,q,r,s]): ((((w.setCell ⟨b,0,cz⟩ x).setCell ⟨b,1,cz⟩ y).setCell ⟨b,2,cz⟩ z).setCell ⟨b,3,cz⟩ t).heap[b]?=cy (co #[x,y,z,t] ty (0,0)):=by subst f;simp only [World.setCell,au,if_true,h];rfl
theorem IR{P:cS}{o:cK}{a:Act}{w w':cB}{t:cM}{i:Nat}{x:Operand}{p v:cH}(e:o.op=.build t #[(i,x)])(b:a.eval x=p)(C:(Instr.build t #[(i,p)]).run P w=.ok v w'): (cT a.eval o).run P w=.ok (.value v) w':=
 iU e sw C
theorem QB:(prog.info? 94).map (·.size)=cy 4:=lB
theorem OQ(a b c d:cH)(u:cB): (Instr.build 94 #[(0,cr #[a,b,c,d])]).run cY u=.ok (cr #[a,b,c,d]) u:=lB
theorem AA(d:df)(id:Int)(w:cB)(H:List Nat)(aw:∀b∈H,b<w.heap.size)(h0:gG H w λu=>d.At u)(ar:∀l∈d.agY,l.Thin)(ok:Bool)(e1 e2:Int)(he:ok=cX->e1≠0)(a5:ok=cW->e1=0)
  (am:∀u,bH [] w u->CR 75 #[d.v] u (.tuple #[e1,e2])) :
  cJ cY 31 #[d.v,id] w λe w'=>sD H d id ok w' e/\bH [] w w':=by
 have ac:=λu (t:bH [] w u) E (b3:∀b∈E,b<u.heap.size) (b1:∀b∈E,b<w.heap.size->b∈H)=>LV d id u E b3 (h0.new t b1) ar;clear h0 ar;unfold Fq at *;obtain⟨z,B,A,ag2,y,next,k,s,n,agY⟩:=d;simp only [df.v]at *;obtain⟨W,F⟩:=eX (((w.alloc (co #[cp z B A,y,next,cp k s n] 29)).alloc (co #[cp cz 0 0,(0:Int),(0:Int),cp cz 0 0] 94)).alloc (co ⟨dF.row⟩ 51));have T0:bH [] w W:=F▸(((tR w).a _).a _).a _;have aM:w.heap.size+3<=W.heap.size:=sG
 have R:=dJ F;have x1:=Z5 F;have x2:=Zi F;obtain⟨aa,b2,av,a2,a6,a3,a0⟩:=lh7 ac (am W T0) aw R x1 x2 gI;have q0:=cO 0 (cp z B A) R;have q1:=cO 1 y R;have q2:=cO 2 next R;have q3:=cO 3 (cp k s n) R;clear R x1 x2 ac am aw;cases ok with
 |false=>
  have b7:(e1 != 0)=cW:=by simpa using he rfl
  clear he a5;have af:∀u,(Instr.build 51 #[]).run cY u=.ok (cr ⟨dF.row⟩) u:=λu=>lB
  have ax:=lh af;clear af;go_enter func31,ntmps31;go_upto_region 1 with (refine yR 5 (di (t:=51) rfl (a0.o _)) ?_)
  rw [<-F];clear F a0;try simp only [aI]
  go_upto_region 3 with (go_at_call 75;refine mR b2.o λZ C=>?_)
  have x:=(C.old (w.heap.size+1) gn lz).t a6.o;have I:=(C.old (w.heap.size+1+1) gn lz).t a3.o;have y0:=cO 0 (cp cz 0 0) x;have y1:=cO 1 (0:Int) x;have y2:=cO 2 (0:Int) x;have y3:=cO 3 (cp cz 0 0) x;have yf:=λi=>dm x i;obtain⟨V,f⟩:=eX ((((Z.setCell ⟨w+1,0,cz⟩ (cp cz 0 0)).setCell ⟨w+1,1,cz⟩ (0:Int)).setCell ⟨w+1,2,cz⟩ (0:Int)).setCell ⟨w+1,3,cz⟩ (cp cz 0 0));have V1:V.heap[w.heap.size+1]?=cy (co #[cp cz 0 0,(0:Int),(0:Int),cp cz 0 0] 94 (0,0)):=by rw [f];exact ut x rfl
  have V2:V.heap[w.heap.size+1+1]?=cy (co ⟨dF.row⟩ 51 (0,0)):=by rw [f];exact (iT _ _ _ _ _ _ _ gn).t I
  have G:bH [] w V:=by rw [f];exact (((((T0.t C).sc).sc).sc).sc)
  have a8:(Instr.storeAt 51 (ct (cy ⟨w+1+1,0,cz⟩)) (cr ⟨dF.row⟩)).run cY V=.ok () (V.setRow (w+1+1) ⟨dF.row⟩):=dQ (o:=0) (ty:=51) (p:=dF.row) (L':=dF.row) V2 (cE dS).2 lK (row_one _) lK;rw [f]at a8;have F1:=wE (c:=w.heap.size+1+1) (r:=⟨dF.row⟩) V1 gn;have O:=cG (P:=cY) _ (w.heap.size+1) 94 94 #[cp cz 0 0,(0:Int),(0:Int),cp cz 0 0] (0,0) _ F1 underlying94 rfl QB;have Q:=cG (P:=cY) _ (w.heap.size+1+1) 51 51 ⟨dF.row⟩ (0,0) _ (eQ (L':=dF.row) V2) da rfl (cE dS).2;obtain⟨HZ,a1,a4,aE⟩:=lh4 (bg O Q) a8 G f;clear x I V1 V2 F1 O Q a8 G f C;go_wp2_with (first
   |(refine yR 19 (iU (vs:=#[]) (v:=cr ⟨dF.row⟩) rfl rfl (ax.o _)) ?_)
   |(refine sR a1.o ?_))
  rw [<-aE.o];obtain⟨O,Q⟩:=HZ.o;refine ag (v:=.tuple #[cr #[cp cz 0 0,(0:Int),(0:Int),cp cz 0 0],dF.v,cx cX]) ?_ rfl ⟨by unfold sD;rw [aF lz],a4.o.setRow _ (.inr gn)⟩;simp [results,results31,cU,O,Q];rfl
 |true=>
  obtain rfl:=a5 rfl;clear he a5;have ao:∀u,bH [] w u->∀E:List Nat,(∀b∈E,b<u.heap.size)->(∀b∈E,b<w.heap.size->b∈H)->cJ cY 76 #[cr #[cp z B A,y,next,cp k s n],id] u λe w'=>(∃(m:bI) (b:Bool),e=cV (.tuple #[m.v,cx b])/\(b=cW->∃l,dh agY id=cy l/\l.Like m/\gG E w' (λu=>m.At u))/\(b=cX->dh agY id=cz/\m=dF))/\bH [] u w':=by
   intro u t E M N;refine (aa.o u t E M N).mono ?_;rintro e w' ⟨hI,hT⟩;refine⟨?_,hT⟩;cases an:dh agY id with
   |none=>rw [an]at hI;exact⟨dF,cX,hI,λh=>sY,λ_=>⟨rfl,rfl⟩⟩
   |some l=>
    rw [an]at hI;obtain⟨m,h3,h4,h5⟩:=hI;exact⟨m,cW,h5,λ_=>⟨l,rfl,h3,h4⟩,λh=>sY⟩
  have a9:=lh ao;clear ao aa;go_enter func31,ntmps31;go_upto_region 1 with (refine yR 5 (di (t:=51) rfl (a0.o _)) ?_)
  rw [<-F];clear F;try simp only [aI]
  go_upto_region 4 with (go_at_call 75;refine mR b2.o λZ C=>?_)
  have D:=(C.old w.heap.size gn lz).t a2.o;have x:=(C.old (w.heap.size+1) gn lz).t a6.o;have I:=(C.old (w.heap.size+1+1) gn lz).t a3.o;have T1:=T0.t C;have b5:=C.size;have bE:=lh (a9.o Z T1 ((w.heap.size+1+1)::(w.heap.size+1)::H) (λb j=>by simp only [aS]at j;rcases j with rfl|rfl|j;omega;omega;have:=av.o b j;omega) (λb j b6=>by simp only [aS]at j;rcases j with rfl|rfl|j;omega;omega;exact j));have q0:=cO 0 (cp z B A) D;have q1:=cO 1 y D;have q2:=cO 2 next D;have q3:=cO 3 (cp k s n) D;obtain⟨a2,a6,a3,aD⟩:=lh4 D x I T1;have b8:w.heap.size+3<=Z.heap.size:=by omega
  clear D x I T1 C b5 b2 a9 T0 aM;go_upto_region 5 with (first
   |(go_at_call 76;refine bE.o.mono ?_;rintro e L ⟨⟨m,b,rfl,ap,aq⟩,a7⟩;have HM:=lh (bg ap aq);have a1:=lh (λu=>gX u m);clear ap aq)
   |(refine yR 9 (di (t:=51) rfl (a0.o _)) ?_)
   |(refine sR (a1.o _) ?_))
  obtain⟨V,f⟩:=eX (L.alloc (co ⟨m.row⟩ 51));have G:bH [] Z V:=by rw [f];exact a7.a _
  have ab:bH [] L V:=by rw [f];exact (tR L).a _
  have h9:=YE f
  have D:=(G.old w.heap.size gn lz).t a2.o;have x:=(G.old (w.heap.size+1) gn lz).t a6.o;have I:=(G.old (w.heap.size+1+1) gn lz).t a3.o;have bx:w.heap.size+3<=L.heap.size:=by have:=a7.size;omega
  have ay:Hid (∀l,b=cW->dh agY id=cy l->l.Like m->gG ((w.heap.size+1+1)::(w.heap.size+1)::H) L (λu=>m.At u)->gG ((w.heap.size+1+1)::(w.heap.size+1)::H) V (λu=>m.At u)):=lh λ_ _ _ _ h=>h.u ab;have a4:=lh (aD.o.t G);have b4:V.heap.size=V.heap.size:=rfl;have aR:L.heap.size<V.heap.size:=(ae.1 h9).1;rw [<-f];clear f G ab a7 b4 q0 q1 q2 q3 a1 bE;have a2:=lh D;have aL:=lh h9;clear D h9;generalize b0:L.heap.size=b9 at *;clear b0;refine cu.start (λu=>bH [w.heap.size+1,w.heap.size+1+1] V u) 6 lB ?_;have hS:=(bH.refl [w.heap.size+1,w.heap.size+1+1] V).drawn 1;have ad:bH [] V V.drew:=(tR V).drawn 1;change bH [w.heap.size+1,w.heap.size+1+1] V V.drew at hS;generalize V.drew=Y at *;have HD:Hid (∀u,bH [w.heap.size+1,w.heap.size+1+1] V u->u.heap[w.heap.size]?=cy (co #[cp z B A,y,next,cp k s n] 29 (0,0))/\u.heap[b9]?=cy (co ⟨m.row⟩ 51 (0,0))):=lh λu t=>⟨(t.old _ gn lO).t a2.o,(t.old _ aR lO).t aL.o⟩;refine fE 0 (cr #[cp z B A,y,next,cp k s n]) ?_ (j:=λw' hw=>by have hd:=(HD.o _ hw).1;have q0:=cO 0 (cp z B A) hd;have q1:=cO 1 y hd;have q2:=cO 2 next hd;have q3:=cO 3 (cp k s n) hd;go_simp);refine fE 1 (cr #[cp z B A,y,next,cp k s n]) ?_ rfl (j:=λw' hw=>IR rfl rfl (OQ _ _ _ _ _));refine Xz 2 (cr ⟨m.row⟩) (λw' hw=>cR _ b9 0 51 m.row _ (gp (HD.o _ hw).2 lz) da rfl (cE dS).2) ?_;refine fE 3 (cx b) ?_;have J:=(ad.old (w.heap.size+1) gn lz).t x;have Y2:=(ad.old (w.heap.size+1+1) gn lz).t I;have y0:=cO 0 (cp cz 0 0) J;have y1:=cO 1 (0:Int) J;have y2:=cO 2 (0:Int) J;have y3:=cO 3 (cp cz 0 0) J;have yf:=λi=>dm J i;obtain⟨U,X⟩:=eX ((((Y.setCell ⟨w+1,0,cz⟩ (cp z B A)).setCell ⟨w+1,1,cz⟩ y).setCell ⟨w+1,2,cz⟩ next).setCell ⟨w+1,3,cz⟩ (cp k s n));have U1:U.heap[w.heap.size+1]?=cy (co #[cp z B A,y,next,cp k s n] 94 (0,0)):=by rw [X];exact ut J rfl
  have U2:U.heap[w.heap.size+1+1]?=cy (co ⟨dF.row⟩ 51 (0,0)):=by rw [X];exact (iT _ _ _ _ _ _ _ gn).t Y2
  have SU:bH [w.heap.size+1,w.heap.size+1+1] V U:=by rw [X];exact ((((hS.setCell _ (.inl lz)).setCell _ (.inl lz)).setCell _ (.inl lz)).setCell _ (.inl lz))
  refine eH 4 λK T=>?_;go_simp;rw [<-X];refine gK T SU ?_;clear T K y0 y1 y2 y3 yf J Y2 X
  have a8:=dQ (o:=0) (ty:=51) (p:=m.row) (L':=m.row) U2 (cE dS).2 lK (row_one _) lK;have F1:=wE (c:=w.heap.size+1+1) (r:=⟨m.row⟩) U1 gn;have O:=cG (P:=cY) _ (w.heap.size+1) 94 94 #[cp z B A,y,next,cp k s n] (0,0) _ F1 underlying94 rfl QB;have Q:=cG (P:=cY) _ (w.heap.size+1+1) 51 51 ⟨m.row⟩ (0,0) _ (eQ (L':=m.row) U2) da rfl (cE dS).2;refine eH 5 λK T=>?_;refine fO (d:=cz) rfl 51 (.tmp 5) (.tmp 28) rfl rfl rfl a8 ?_;have S:=SU.setRow (g:=w.heap.size+1+1) ⟨m.row⟩ (.inl lz);refine gK T S ?_;clear T K
  refine Yo ?_
  go_wp2_with fail
  refine ag (v:=.tuple #[cr #[cp z B A,y,next,cp k s n],m.v,cx b]) ?_ rfl ⟨?_,fH a4.o S (λq hq=>by simp at hq;omega)⟩
  .simp [results,results31,cU,O,Q];rfl
  unfold sD;rw [aG rfl];unfold Ky;simp only;cases b with
  |false=>
   obtain⟨M,N⟩:=HM.o.2 rfl;rw [M,N];rfl
  |true=>
   obtain⟨l,M,N,h3⟩:=HM.o.1 rfl;rw [M];refine⟨m,N,?_,rfl⟩;have h4:=ay.o l rfl M N h3;exact λu hs hu=>h4 u (aK S.size hs) λq hq j=>(hu q (aj hq S.size) (λhm=>j (by simp [hm]))).t (S.old q hq (λhm=>j (by simp at hm ⊢;omega)))
def jK:bI:={ fB 2 with id:=1 }
theorem JO(w:cB)(g:Nat): (Instr.build 29 #[(1,(1:Int)),(2,(2:Int)),(3,cp (cy ⟨g,0,cz⟩) 1 1)]).run cY w=.ok (cr #[cp cz 0 0,(1:Int),(2:Int),cp (cy ⟨g,0,cz⟩) 1 1]) w:=lB
theorem yT:(prog.info? 29).map (·.size)=cy 4:=lB
theorem Sv(w:cB): cJ cY 23 #[] w λe w'=>(∃g,e=cV (cr #[cp cz 0 0,(1:Int),(2:Int),cp (cy ⟨g,0,cz⟩) 1 1])/\w.heap.size<=g/\w'.heap[g]?=cy (co ⟨jK.row⟩ 51 (0,0)))/\bH [] w w':=by
 obtain⟨G,E,bs⟩:=lh3 (yE 2 lG lG) gI (λu=>gX u (fB 2));go_enter func23,ntmps23;go_upto_region 2 with (first
  |(go_at_call 24;refine mR (G.o _) λd aR=>?_)
  |(refine yR 1 (di (t:=51) rfl (E.o _)) ?_)
  |(refine sR (bs.o _) ?_))
 obtain⟨V,l⟩:=eX (d.alloc (co ⟨(fB 2).row⟩ 51));have B:bH [] d V:=by rw [l];exact (tR d).a _
 have j:=YE l
 have I:(w.alloc (co #[cp cz 0 0,(0:Int),(0:Int),cp cz 0 0] 29)).heap[w.heap.size]?=cy (co #[cp cz 0 0,(0:Int),(0:Int),cp cz 0 0] 29 (0,0)):=cD _ _;have a5:w.heap.size<d.heap.size:=by have:=aR.size;simp at this;omega
 have J:=(B.old _ a5 lz).t ((aR.old _ lz lz).t I);have H:bH [] w V:=(((tR w).a _).t aR).t B;have R:=cP 0 _ j;have S:=dD j 0;rw [<-l];clear l B I aR G E bs;generalize d.heap.size=s at *;go_upto_region 3 with fail
 have ac:(V.setCell ⟨s,0,cz⟩ (1:Int)).heap[s]?=cy (co ⟨jK.row⟩ 51 (0,0)):=dU j rfl;have C:=(dG V s 0 (1:Int) w.heap.size gn).t J;have M:bH [] w (V.setCell ⟨s,0,cz⟩ (1:Int)):=H.setCell _ (.inr (by show w.heap.size<=s;omega));clear R S j J H;generalize V.setCell ⟨s,0,cz⟩ (1:Int)=U at *;have ar:=lh (cR U s 0 51 jK.row _ (gp ac lz) da rfl (cE dS).2);have Q:∃Z,Z=U.alloc (co ⟨jK.row⟩ 51):=⟨_,rfl⟩;obtain⟨Z,m⟩:=Q;have A:bH [] U Z:=by rw [m];exact (tR U).a _
 have K:=YE m
 have O:w.heap.size<U.heap.size:=(ae.1 C).1;have b:=(A.old _ O lz).t C;have T:=cO 0 (cp cz 0 0) b;have W:=cO 1 (0:Int) b;have X:=cO 2 (0:Int) b;have Y:=cO 3 (cp cz 0 0) b;have zf:=λi=>dm b i;obtain⟨F,c⟩:=eX ((((Z.setCell ⟨w,0,cz⟩ (cp cz 0 0)).setCell ⟨w,1,cz⟩ (1:Int)).setCell ⟨w,2,cz⟩ (2:Int)).setCell ⟨w,3,cz⟩ (cp (cy ⟨U,0,cz⟩) 1 1));have D:F.heap[w.heap.size]?=cy (co #[cp cz 0 0,(1:Int),(2:Int),cp (cy ⟨U,0,cz⟩) 1 1] 29 (0,0)):=by rw [c];exact ut b rfl
 have f:F.heap[U.heap.size]?=cy (co ⟨jK.row⟩ 51 (0,0)):=by rw [c];exact (iT _ _ _ _ _ _ _ gn).t K
 have h:bH [] w F:=by rw [c];exact (((((M.t A).sc).sc).sc).sc)
 have n:=cG (P:=cY) _ w.heap.size 29 29 #[cp cz 0 0,(1:Int),(2:Int),cp (cy ⟨U,0,cz⟩) 1 1] (0,0) _ D underlying29 rfl yT;have af:(Instr.buildSlice 27 1 #[(0,cr ⟨jK.row⟩)]).run cY U=.ok (cp (cy ⟨U,0,cz⟩) 1 1) Z:=by rw [m];exact nG (k:=jS) underlying27 (kT jK) U
 obtain⟨ba,N,L⟩:=lh3 af c (bg n (bg f h));clear ac C M b K A D f h n m c af;go_wp2_with (first
  |(refine lR 4 ar.o ?_)
  |(refine yR 5 (dV (y:=cr ⟨jK.row⟩) rfl rfl ba.o) ?_)
  |(refine yR 6 (Gu (x:=.const (1:Int)) (y:=.const (2:Int)) (z:=.tmp 5) (p:=(1:Int)) (q:=(2:Int)) (r:=cp (cy ⟨U,0,cz⟩) 1 1) rfl rfl rfl rfl (JO _ _)) ?_))
 rw [<-N.o];obtain⟨n,f,h⟩:=L.o;refine ag (v:=cr #[cp cz 0 0,(1:Int),(2:Int),cp (cy ⟨U,0,cz⟩) 1 1]) ?_ rfl ⟨⟨_,rfl,gn,f⟩,h⟩;simp [results,results23,cU,n]
section
section
variable {P:cS} {ops:Array cK} {Q:Exit->Act->cB->Prop} {md:Region.Mode} {S:cB->Prop} {z:Nat}
def LH(md:Region.Mode)(ops:Array cK)(N z i:Nat): Bool:=(List.range ops.size).all λj=>decide (j<z)||oW md ops N j i
theorem Tu{N i j:Nat}{a:cK}(h:LH md ops N z i=cW)(k:ops[j]?=cy a)(J:z<=j): oW md ops N j i=cW:=by have e:=aZ.1 h j (aX.2 (ae.1 k).1);rw [ak (by omega)]at e;simpa using e
def dY(P:cS)(md:Region.Mode)(ops:Array cK)(Q:Exit->Act->cB->Prop)(S:cB->Prop)(z:Nat): Nat->Array Bool->Act->cB->Prop
 |0,done,a,w=>Region.ready md ops done=[]/\Q .normal a w
 |n+1,done,a,w=>(Region.ready md ops done=[]->Q .normal a w)/\
  ∀i∈Region.ready md ops done,wpOp P ops Q i (λb w'=>(i<z->S w')/\dY P md ops Q S z n (done.setIfInBounds i cW) b w') a w
theorem dY.any:∀{n:Nat} {done:Array Bool} {a:Act} {w:cB},dY P md ops Q S z n done a w->wpAny P md ops Q n done a w
 |0,_,_,_,h=>h
 |_+1,_,_,_,h=>⟨h.1,λi m=>wpOp_mono (λ_ _ b=>dY.any b.2) (h.2 i m)⟩
theorem dY.first{i N:Nat}{l:cK}{v:cH}(t:ops[i]?=cy l)(G:∀(j:Nat) (o:cK) m b,ops[j]?=cy o->o.op≠.select m b)(R:∀c a w,Q (.panic c) (a.put l.dst v) w->Q (.panic c) a w)(hz:LH md ops N z i=cW):
  ∀(n:Nat) (done:Array Bool) (a:Act) (w:cB),(∀j f,ops[j]?=cy f->j≠i->done.getD j cW=cX->(∀e∈f.after,Region.binds md e=cW->e.on≠i)->l.apart ops f=cW)->
   BU md ops done->i∈Region.ready md ops done->YieldsIf P ops S l v a->S w->dY P md ops Q S z n (done.setIfInBounds i cW) (a.put l.dst v) w->dY P md ops Q S z (n+1) done a w:=by
 intro n;induction n with
 |zero=>
  intro done a w _ _ C s p H;refine⟨λh=>absurd C (by simp [h]),λj g=>?_⟩;by_cases d:j=i
  .subst d;exact s.wpOp t p ⟨λ_=>p,H⟩
  have:=ready_mono g d;rw [H.1]at this;cases this
 |succ n ih=>
  intro done a w A F C s p H;refine⟨λh=>absurd C (by simp [h]),λj g=>?_⟩;by_cases d:j=i
  .subst d;exact s.wpOp t p ⟨λ_=>p,H⟩
  obtain⟨E,f,q,T⟩:=mem_ready.1 g;have B:=ui (mem_ready.1 C).1;have X:j<z:=by
   rcases Nat.lt_or_ge j z with h|h
   .exact h
   exfalso;have:=uN F N j i (Tu hz q h) λk u=>rQ g u;rw [B]at this;cases this
  have a0:∀e∈f.after,Region.binds md e=cW->e.on≠i:=by intro e V U W;have x:=T e V U;rw [W,B]at x;cases x
  have K:=wpOp_putIf q (A j f q d E a0) (λm b=>G i l m b t) (λm b=>G j f m b q) R s (H.2 j (ready_mono g d));refine wpOp_mono (λJ w' L=>?_) K;obtain⟨O,y,M⟩:=L;refine⟨y,ih _ J w' (λk ok u Y I Z=>A k ok u Y ?_ Z) (F.set g) (ready_mono C (Ne.symm d)) O (y X) ?_⟩
  .by_cases D:j=k
   .subst D;exact E
   rw [getD_set_ne cW D]at I;exact I
  rw [Array.setIfInBounds_comm _ _ d];exact M
theorem dY.take{i N:Nat}{l:cK}{d:Option Tmp}{v:cH}{n:Nat}{done:Array Bool}{a:Act}{w:cB}(m:ops[i]?=cy l)(E:l.dst=d)
  (b:(Region.noSelect ops&&Region.free md ops done i&&(Region.ready md ops done).contains i&&Ae md ops done&&LH md ops N z i)=cW)
  (R:∀c a w,Q (.panic c) (a.put d v) w->Q (.panic c) a w) (o:Region.wanted l (cI ops a.tmps)=cW) (hy:∀w,S w->(cT a.eval l).run P w=.ok (.value v) w) (hS:S w)
  (h:dY P md ops Q S z n (done.setIfInBounds i cW) (a.put d v) w):dY P md ops Q S z (n+1) done a w:=by
 subst E;simp only [az]at b;obtain⟨⟨⟨⟨e,f⟩,g⟩,j⟩,k⟩:=b;exact dY.first m (Region.noSelect_spec e) R k n done a w (Region.free_spec m f) (Eo j) (by simpa using g) (.inl ⟨o,hy⟩) hS h
theorem dY.one{i:Nat}{l:cK}{n:Nat}{done:Array Bool}{a:Act}{w:cB}(o:ops[i]?=cy l)(C:(Region.ready md ops done==[i])=cW)(m:Region.wanted l (cI ops a.tmps)=cW)
  (h:∀K:Act->cB->Prop,(∀b w',(i<z->S w')->dY P md ops Q S z n (done.setIfInBounds i cW) b w'->K b w')->Oper.wp P l a w K Q):dY P md ops Q S z (n+1) done a w:=by
 have c:Region.ready md ops done=[i]:=by simpa using C
 refine⟨λe=>(by rw [c]at e;cases e),λj k=>?_⟩;rw [c,aN]at k;subst k;refine cQ o λK f=>?_;rw [aG m];exact h K λb w' g d=>f b w' ⟨g,d⟩
theorem dY.done{n:Nat}{done:Array Bool}{a:Act}{w:cB}(C:(Region.ready md ops done==[])=cW)(h:Q .normal a w): dY P md ops Q S z n done a w:=by
 have c:Region.ready md ops done=[]:=by simpa using C
 cases n with
 |zero=>exact⟨c,h⟩
 |succ n=>exact⟨λ_=>h,by rw [c];simp⟩
theorem dY.start(S:cB->Prop)(z:Nat){id:Nat}{a:Act}{w:cB}(e:P.follows .mixedOrders=cW)
  (h:dY P .any ops Q S z ops.size (Array.replicate ops.size cX) a w.drew):(Code.region id ops cW).wp P Q a w:=
 wp_region_any e h.any
theorem dY.two{i j:Nat}{l f:cK}{n:Nat}{done:Array Bool}{a:Act}{w:cB}(t:ops[i]?=cy l)(u:ops[j]?=cy f)(C:(Region.ready md ops done==[i,j])=cW)(m:Region.wanted l (cI ops a.tmps)=cW)(o:Region.wanted f (cI ops a.tmps)=cW)
  (p:∀K:Act->cB->Prop,(∀b w',(i<z->S w')->dY P md ops Q S z n (done.setIfInBounds i cW) b w'->K b w')->Oper.wp P l a w K Q)
  (s:∀K:Act->cB->Prop,(∀b w',(j<z->S w')->dY P md ops Q S z n (done.setIfInBounds j cW) b w'->K b w')->Oper.wp P f a w K Q):dY P md ops Q S z (n+1) done a w:=by
 have k:Region.ready md ops done=[i,j]:=by simpa using C
 refine⟨λg=>(by rw [k]at g;cases g),λq h=>?_⟩;rw [k,aS,aN]at h;rcases h with rfl|rfl
 .refine cQ t λK d=>?_;rw [aG m];exact p K λb w' e c=>d b w' ⟨e,c⟩
 refine cQ u λK d=>?_;rw [aG o];exact s K λb w' e c=>d b w' ⟨e,c⟩
theorem pk(i N:Nat)(d:Tmp)(v:cH){l:cK}{n:Nat}{done:Array Bool}{a:Act}{w:cB}(hS:S w)(h:dY P md ops Q S z n (done.setIfInBounds i cW) (a.put (cy d) v) w)(m:ops[i]?=cy l:=by rfl)(E:l.dst=cy d:=by rfl)
  (b:(Region.noSelect ops&&Region.free md ops done i&&(Region.ready md ops done).contains i&&Ae md ops done&&LH md ops N z i)=cW:=by kernel_rfl)
  (R:∀c a w,Q (.panic c) (a.put (cy d) v) w->Q (.panic c) a w:=by exact λ_ _ _ h=>h) (e:Region.wanted l (cI ops a.tmps)=cW:=by rfl) (hy:∀w,S w->(cT a.eval l).run P w=.ok (.value v) w:=by intro w' f;go_simp):dY P md ops Q S z (n+1) done a w:=
 dY.take m E b R e hy hS h
theorem Oo(i:Nat){l:cK}{n:Nat}{done:Array Bool}{a:Act}{w:cB}
 (h:∀K:Act->cB->Prop,(∀b w',(i<z->S w')->dY P md ops Q S z n (done.setIfInBounds i cW) b w'->K b w')->Oper.wp P l a w K Q) (m:ops[i]?=cy l:=by rfl) (C:(Region.ready md ops done==[i])=cW:=by kernel_rfl) (d:Region.wanted l (cI ops a.tmps)=cW:=by rfl):dY P md ops Q S z (n+1) done a w:=dY.one m C d h
end
end
def Af.px(p:Af)(x y:Int): Int:=p.a*x+p.b*y+p.c
def Af.py(p:Af)(x y:Int): Int:=p.d*x+p.e*y+p.f
theorem Af.img(p:Af)(t:p.ok=cW)(x y:Int)(g:-1048576<=x)(h:x<=1048576)(i:-1048576<=y)(j:y<=1048576):
  (db (p.a*x)=p.a*x/\db (p.b*y)=p.b*y/\db (p.a*x+p.b*y)=p.a*x+p.b*y/\db (p.a*x+p.b*y+p.c)=p.px x y)/\
  (db (p.d*x)=p.d*x/\db (p.e*y)=p.e*y/\db (p.d*x+p.e*y)=p.d*x+p.e*y/\db (p.d*x+p.e*y+p.f)=p.py x y)/\
  (-17179869184<=p.px x y/\p.px x y<=17179869184)/\-17179869184<=p.py x y/\p.py x y<=17179869184:=by
 obtain⟨⟨⟨⟨k,l⟩,m,s⟩,⟨n,F⟩,o,q⟩,⟨C,D⟩,⟨B,c1⟩,z,A⟩:=p.bds t;unfold Af.px Af.py;obtain⟨u,v⟩:=qy k l g h gn gn;obtain⟨w,L⟩:=qy m s i j gn gn;obtain⟨N,O⟩:=qy n F g h gn gn;obtain⟨P,Q⟩:=qy o q i j gn gn;simp only [Int.reduceMul,Int.reduceNeg]at u v w L N O P Q;generalize p.a*x=E,p.b*y=G,p.d*x=H,p.e*y=I at *;exact⟨⟨dN _ gn gn,dN _ gn gn,dN _ gn gn,dN _ gn gn⟩,⟨dN _ gn gn,dN _ gn gn,dN _ gn gn,dN _ gn gn⟩,⟨gn,gn⟩,gn,gn⟩
def Ap(r:Rc): Nat->Int
 |0=>r.x0
 |1=>r.x1
 |2=>r.x0
 |_=>r.x1
def AU(r:Rc): Nat->Int
 |0=>r.y0
 |1=>r.y0
 |2=>r.y1
 |_=>r.y1
def jf(g:Nat->Int): Nat->Int
 |0=>1152921504606846976
 |k+1=>min (jf g k) (g k)
def gB(g:Nat->Int): Nat->Int
 |0=>-1152921504606846976
 |k+1=>max (gB g k) (g k)
def Af.gx(p:Af)(r:Rc)(k:Nat): Int:=p.px (Ap r k) (AU r k)
def Af.gy(p:Af)(r:Rc)(k:Nat): Int:=p.py (Ap r k) (AU r k)
def Cj(q b c a hy:Int): Rc:=⟨qG (2*b-q) (2*q),qG (2*c-q) (2*q),iq (2*a-q) (2*q)+1,iq (2*hy-q) (2*q)+1⟩
def Af.bnds(p:Af)(r:Rc): Rc:=(Cj p.den (jf (p.gx r) 4) (jf (p.gy r) 4) (gB (p.gx r) 4) (gB (p.gy r) 4)).can
theorem zi{g:Nat->Int}(h:∀k,-17179869184<=g k/\g k<=17179869184): -17179869184<=jf g 4/\jf g 4<=17179869184:=by have e:=h 0;have a:=h 1;have f:=h 2;have b:=h 3;unfold jf jf jf jf jf;omega
theorem uU{g:Nat->Int}(h:∀k,-17179869184<=g k/\g k<=17179869184): -17179869184<=gB g 4/\gB g 4<=17179869184:=by have e:=h 0;have a:=h 1;have f:=h 2;have b:=h 3;unfold gB gB gB gB gB;omega
theorem VY{g:Nat->Int}(h:∀k,-17179869184<=g k/\g k<=17179869184): jf g 4=min (min (min (g 0) (g 1)) (g 2)) (g 3):=by have e:=h 0;unfold jf jf jf jf jf;omega
theorem Uw{g:Nat->Int}(h:∀k,-17179869184<=g k/\g k<=17179869184): gB g 4=max (max (max (g 0) (g 1)) (g 2)) (g 3):=by have e:=h 0;unfold gB gB gB gB gB;omega
theorem gW{r:Rc}(C:r.InC)(k:Nat): (-1048576<=Ap r k/\Ap r k<=1048576)/\-1048576<=AU r k/\AU r k<=1048576:=by obtain⟨g,h,j,p,s,u⟩:=C;unfold Ap AU;constructor<;>split<;>omega
theorem Ux{p:Af}(b:p.ok=cW){r:Rc}(C:r.InC)(k:Nat): (-17179869184<=p.gx r k/\p.gx r k<=17179869184)/\-17179869184<=p.gy r k/\p.gy r k<=17179869184:=by obtain⟨⟨g,h⟩,a,s⟩:=gW C k;exact (p.img b _ _ g h a s).2.2
theorem mr{w:cB}{b:Nat}{x y p q:cH}{ty:cM}(h:w.heap[b]?=cy (co #[x,y] ty (0,0))): ((w.setCell ⟨b,0,cz⟩ p).setCell ⟨b,1,cz⟩ q).heap[b]?=cy (co #[p,q] ty (0,0)):=qS
theorem bW{w:cB}{b c i:Nat}{v:cH}{x:Option Obj}(h:w.heap[c]?=x)(g:c≠b): (w.setCell ⟨b,i,cz⟩ v).heap[c]?=x:=by have:¬b=c:=λe=>g e.symm;simp [World.setCell,au,h,this]
theorem JL{w u v:cB}{b c:Nat}(h:bH [] w u)(k:bH [b,c] u v)(g:w.heap.size<=b)(d:w.heap.size<=c): bH [] w v:=
 ⟨aK h.size k.size,λj a G=>(k.old j (aj a h.size) lO).t (h.old j a G),k.os.t h.os,k.tape.t h.tape,k.output.t h.output⟩
theorem U5:(prog.info? 59).map (λi=>(i.zero,i.size))=cy (cy (cr #[(0:Int),(0:Int),(0:Int),(0:Int)]),4):=lB
theorem wH: AL 59 #[(0:Int),(0:Int),(0:Int),(0:Int)]:=λu=>by unfold Instr.alloc;rw [Sem.run_bind,(cE U5).1];rfl
theorem Nq(p:Af)(hp:p.ok=cW)(r:Rc)(F:r.InC)(w:cB):
  CR 150 #[p.v,r.v] w (cr #[cq .i64 (p.bnds r).x0,cq .i64 (p.bnds r).y0,cq .i64 (p.bnds r).x1,cq .i64 (p.bnds r).y1,(0:Int)]):=by
 have hV:=λw=>xA p w;rw [hp]at hV;have hE:=λw=>iM r w;rw [F.full]at hE;obtain⟨HV,HE,HR⟩:=lh3 hV hE (Jw r F);have bT:=p.bds hp;have bl:=λk=>Ux hp F k;have bm:=zi λk=>(bl k).1;have bo:=zi λk=>(bl k).2;have bp:=uU λk=>(bl k).1;have bq:=uU λk=>(bl k).2;have bs:=p.img hp r.x0 r.y0 (gW F 0).1.1 (gW F 0).1.2 (gW F 0).2.1 (gW F 0).2.2;have iv:=p.img hp r.x1 r.y0 (gW F 1).1.1 (gW F 1).1.2 (gW F 1).2.1 (gW F 1).2.2;have bt:=p.img hp r.x0 r.y1 (gW F 2).1.1 (gW F 2).1.2 (gW F 2).2.1 (gW F 2).2.2;have iy:=p.img hp r.x1 r.y1 (gW F 3).1.1 (gW F 3).1.2 (gW F 3).2.1 (gW F 3).2.2;rw [show p.px r.x0 r.y0=p.gx r 0 from rfl,show p.py r.x0 r.y0=p.gy r 0 from rfl]at bs;rw [show p.px r.x1 r.y0=p.gx r 1 from rfl,show p.py r.x1 r.y0=p.gy r 1 from rfl]at iv;rw [show p.px r.x0 r.y1=p.gx r 2 from rfl,show p.py r.x0 r.y1=p.gy r 2 from rfl]at bt;rw [show p.px r.x1 r.y1=p.gx r 3 from rfl,show p.py r.x1 r.y1=p.gy r 3 from rfl]at iy;have be:p.bnds r=(Cj p.den (jf (p.gx r) 4) (jf (p.gy r) 4) (gB (p.gx r) 4) (gB (p.gy r) 4)).can:=rfl;rw [be];generalize p.gx r=I,p.gy r=J at *;have hm:=Gl (Cj p.den (jf I 4) (jf J 4) (gB I 4) (gB J 4)) Rc.cv;rw [show (Cj p.den (jf I 4) (jf J 4) (gB I 4) (gB J 4)).meet Rc.cv=(Cj p.den (jf I 4) (jf J 4) (gB I 4) (gB J 4)).can from rfl]at hm;have bL:=lh (bg bT.2.1 (bg bm (bg bo (bg bp bq))));obtain⟨bw,bz,bA,bB,HM⟩:=lh5 bs iv bt iy hm;clear hV hE F bT bl bm bo bp bq bs iv bt iy be hm hp;obtain⟨a,b,c,d,e,f,s⟩:=p;obtain⟨x0,C,x1,D⟩:=r;simp only [Af.v,Rc.v,Rc.cv]at *;generalize be:(Cj s (jf I 4) (jf J 4) (gB I 4) (gB J 4)).can=cj at *;obtain⟨m0,m1,m2,m3⟩:=cj;simp only at *;have bM:=lh be;clear be;obtain⟨W,hW⟩:=eX (((w.alloc (co #[a,b,c,d,e,f,s] 40)).alloc (co #[x0,C,x1,D] 59)).alloc (co #[(0:Int),(0:Int),(0:Int),(0:Int),(0:Int)] 223));have T0:bH [] w W:=hW▸(((tR w).a _).a _).a _;have L:w.heap.size+3<=W.heap.size:=od
 obtain⟨R,S,T,a7,a8,a9,U⟩:=Qh (DD hW).1;obtain⟨af,am,an,ao⟩:=GX (DD hW).2.1;obtain⟨aa,ab,ac,ad,X⟩:=WT (DD hW).2.2;have E:∀i,W.frozen? ⟨w+2,i,cz⟩=cX:=λi=>rH
 go_enter func150,ntmps150;go_upto_region 1 with (fail)
 rw [<-hW];clear hW;go_upto_region 2 with (go_at_call 114;refine mR (HV.o _) λu0 G=>?_)
 obtain⟨g,q⟩:=bY G;replace R:=tq g R;replace S:=tq g S;replace T:=tq g T;replace a7:=tq g a7;replace a8:=tq g a8;replace a9:=tq g a9;replace U:=tq g U;replace af:=tq g af;replace am:=tq g am;replace an:=tq g an;replace ao:=tq g ao;replace aa:=tq g aa;replace ab:=tq g ab;replace ac:=tq g ac;replace ad:=tq g ad;replace X:=tq g X;replace E:=λi=>(q (w.heap.size+2) i gn).t (E i);clear g q;have T1:=T0.t G;replace L:=aK L G.size;clear G T0;go_upto_region 3 with (go_at_call 111;refine mR (HE.o _) λu1 G=>?_)
 obtain⟨g,q⟩:=bY G;replace R:=tq g R;replace S:=tq g S;replace T:=tq g T;replace a7:=tq g a7;replace a8:=tq g a8;replace a9:=tq g a9;replace U:=tq g U;replace af:=tq g af;replace am:=tq g am;replace an:=tq g an;replace ao:=tq g ao;replace aa:=tq g aa;replace ab:=tq g ab;replace ac:=tq g ac;replace ad:=tq g ad;replace X:=tq g X;replace E:=λi=>(q (w.heap.size+2) i gn).t (E i);clear g q;have T2:=T1.t G;replace L:=aK L G.size;clear G T1;go_upto_region 4 with (go_at_call 50;refine mR (HR.o _) λu2 G=>?_)
 obtain⟨g,q⟩:=bY G;replace R:=tq g R;replace S:=tq g S;replace T:=tq g T;replace a7:=tq g a7;replace a8:=tq g a8;replace a9:=tq g a9;replace U:=tq g U;replace af:=tq g af;replace am:=tq g am;replace an:=tq g an;replace ao:=tq g ao;replace aa:=tq g aa;replace ab:=tq g ab;replace ac:=tq g ac;replace ad:=tq g ad;replace X:=tq g X;replace E:=λi=>(q (w.heap.size+2) i gn).t (E i);clear g q;have T3:=T2.t G;replace L:=aK L G.size;clear G T2;go_upto_region 9 with (fail)
 obtain⟨X8,bb⟩:=eX (u2.alloc (co #[x0,x1] 57));have z:bH [] u2 X8:=bb▸(tR u2).a _;have h8:=YE bb
 have Y:u2.heap.size<X8.heap.size:=by rw [bb];simp
 have g8:w.heap.size+3<=u2.heap.size:=L;obtain⟨g,q⟩:=bY z;replace R:=tq g R;replace S:=tq g S;replace T:=tq g T;replace a7:=tq g a7;replace a8:=tq g a8;replace a9:=tq g a9;replace U:=tq g U;replace af:=tq g af;replace am:=tq g am;replace an:=tq g an;replace ao:=tq g ao;replace aa:=tq g aa;replace ab:=tq g ab;replace ac:=tq g ac;replace ad:=tq g ad;replace X:=tq g X;replace E:=λi=>(q (w.heap.size+2) i gn).t (E i);clear g q;replace T3:=T3.t z;replace L:=aK L z.size;rw [<-bb];clear z bb;generalize u2.heap.size=H at *;go_upto_region 10 with (fail)
 obtain⟨X9,bc⟩:=eX (X8.alloc (co #[C,D] 57));have z:bH [] X8 X9:=bc▸(tR X8).a _;have h9:=YE bc
 have k9:X8.heap.size<X9.heap.size:=by rw [bc];simp
 have g9:w.heap.size+3<=X8.heap.size:=L;replace h8:=(z.old H Y lz).t h8;have ce:H<X8.heap.size:=Y;obtain⟨g,q⟩:=bY z;replace R:=tq g R;replace S:=tq g S;replace T:=tq g T;replace a7:=tq g a7;replace a8:=tq g a8;replace a9:=tq g a9;replace U:=tq g U;replace af:=tq g af;replace am:=tq g am;replace an:=tq g an;replace ao:=tq g ao;replace aa:=tq g aa;replace ab:=tq g ab;replace ac:=tq g ac;replace ad:=tq g ad;replace X:=tq g X;replace E:=λi=>(q (w.heap.size+2) i gn).t (E i);clear g q;replace T3:=T3.t z;replace Y:=aj Y z.size;replace L:=aK L z.size;rw [<-bc];clear z bc;generalize X8.heap.size=O at *;go_upto_region 11 with (fail)
 obtain⟨ar,b7⟩:=eX (X9.alloc (co #[(1152921504606846976:Int),(1152921504606846976:Int)] 123));have z:bH [] X9 ar:=b7▸(tR X9).a _;have bk:=YE b7
 have b3:X9.heap.size<ar.heap.size:=sd
 have bP:w.heap.size+3<=X9.heap.size:=L;replace h8:=(z.old H Y lz).t h8;replace h9:=(z.old O k9 lz).t h9;have cc:H<X9.heap.size:=Y;have cf:O<X9.heap.size:=k9;obtain⟨g,q⟩:=bY z;replace R:=tq g R;replace S:=tq g S;replace T:=tq g T;replace a7:=tq g a7;replace a8:=tq g a8;replace a9:=tq g a9;replace U:=tq g U;replace af:=tq g af;replace am:=tq g am;replace an:=tq g an;replace ao:=tq g ao;replace aa:=tq g aa;replace ab:=tq g ab;replace ac:=tq g ac;replace ad:=tq g ad;replace X:=tq g X;replace E:=λi=>(q (w.heap.size+2) i gn).t (E i);clear g q;replace T3:=T3.t z;replace Y:=aj Y z.size;replace k9:=aj k9 z.size;replace L:=aK L z.size;rw [<-b7];clear z b7;generalize X9.heap.size=Q at *;go_upto_region 12 with (fail)
 obtain⟨aM,ba⟩:=eX (ar.alloc (co #[(-1152921504606846976:Int),(-1152921504606846976:Int)] 123));have z:bH [] ar aM:=ba▸(tR ar).a _;have bS:=YE ba
 have bX:ar.heap.size<aM.heap.size:=by rw [ba];simp
 have bR:w.heap.size+3<=ar.heap.size:=L;replace h8:=(z.old H Y lz).t h8;replace h9:=(z.old O k9 lz).t h9;replace bk:=(z.old Q b3 lz).t bk;have cd:H<ar.heap.size:=Y;have cg:O<ar.heap.size:=k9;have cb:Q<ar.heap.size:=b3;obtain⟨g,q⟩:=bY z;replace R:=tq g R;replace S:=tq g S;replace T:=tq g T;replace a7:=tq g a7;replace a8:=tq g a8;replace a9:=tq g a9;replace U:=tq g U;replace af:=tq g af;replace am:=tq g am;replace an:=tq g an;replace ao:=tq g ao;replace aa:=tq g aa;replace ab:=tq g ab;replace ac:=tq g ac;replace ad:=tq g ad;replace X:=tq g X;replace E:=λi=>(q (w.heap.size+2) i gn).t (E i);clear g q;replace T3:=T3.t z;replace Y:=aj Y z.size;replace k9:=aj k9 z.size;replace b3:=aj b3 z.size;replace L:=aK L z.size;rw [<-ba];clear z ba;generalize ar.heap.size=B at *;obtain⟨HB,HK,HG⟩:=lh3 (bg h8 h9) (bg Y (bg k9 (bg b3 bX))) (bg g8 (bg g9 (bg bP bR)));have c6:Hid (H≠Q/\H≠B/\O≠Q/\O≠B/\Q≠B):=lh gn;clear h8 h9 ce cc cd cf cg cb;go_wp2_with fail
 go_loopw [12] (λs12 wr=>∃k:Nat,k<=4/\s12=k/\bH [Q,B] aM wr/\wr.heap[Q]?=cy (co #[(jf I k:Int),(jf J k:Int)] 123 (0,0))/\wr.heap[B]?=cy (co #[(gB I k:Int),(gB J k:Int)] 123 (0,0))) (λs12 _=>4-(dc s12).toNat);case atStart=>exact⟨0,gn,rfl,bH.refl _ _,bk,bS⟩
 obtain⟨k,hk,rfl,TR,b4,b5⟩:=hrel;obtain⟨g,q⟩:(∀b o,b<aM.heap.size->b≠Q->b≠B->wr.cell? ⟨b,o,cz⟩=aM.cell? ⟨b,o,cz⟩)/\(∀b o,b<aM.heap.size->b≠Q->b≠B->wr.frozen? ⟨b,o,cz⟩=aM.frozen? ⟨b,o,cz⟩):=⟨λb o h h1 h2=>by simp only [World.cell?,TR.old b h (by simp [h1,h2])],λb o h h1 h2=>by simp only [World.frozen?,TR.old b h (by simp [h1,h2])]⟩;obtain⟨Y,k9,b3,bX⟩:=HK.o;obtain⟨g8,g9,bP,bR⟩:=HG.o;obtain⟨n1,n2,n3,n4,P⟩:=c6.o;have cm:=TR.size;have a0:=(g w.heap.size 0 gn gn gn).t R;have a1:=(g w.heap.size 1 gn gn gn).t S;have a2:=(g w.heap.size 2 gn gn gn).t T;have a3:=(g w.heap.size 3 gn gn gn).t a7;have a4:=(g w.heap.size 4 gn gn gn).t a8;have a5:=(g w.heap.size 5 gn gn gn).t a9;have a6:=(g w.heap.size 6 gn gn gn).t U;have z0:=(g (w.heap.size+2) 0 gn gn gn).t aa;have z1:=(g (w.heap.size+2) 1 gn gn gn).t ab;have z2:=(g (w.heap.size+2) 2 gn gn gn).t ac;have z3:=(g (w.heap.size+2) 3 gn gn gn).t ad;have z4:=(g (w.heap.size+2) 4 gn gn gn).t X;have E:=λi=>(q (w.heap.size+2) i gn gn gn).t (E i);have r8:=(TR.old H Y (by simp [n1,n2])).t HB.o.1;have r9:=(TR.old O k9 (by simp [n3,n4])).t HB.o.2;have d0:=cO 0 x0 r8;have d1:=cO 1 x1 r8;have d2:=cO 0 C r9;have d3:=cO 1 D r9;have l0:=cO 0 (cq .i64 (jf I k)) b4;have l1:=cO 1 (cq .i64 (jf J k)) b4;have l2:=cO 0 (cq .i64 (gB I k)) b5;have l3:=cO 1 (cq .i64 (gB J k)) b5;have ZH:=λi=>dm b4 i;have Z5:=λi=>dm b5 i;have M:Q<wr.heap.size:=(ae.1 b4).1;have N:B<wr.heap.size:=(ae.1 b5).1;have av:H<wr.heap.size:=by omega
 have ax:O<wr.heap.size:=gn
 have A:w.heap.size<wr.heap.size:=gn
 obtain⟨b1,bh,bj,c7⟩:=lh4 TR b4 b5 T3;clear g q TR r8 r9 b4 b5 bk bS T3 R S T a7 a8 a9 U af am an ao aa ab ac ad X;by_cases ca:k<4
 .obtain rfl|rfl|rfl|rfl:k=0\/k=1\/k=2\/k=3:=by omega
  .obtain⟨⟨i1,i2,i3,i4⟩,⟨i5,i6,i7,i8⟩,_⟩:=bw.o;have j1:=(mM _).t i1;have j2:=(mM _).t i2;have j3:=(mM _).t i3;have j4:=(mM _).t i4;have j5:=(mM _).t i5;have j6:=(mM _).t i6;have j7:=(mM _).t i7;have j8:=(mM _).t i8;have j9:IntKind.i64.wrap 0=0:=lG;have b0:IntKind.i64.wrap 1=1:=lG;clear i1 i2 i3 i4 i5 i6 i7 i8 z0 z1 z2 z3 z4 E;(go_upto_region 15 with (fail));refine sN 18 (tR wr) λaL l=>?_;refine fK 0 ?_;refine fE 1 a ?_ (j:=λw' j=>na);refine fE 2 ((0:Int)) ?_;refine fE 3 ((0:Int)) ?_;refine fK 4 ?_;refine fE 5 x0 ?_ (j:=λw' j=>by have g:=(bY j).1;have y:=(g H 0 av).t d0;go_simp);refine fE 6 (cq .i64 (a*x0)) ?_;refine fK 7 ?_;refine fE 8 b ?_ (j:=λw' j=>by have g:=(bY j).1;have y:=(g w.heap.size 1 A).t a1;go_simp);refine fE 9 ((0:Int)) ?_;refine fE 10 ((0:Int)) ?_;refine fK 11 ?_;refine fE 12 C ?_ (j:=λw' j=>by have g:=(bY j).1;have y:=(g O 0 ax).t d2;go_simp);refine fE 13 (cq .i64 (b*C)) ?_;refine fE 14 (cq .i64 (a*x0+b*C)) ?_;refine fK 15 ?_;refine fE 16 c ?_ (j:=λw' j=>by have g:=(bY j).1;have y:=(g w.heap.size 2 A).t a2;go_simp);refine fE 17 (cq .i64 (I 0)) ?_;refine Yo ?_;have x:=lh l;clear l;generalize aL=wv at *;(go_upto_region 16 with (fail));refine sN 18 (tR wv) λbr l=>?_;refine fK 0 ?_;refine fE 1 d ?_ (j:=λw' j=>by have g:=(bY (x.o.t j)).1;have y:=(g w.heap.size 3 A).t a3;go_simp);refine fE 2 ((0:Int)) ?_;refine fE 3 ((0:Int)) ?_;refine fK 4 ?_;refine fE 5 x0 ?_ (j:=λw' j=>by have g:=(bY (x.o.t j)).1;have y:=(g H 0 av).t d0;go_simp);refine fE 6 (cq .i64 (d*x0)) ?_;refine fK 7 ?_;refine fE 8 e ?_ (j:=λw' j=>by have g:=(bY (x.o.t j)).1;have y:=(g w.heap.size 4 A).t a4;go_simp);refine fE 9 ((0:Int)) ?_;refine fE 10 ((0:Int)) ?_;refine fK 11 ?_;refine fE 12 C ?_ (j:=λw' j=>by have g:=(bY (x.o.t j)).1;have y:=(g O 0 ax).t d2;go_simp);refine fE 13 (cq .i64 (e*C)) ?_;refine fE 14 (cq .i64 (d*x0+e*C)) ?_;refine fK 15 ?_;refine fE 16 f ?_ (j:=λw' j=>by have g:=(bY (x.o.t j)).1;have y:=(g w.heap.size 5 A).t a5;go_simp);refine fE 17 (cq .i64 (J 0)) ?_;refine Yo ?_;have l:=x.o.t l;obtain⟨g,q⟩:=bY l;have l0:=(g Q 0 M).t l0;have l1:=(g Q 1 M).t l1;have l2:=(g B 0 N).t l2;have l3:=(g B 1 N).t l3;have ZH:=λi=>(q Q i M).t (ZH i);have Z5:=λi=>(q B i N).t (Z5 i);have ap:=(l.old Q M lz).t bh.o;have aq:=(l.old B N lz).t bj.o;obtain⟨ay,aD,aE⟩:=lh3 ap aq l;clear g q l ap aq x a0 a1 a2 a3 a4 a5 a6 d0 d1 d2 d3 j1 j2 j3 j4 j5 j6 j7 j8 j9 b0;(go_wp2_with (first|(refine iV rfl _ _ rfl rfl rfl ?_)|(refine iG rfl _ _ rfl rfl rfl ?_)));go_roundw;case rel=>exact⟨1,by omega,by go_num,b1.o.t (((((aE.o.mono lz).setCell _ (.inl lz)).setCell _ (.inl lz)).setCell _ (.inl lz)).setCell _ (.inl lz)),bW (bW (mr ay.out) P) P,mr (bW (bW aD.out (Ne.symm P)) (Ne.symm P))⟩
   simp [dc]
  .obtain⟨⟨i1,i2,i3,i4⟩,⟨i5,i6,i7,i8⟩,_⟩:=bz.o;have j1:=(mM _).t i1;have j2:=(mM _).t i2;have j3:=(mM _).t i3;have j4:=(mM _).t i4;have j5:=(mM _).t i5;have j6:=(mM _).t i6;have j7:=(mM _).t i7;have j8:=(mM _).t i8;have j9:IntKind.i64.wrap 0=0:=lG;have b0:IntKind.i64.wrap 1=1:=lG;clear i1 i2 i3 i4 i5 i6 i7 i8 z0 z1 z2 z3 z4 E;(go_upto_region 15 with (fail));refine sN 18 (tR wr) λaL l=>?_;refine fK 0 ?_;refine fE 1 a ?_ (j:=λw' j=>na);refine fE 2 ((1:Int)) ?_;refine fE 3 ((1:Int)) ?_;refine fK 4 ?_;refine fE 5 x1 ?_ (j:=λw' j=>by have g:=(bY j).1;have y:=(g H 1 av).t d1;go_simp);refine fE 6 (cq .i64 (a*x1)) ?_;refine fK 7 ?_;refine fE 8 b ?_ (j:=λw' j=>by have g:=(bY j).1;have y:=(g w.heap.size 1 A).t a1;go_simp);refine fE 9 ((1:Int)) ?_;refine fE 10 ((0:Int)) ?_;refine fK 11 ?_;refine fE 12 C ?_ (j:=λw' j=>by have g:=(bY j).1;have y:=(g O 0 ax).t d2;go_simp);refine fE 13 (cq .i64 (b*C)) ?_;refine fE 14 (cq .i64 (a*x1+b*C)) ?_;refine fK 15 ?_;refine fE 16 c ?_ (j:=λw' j=>by have g:=(bY j).1;have y:=(g w.heap.size 2 A).t a2;go_simp);refine fE 17 (cq .i64 (I 1)) ?_;refine Yo ?_;have x:=lh l;clear l;generalize aL=wv at *;(go_upto_region 16 with (fail));refine sN 18 (tR wv) λbr l=>?_;refine fK 0 ?_;refine fE 1 d ?_ (j:=λw' j=>by have g:=(bY (x.o.t j)).1;have y:=(g w.heap.size 3 A).t a3;go_simp);refine fE 2 ((1:Int)) ?_;refine fE 3 ((1:Int)) ?_;refine fK 4 ?_;refine fE 5 x1 ?_ (j:=λw' j=>by have g:=(bY (x.o.t j)).1;have y:=(g H 1 av).t d1;go_simp);refine fE 6 (cq .i64 (d*x1)) ?_;refine fK 7 ?_;refine fE 8 e ?_ (j:=λw' j=>by have g:=(bY (x.o.t j)).1;have y:=(g w.heap.size 4 A).t a4;go_simp);refine fE 9 ((1:Int)) ?_;refine fE 10 ((0:Int)) ?_;refine fK 11 ?_;refine fE 12 C ?_ (j:=λw' j=>by have g:=(bY (x.o.t j)).1;have y:=(g O 0 ax).t d2;go_simp);refine fE 13 (cq .i64 (e*C)) ?_;refine fE 14 (cq .i64 (d*x1+e*C)) ?_;refine fK 15 ?_;refine fE 16 f ?_ (j:=λw' j=>by have g:=(bY (x.o.t j)).1;have y:=(g w.heap.size 5 A).t a5;go_simp);refine fE 17 (cq .i64 (J 1)) ?_;refine Yo ?_;have l:=x.o.t l;obtain⟨g,q⟩:=bY l;have l0:=(g Q 0 M).t l0;have l1:=(g Q 1 M).t l1;have l2:=(g B 0 N).t l2;have l3:=(g B 1 N).t l3;have ZH:=λi=>(q Q i M).t (ZH i);have Z5:=λi=>(q B i N).t (Z5 i);have ap:=(l.old Q M lz).t bh.o;have aq:=(l.old B N lz).t bj.o;obtain⟨ay,aD,aE⟩:=lh3 ap aq l;clear g q l ap aq x a0 a1 a2 a3 a4 a5 a6 d0 d1 d2 d3 j1 j2 j3 j4 j5 j6 j7 j8 j9 b0;(go_wp2_with (first|(refine iV rfl _ _ rfl rfl rfl ?_)|(refine iG rfl _ _ rfl rfl rfl ?_)));go_roundw;case rel=>exact⟨2,by omega,by go_num,b1.o.t (((((aE.o.mono lz).setCell _ (.inl lz)).setCell _ (.inl lz)).setCell _ (.inl lz)).setCell _ (.inl lz)),bW (bW (mr ay.out) P) P,mr (bW (bW aD.out (Ne.symm P)) (Ne.symm P))⟩
   simp [dc]
  .obtain⟨⟨i1,i2,i3,i4⟩,⟨i5,i6,i7,i8⟩,_⟩:=bA.o;have j1:=(mM _).t i1;have j2:=(mM _).t i2;have j3:=(mM _).t i3;have j4:=(mM _).t i4;have j5:=(mM _).t i5;have j6:=(mM _).t i6;have j7:=(mM _).t i7;have j8:=(mM _).t i8;have j9:IntKind.i64.wrap 0=0:=lG;have b0:IntKind.i64.wrap 1=1:=lG;clear i1 i2 i3 i4 i5 i6 i7 i8 z0 z1 z2 z3 z4 E;(go_upto_region 15 with (fail));refine sN 18 (tR wr) λaL l=>?_;refine fK 0 ?_;refine fE 1 a ?_ (j:=λw' j=>na);refine fE 2 ((2:Int)) ?_;refine fE 3 ((0:Int)) ?_;refine fK 4 ?_;refine fE 5 x0 ?_ (j:=λw' j=>by have g:=(bY j).1;have y:=(g H 0 av).t d0;go_simp);refine fE 6 (cq .i64 (a*x0)) ?_;refine fK 7 ?_;refine fE 8 b ?_ (j:=λw' j=>by have g:=(bY j).1;have y:=(g w.heap.size 1 A).t a1;go_simp);refine fE 9 ((2:Int)) ?_;refine fE 10 ((1:Int)) ?_;refine fK 11 ?_;refine fE 12 D ?_ (j:=λw' j=>by have g:=(bY j).1;have y:=(g O 1 ax).t d3;go_simp);refine fE 13 (cq .i64 (b*D)) ?_;refine fE 14 (cq .i64 (a*x0+b*D)) ?_;refine fK 15 ?_;refine fE 16 c ?_ (j:=λw' j=>by have g:=(bY j).1;have y:=(g w.heap.size 2 A).t a2;go_simp);refine fE 17 (cq .i64 (I 2)) ?_;refine Yo ?_;have x:=lh l;clear l;generalize aL=wv at *;(go_upto_region 16 with (fail));refine sN 18 (tR wv) λbr l=>?_;refine fK 0 ?_;refine fE 1 d ?_ (j:=λw' j=>by have g:=(bY (x.o.t j)).1;have y:=(g w.heap.size 3 A).t a3;go_simp);refine fE 2 ((2:Int)) ?_;refine fE 3 ((0:Int)) ?_;refine fK 4 ?_;refine fE 5 x0 ?_ (j:=λw' j=>by have g:=(bY (x.o.t j)).1;have y:=(g H 0 av).t d0;go_simp);refine fE 6 (cq .i64 (d*x0)) ?_;refine fK 7 ?_;refine fE 8 e ?_ (j:=λw' j=>by have g:=(bY (x.o.t j)).1;have y:=(g w.heap.size 4 A).t a4;go_simp);refine fE 9 ((2:Int)) ?_;refine fE 10 ((1:Int)) ?_;refine fK 11 ?_;refine fE 12 D ?_ (j:=λw' j=>by have g:=(bY (x.o.t j)).1;have y:=(g O 1 ax).t d3;go_simp);refine fE 13 (cq .i64 (e*D)) ?_;refine fE 14 (cq .i64 (d*x0+e*D)) ?_;refine fK 15 ?_;refine fE 16 f ?_ (j:=λw' j=>by have g:=(bY (x.o.t j)).1;have y:=(g w.heap.size 5 A).t a5;go_simp);refine fE 17 (cq .i64 (J 2)) ?_;refine Yo ?_;have l:=x.o.t l;obtain⟨g,q⟩:=bY l;have l0:=(g Q 0 M).t l0;have l1:=(g Q 1 M).t l1;have l2:=(g B 0 N).t l2;have l3:=(g B 1 N).t l3;have ZH:=λi=>(q Q i M).t (ZH i);have Z5:=λi=>(q B i N).t (Z5 i);have ap:=(l.old Q M lz).t bh.o;have aq:=(l.old B N lz).t bj.o;obtain⟨ay,aD,aE⟩:=lh3 ap aq l;clear g q l ap aq x a0 a1 a2 a3 a4 a5 a6 d0 d1 d2 d3 j1 j2 j3 j4 j5 j6 j7 j8 j9 b0;(go_wp2_with (first|(refine iV rfl _ _ rfl rfl rfl ?_)|(refine iG rfl _ _ rfl rfl rfl ?_)));go_roundw;case rel=>exact⟨3,by omega,by go_num,b1.o.t (((((aE.o.mono lz).setCell _ (.inl lz)).setCell _ (.inl lz)).setCell _ (.inl lz)).setCell _ (.inl lz)),bW (bW (mr ay.out) P) P,mr (bW (bW aD.out (Ne.symm P)) (Ne.symm P))⟩
   simp [dc]
  obtain⟨⟨i1,i2,i3,i4⟩,⟨i5,i6,i7,i8⟩,_⟩:=bB.o;have j1:=(mM _).t i1;have j2:=(mM _).t i2;have j3:=(mM _).t i3;have j4:=(mM _).t i4;have j5:=(mM _).t i5;have j6:=(mM _).t i6;have j7:=(mM _).t i7;have j8:=(mM _).t i8;have j9:IntKind.i64.wrap 0=0:=lG
  have b0:IntKind.i64.wrap 1=1:=lG
  clear i1 i2 i3 i4 i5 i6 i7 i8 z0 z1 z2 z3 z4 E;go_upto_region 15 with (fail)
  refine sN 18 (tR wr) λaL l=>?_;refine fK 0 ?_;refine fE 1 a ?_ (j:=λw' j=>na);refine fE 2 ((3:Int)) ?_;refine fE 3 ((1:Int)) ?_;refine fK 4 ?_;refine fE 5 x1 ?_ (j:=λw' j=>by have g:=(bY j).1;have y:=(g H 1 av).t d1;go_simp);refine fE 6 (cq .i64 (a*x1)) ?_;refine fK 7 ?_;refine fE 8 b ?_ (j:=λw' j=>by have g:=(bY j).1;have y:=(g w.heap.size 1 A).t a1;go_simp);refine fE 9 ((3:Int)) ?_;refine fE 10 ((1:Int)) ?_;refine fK 11 ?_;refine fE 12 D ?_ (j:=λw' j=>by have g:=(bY j).1;have y:=(g O 1 ax).t d3;go_simp);refine fE 13 (cq .i64 (b*D)) ?_;refine fE 14 (cq .i64 (a*x1+b*D)) ?_;refine fK 15 ?_;refine fE 16 c ?_ (j:=λw' j=>by have g:=(bY j).1;have y:=(g w.heap.size 2 A).t a2;go_simp);refine fE 17 (cq .i64 (I 3)) ?_;refine Yo ?_
  have x:=lh l;clear l;generalize aL=wv at *;go_upto_region 16 with (fail)
  refine sN 18 (tR wv) λbr l=>?_;refine fK 0 ?_;refine fE 1 d ?_ (j:=λw' j=>by have g:=(bY (x.o.t j)).1;have y:=(g w.heap.size 3 A).t a3;go_simp);refine fE 2 ((3:Int)) ?_;refine fE 3 ((1:Int)) ?_;refine fK 4 ?_;refine fE 5 x1 ?_ (j:=λw' j=>by have g:=(bY (x.o.t j)).1;have y:=(g H 1 av).t d1;go_simp);refine fE 6 (cq .i64 (d*x1)) ?_;refine fK 7 ?_;refine fE 8 e ?_ (j:=λw' j=>by have g:=(bY (x.o.t j)).1;have y:=(g w.heap.size 4 A).t a4;go_simp);refine fE 9 ((3:Int)) ?_;refine fE 10 ((1:Int)) ?_;refine fK 11 ?_;refine fE 12 D ?_ (j:=λw' j=>by have g:=(bY (x.o.t j)).1;have y:=(g O 1 ax).t d3;go_simp);refine fE 13 (cq .i64 (e*D)) ?_;refine fE 14 (cq .i64 (d*x1+e*D)) ?_;refine fK 15 ?_;refine fE 16 f ?_ (j:=λw' j=>by have g:=(bY (x.o.t j)).1;have y:=(g w.heap.size 5 A).t a5;go_simp);refine fE 17 (cq .i64 (J 3)) ?_;refine Yo ?_
  have l:=x.o.t l;obtain⟨g,q⟩:=bY l;have l0:=(g Q 0 M).t l0;have l1:=(g Q 1 M).t l1;have l2:=(g B 0 N).t l2;have l3:=(g B 1 N).t l3;have ZH:=λi=>(q Q i M).t (ZH i);have Z5:=λi=>(q B i N).t (Z5 i);have ap:=(l.old Q M lz).t bh.o;have aq:=(l.old B N lz).t bj.o;obtain⟨ay,aD,aE⟩:=lh3 ap aq l;clear g q l ap aq x a0 a1 a2 a3 a4 a5 a6 d0 d1 d2 d3 j1 j2 j3 j4 j5 j6 j7 j8 j9 b0;go_wp2_with (first|(refine iV rfl _ _ rfl rfl rfl ?_)|(refine iG rfl _ _ rfl rfl rfl ?_))
  go_roundw;case rel=>exact⟨4,gn,by go_num,b1.o.t (((((aE.o.mono lz).setCell _ (.inl lz)).setCell _ (.inl lz)).setCell _ (.inl lz)).setCell _ (.inl lz)),bW (bW (mr ay.out) P) P,mr (bW (bW aD.out (Ne.symm P)) (Ne.symm P))⟩
  simp [dc]
 obtain rfl:k=4:=gn
 have HT:Hid (bH [] w wr):=lh (JL c7.o b1.o gn gn);clear d0 d1 d2 d3 a0 a1 a2 a3 a4 a5 ca hk HB b1 bw bz bA bB;obtain⟨⟨n0,ci⟩,bm,bo,bp,bq⟩:=bL.o;generalize jf I 4=lx,jf J 4=ly,gB I 4=hx,gB J 4=n at *;have c1:=Gi (2*lx-s) (2*s) gn gn;have c2:=Gi (2*ly-s) (2*s) gn gn;have c3:=wY (2*hx-s) (2*s) gn gn;have c4:=wY (2*n-s) (2*s) gn gn;have o3:=uf (2*hx-s) (2*s) 1099511627776 gn gn;have o4:=uf (2*n-s) (2*s) 1099511627776 gn gn;have v0:db (2*s)=2*s:=dN _ gn gn;have v1:=(mM (2*lx)).t (dN _ gn gn);have v2:=(mM (2*ly)).t (dN _ gn gn);have v3:=(mM (2*hx)).t (dN _ gn gn);have v4:=(mM (2*n)).t (dN _ gn gn);have v5:=(mM (2*lx-s)).t (dN _ gn gn);have v6:=(mM (2*ly-s)).t (dN _ gn gn);have v7:=(mM (2*hx-s)).t (dN _ gn gn);have v8:=(mM (2*n-s)).t (dN _ gn gn);unfold Cj at HM bM;generalize qG (2*lx-s) (2*s)=e1,qG (2*ly-s) (2*s)=e2,iq (2*hx-s) (2*s)=e3,iq (2*n-s) (2*s)=e4 at *;have v9:=(mM (e3+1)).t (dN _ gn gn);have ck:=(mM (e4+1)).t (dN _ gn gn);obtain⟨bx,bE,bf,b6⟩:=lh4 c1 c2 c3 c4;clear c1 c2 c3 c4 o3 o4 bm bo bp bq bL bM n0 ci;go_upto_region 20 with (fail)
 go_cut [16] (λs16 wx=>∃bF,s16=ct (cy ⟨bF,0,cz⟩)/\bH [] wr wx/\wx.heap[bF]?=cy (co #[e1,e2,(e3+1:Int),(e4+1:Int)] 59 (0,0))/\wr.heap.size<=bF);case first=>
  refine sN 36 (tR wr) λV l=>?_;refine fK 0 ?_;refine fE 1 lx ?_ (j:=λw' j=>by have g:=(bY j).1;have y:=(g Q 0 M).t l0;go_simp);refine fE 2 (cq .i64 (2*lx)) ?_;refine fK 3 ?_;refine fE 4 s ?_ (j:=λw' j=>by have g:=(bY j).1;have y:=(g w.heap.size 6 A).t a6;go_simp);refine fE 5 (cq .i64 (2*lx-s)) ?_;refine fE 6 (cq .i64 (2*s)) ?_;refine fK 8 ?_;refine fE 9 ly ?_ (j:=λw' j=>by have g:=(bY j).1;have y:=(g Q 1 M).t l1;go_simp);refine fE 10 (cq .i64 (2*ly)) ?_;refine fK 11 ?_;refine fE 12 s ?_ (j:=λw' j=>by have g:=(bY j).1;have y:=(g w.heap.size 6 A).t a6;go_simp);refine fE 13 (cq .i64 (2*ly-s)) ?_;refine fE 14 (cq .i64 (2*s)) ?_;refine fK 16 ?_;refine fE 17 hx ?_ (j:=λw' j=>by have g:=(bY j).1;have y:=(g B 0 N).t l2;go_simp);refine fE 18 (cq .i64 (2*hx)) ?_;refine fK 19 ?_;refine fE 20 s ?_ (j:=λw' j=>by have g:=(bY j).1;have y:=(g w.heap.size 6 A).t a6;go_simp);refine fE 21 (cq .i64 (2*hx-s)) ?_;refine fE 22 (cq .i64 (2*s)) ?_;refine fK 25 ?_;refine fE 26 n ?_ (j:=λw' j=>by have g:=(bY j).1;have y:=(g B 1 N).t l3;go_simp);refine fE 27 (cq .i64 (2*n)) ?_;refine fK 28 ?_;refine fE 29 s ?_ (j:=λw' j=>by have g:=(bY j).1;have y:=(g w.heap.size 6 A).t a6;go_simp);refine fE 30 (cq .i64 (2*n-s)) ?_;refine fE 31 (cq .i64 (2*s)) ?_;clear v0 v1 v2 v3 v4 v5 v6 v7 v8;refine tj 7 35 (λK m=>?_) (λK m=>?_)
  .go_simp;(with_reducible refine (bx.o _).mono ?_);rintro e9 cn ⟨rfl,rfl⟩;refine gK m l ?_;clear m K;refine tj 15 35 (λK m=>?_) (λK m=>?_)
   .go_simp;(with_reducible refine (bE.o _).mono ?_);rintro e9 cl ⟨rfl,rfl⟩;refine gK m l ?_;clear m K;refine tj 23 35 (λK m=>?_) (λK m=>?_)
    .go_simp;(with_reducible refine (bf.o _).mono ?_);rintro e9 c0 ⟨rfl,rfl⟩;refine gK m l ?_;clear m K;refine fE 24 (cq .i64 (e3+1)) ?_;refine tj 32 35 (λK m=>?_) (λK m=>?_)
     .go_simp;(with_reducible refine (b6.o _).mono ?_);rintro e9 bv ⟨rfl,rfl⟩;refine gK m l ?_;clear m K;refine fE 33 (cq .i64 (e4+1)) ?_;refine fE 34 (cr #[e1,e2,(e3+1:Int),(e4+1:Int)]) ?_;refine ty 35 rfl (di (t:=59) rfl (wH _)) λK m=>?_;have u:=cD V (co #[(0:Int),(0:Int),(0:Int),(0:Int)] 59);have aw:=l.size;have l:=l.alloc (co #[(0:Int),(0:Int),(0:Int),(0:Int)] 59);generalize V.alloc (co #[(0:Int),(0:Int),(0:Int),(0:Int)] 59)=Z,V.heap.size=bF at *;refine gK m l ?_;clear m K;have C:=cO 0 (0:Int) u;have D:=cO 1 (0:Int) u;have y2:=cO 2 (0:Int) u;have y3:=cO 3 (0:Int) u;have yf:=λi=>dm u i;refine Yo ?_;clear C D y2 y3 yf;go_wp2;go_meet;exact⟨_,rfl,(((l.setCell _ (.inr aw)).setCell _ (.inr aw)).setCell _ (.inr aw)).setCell _ (.inr aw),rZ u,aw⟩
     refine bZ (d:=cy 16) rfl (di (t:=59) rfl (wH _)) ?_;have u:=cD V (co #[(0:Int),(0:Int),(0:Int),(0:Int)] 59);have aw:=l.size;have l:=l.alloc (co #[(0:Int),(0:Int),(0:Int),(0:Int)] 59);generalize V.alloc (co #[(0:Int),(0:Int),(0:Int),(0:Int)] 59)=Z,V.heap.size=bF at *;refine gK m l ?_;clear m K;refine eH 32 λK m=>?_;go_simp;(with_reducible refine (b6.o _).mono ?_);rintro e9 bv ⟨rfl,rfl⟩;refine gK m l ?_;clear m K;refine fE 33 (cq .i64 (e4+1)) ?_;refine fE 34 (cr #[e1,e2,(e3+1:Int),(e4+1:Int)]) ?_;have C:=cO 0 (0:Int) u;have D:=cO 1 (0:Int) u;have y2:=cO 2 (0:Int) u;have y3:=cO 3 (0:Int) u;have yf:=λi=>dm u i;refine Yo ?_;clear C D y2 y3 yf;go_wp2;go_meet;exact⟨_,rfl,(((l.setCell _ (.inr aw)).setCell _ (.inr aw)).setCell _ (.inr aw)).setCell _ (.inr aw),rZ u,aw⟩
    refine bZ (d:=cy 16) rfl (di (t:=59) rfl (wH _)) ?_;have u:=cD V (co #[(0:Int),(0:Int),(0:Int),(0:Int)] 59);have aw:=l.size;have l:=l.alloc (co #[(0:Int),(0:Int),(0:Int),(0:Int)] 59);generalize V.alloc (co #[(0:Int),(0:Int),(0:Int),(0:Int)] 59)=Z,V.heap.size=bF at *;refine gK m l ?_;clear m K;refine eH 23 λK m=>?_;go_simp;(with_reducible refine (bf.o _).mono ?_);rintro e9 c0 ⟨rfl,rfl⟩;refine gK m l ?_;clear m K;refine fE 24 (cq .i64 (e3+1)) ?_;refine eH 32 λK m=>?_;go_simp;(with_reducible refine (b6.o _).mono ?_);rintro e9 bv ⟨rfl,rfl⟩;refine gK m l ?_;clear m K;refine fE 33 (cq .i64 (e4+1)) ?_;refine fE 34 (cr #[e1,e2,(e3+1:Int),(e4+1:Int)]) ?_;have C:=cO 0 (0:Int) u;have D:=cO 1 (0:Int) u;have y2:=cO 2 (0:Int) u;have y3:=cO 3 (0:Int) u;have yf:=λi=>dm u i;refine Yo ?_;clear C D y2 y3 yf;go_wp2;go_meet;exact⟨_,rfl,(((l.setCell _ (.inr aw)).setCell _ (.inr aw)).setCell _ (.inr aw)).setCell _ (.inr aw),rZ u,aw⟩
   refine bZ (d:=cy 16) rfl (di (t:=59) rfl (wH _)) ?_;have u:=cD V (co #[(0:Int),(0:Int),(0:Int),(0:Int)] 59);have aw:=l.size;have l:=l.alloc (co #[(0:Int),(0:Int),(0:Int),(0:Int)] 59);generalize V.alloc (co #[(0:Int),(0:Int),(0:Int),(0:Int)] 59)=Z,V.heap.size=bF at *;refine gK m l ?_;clear m K;refine eH 15 λK m=>?_;go_simp;(with_reducible refine (bE.o _).mono ?_);rintro e9 cl ⟨rfl,rfl⟩;refine gK m l ?_;clear m K;refine eH 23 λK m=>?_;go_simp;(with_reducible refine (bf.o _).mono ?_);rintro e9 c0 ⟨rfl,rfl⟩;refine gK m l ?_;clear m K;refine fE 24 (cq .i64 (e3+1)) ?_;refine eH 32 λK m=>?_;go_simp;(with_reducible refine (b6.o _).mono ?_);rintro e9 bv ⟨rfl,rfl⟩;refine gK m l ?_;clear m K;refine fE 33 (cq .i64 (e4+1)) ?_;refine fE 34 (cr #[e1,e2,(e3+1:Int),(e4+1:Int)]) ?_;have C:=cO 0 (0:Int) u;have D:=cO 1 (0:Int) u;have y2:=cO 2 (0:Int) u;have y3:=cO 3 (0:Int) u;have yf:=λi=>dm u i;refine Yo ?_;clear C D y2 y3 yf;go_wp2;go_meet;exact⟨_,rfl,(((l.setCell _ (.inr aw)).setCell _ (.inr aw)).setCell _ (.inr aw)).setCell _ (.inr aw),rZ u,aw⟩
  refine bZ (d:=cy 16) rfl (di (t:=59) rfl (wH _)) ?_;have u:=cD V (co #[(0:Int),(0:Int),(0:Int),(0:Int)] 59);have aw:=l.size;have l:=l.alloc (co #[(0:Int),(0:Int),(0:Int),(0:Int)] 59);generalize V.alloc (co #[(0:Int),(0:Int),(0:Int),(0:Int)] 59)=Z,V.heap.size=bF at *;refine gK m l ?_;clear m K
  refine eH 7 λK m=>?_;go_simp;refine mS (bx.o _) ?_;refine gK m l ?_;clear m K
  refine eH 15 λK m=>?_;go_simp;refine mS (bE.o _) ?_;refine gK m l ?_;clear m K
  refine eH 23 λK m=>?_;go_simp;refine mS (bf.o _) ?_;refine gK m l ?_;clear m K
  refine fE 24 (cq .i64 (e3+1)) ?_;refine eH 32 λK m=>?_;go_simp;refine mS (b6.o _) ?_;refine gK m l ?_;clear m K
  refine fE 33 (cq .i64 (e4+1)) ?_;refine fE 34 (cr #[e1,e2,(e3+1:Int),(e4+1:Int)]) ?_;have C:=cO 0 (0:Int) u;have D:=cO 1 (0:Int) u;have y2:=cO 2 (0:Int) u;have y3:=cO 3 (0:Int) u;have yf:=λi=>dm u i;refine Yo ?_
  clear C D y2 y3 yf;go_wp2;go_meet;exact⟨_,rfl,(((l.setCell _ (.inr aw)).setCell _ (.inr aw)).setCell _ (.inr aw)).setCell _ (.inr aw),rZ u,aw⟩
 obtain⟨bF,rfl,G,bd,aw⟩:=hcut;obtain⟨g,q⟩:=bY G;have aR:w.heap.size+2<wr.heap.size:=gn
 have z0:=(g (w.heap.size+2) 0 aR).t z0;have z1:=(g (w.heap.size+2) 1 aR).t z1;have z2:=(g (w.heap.size+2) 2 aR).t z2;have z3:=(g (w.heap.size+2) 3 aR).t z3;have z4:=(g (w.heap.size+2) 4 aR).t z4;have E:=λi=>(q (w.heap.size+2) i aR).t (E i);have C:=cO 0 e1 bd;have D:=cO 1 e2 bd;have y2:=cO 2 (cq .i64 (e3+1)) bd;have y3:=cO 3 (cq .i64 (e4+1)) bd;have c8:=lh (HT.o.t G);have TT:=tR wc;have b2:w.heap.size+2<wc.heap.size:=aj aR G.size;clear g q G bd l0 l1 l2 l3 ZH Z5 a6 v9 ck;go_wp2_with (go_at_call 149;refine mR (HM.o _) λw9 ch=>?_;have TT:=TT.t ch;obtain⟨g,q⟩:=bY TT;have zg:=λi=>(q (w.heap.size+2) i b2).t (E i);have p0:=(g (w.heap.size+2) 0 b2).t z0;have p1:=(g (w.heap.size+2) 1 b2).t z1;have p2:=(g (w.heap.size+2) 2 b2).t z2;have p3:=(g (w.heap.size+2) 3 b2).t z3;have p4:=(g (w.heap.size+2) 4 b2).t z4;clear q)
 have c9:=c8.o.t TT;refine ag (v:=cr #[m0,m1,m2,m3,(0:Int)]) (by simp [results,results150,go_sem,p0,p1,p2,p3,p4]) rfl ⟨rfl,?_⟩;exact ((((c9.sc).sc).sc).sc).sc
section
open Go.ChangeMaps (setBlock)
def lw(e:cF): Int:=match e.val with
 |cr ⟨cs⟩=>(match List.drop 256 cs with | [cq _ n]=>n|_=>0)
 |_=>0
def BM(e:cF): BAr:=match e.key with | cw s=>s|_=>⟨#[]⟩
def Io(e:cF): Array cH:=match e.val with | cr a=>a|_=>#[]
theorem abG(b r:Nat)(k:BAr)(T:List cH)(R:T.length=256)(c d h m g:Int)(w:cB)(B:Array cF)(A:Nat)(ty:cM)
  (L:w.heap[b]?=cy (co (XE c r d h m g) ty (0,0))) (F:w.heap[r]?=cy (.map B A)) (ht:0<=d/\d<=1000) (he:0<=g/\g<=1000)
  (u:Array cF) (f:Nat) (u1:∀w',w'.heap[r]?=cy (.map B A)->(Instr.mapUpdate 130 (.map (cy r)) (cw k) (cr ⟨T++[cq .i64 (d+1)]⟩)).run cY w'=.ok () (setBlock w' r (.map u f)))
  (G:Lc u f (d+1) BM lw Io) (ab:0<u.size) :
  cJ cY 26 #[ct (cy ⟨b,0,cz⟩),cw k,cr ⟨T⟩] w λe w'=>e=cV (.tuple #[])/\bH [b,r] w w'/\
   (((u.size:Int)<=c/\w'.heap[b]?=cy (co (XE c r (d+1) h m g) ty (0,0))/\w'.heap[r]?=cy (.map u f))\/
    (¬(u.size:Int)<=c/\∃i x,u[i]?=cy x/\(∀y∈u.toList,lw x<=lw y)/\w'.heap[b]?=cy (co (XE c r (d+1) h m (g+1)) ty (0,0))/\w'.heap[r]?=cy (.map (u.eraseIdxIfInBounds i) f))):=by
 have a9:b<w.heap.size:=(ae.1 L).1;have a8:r<w.heap.size:=(ae.1 F).1;have a7:b≠r:=by rintro rfl;rw [L]at F;cases F
 have O:∀l:cB,l.heap[b]?=cy (co (XE c r (d+1) h m g) ty (0,0))->l.heap[r]?=cy (.map u f)->Kz b 0 r c (d+1) g u f l:=by intro l o p;refine⟨?_,?_,?_,?_,?_,p⟩<;>simp [World.cell?,World.frozen?,o,XE]
 have v:(w.alloc (co ⟨T⟩ 80)).heap[b]?=cy (co (XE c r d h m g) ty (0,0)):=by rw [(MapKept.heap_alloc w _).2 b a9];exact L
 have Y:(w.alloc (co ⟨T⟩ 80)).heap[r]?=cy (.map B A):=by rw [(MapKept.heap_alloc w _).2 r a8];exact F
 have Q:w.heap.size<(w.alloc (co ⟨T⟩ 80)).heap.size:=lz
 have s:=afY b r k T R c d h m g (w.alloc (co ⟨T⟩ 80)) B A ty v Y gn gn u f u1;obtain⟨W,C⟩:=eX (w.alloc (co ⟨T⟩ 80));have Z:bH [b,r] w W:=C▸(bH.refl [b,r] w).a _;rw [<-C]at s v Y Q;have s:=s.mono (R':=λe w'=>e=cV (.tuple #[])/\(w'.heap[b]?=cy (co (XE c r (d+1) h m g) ty (0,0))/\w'.heap[r]?=cy (.map u f)/\bH [b,r] W w')) (by
  rintro e w' ⟨rfl,n,rfl⟩;refine⟨rfl,?_,?_,(((((bH.refl [b,r] W).a _).setCell _ (.inl lz)).drawn n).setBlock _ (.inl lz))⟩
  .simp only [setBlock,World.heap_drewN];rw [Array.getElem?_setIfInBounds,aF (Ne.symm a7)];simp only [World.setCell,au,if_true,(MapKept.heap_alloc W _).2 b gn,v];rfl
  simp only [setBlock,World.heap_drewN];rw [Array.getElem?_setIfInBounds,aG rfl,aG];show r<(World.setCell _ _ _).heap.size;simp [World.setCell];omega)
 rw [C]at s;refine (SI b 0 k ⟨T⟩ R w _ s ?_).mono ?_
 .rintro l ⟨o,p,N⟩;refine⟨r,c,d+1,g,u,f,O l o p,?_⟩;by_cases q:(u.size:Int)<=c
  .exact .inl q
  exact .inr ⟨q,_,_,_,G,gn,gn,gn,gn,ab⟩
 rintro e w' ⟨rfl,l,⟨o,p,N⟩,X,a0,an,a6,a5,a4,E,I⟩;have D:=O l o p;have i1:X=r:=by have:=E.c1.symm.t D.c1;cases this;rfl
 subst i1;have i2:a0=c:=by have:=E.c0.symm.t D.c0;cases this;rfl
 have i3:a6=g:=by have:=E.c5.symm.t D.c5;cases this;rfl
 have K:a5=u/\a4=f:=by have:=E.mp.symm.t D.mp;cases this;exact⟨rfl,rfl⟩
 obtain⟨K,i5⟩:=K;rw [i2,K]at I;rw [i5,i3]at I;have M:bH [b,X] w l:=Z.t (C▸N);rcases I with ⟨q,n,rfl⟩|⟨q,am,af,ad,S,i,x,H,aa,v,Y,Q,p4,p5,p6,p7⟩
 .exact⟨rfl,M.drawn n,.inl ⟨q,o,p⟩⟩
 have V:∀z∈u.toList,af z=lw z:=by
  intro z J;have P:=S.la z J;have e2:=G.la z J;have e3:ad z=Io z:=by have:=(S.va z J).symm.t (G.va z J);injection this
  rw [e3]at P;have:=P.symm.t e2;injection this with this;injection this
 have ac:x∈u.toList:=by rw [<-Array.getElem?_toList]at H;exact aH H
 refine⟨rfl,M.t ⟨p4,λj hj U=>Q j hj (λe=>U (by simp [e])) (λe=>U (by simp [e])),p5,p6,p7⟩,.inr ⟨q,i,x,H,λz J=>by rw [<-V x ac,<-V z J];exact aa z J,?_,v⟩⟩;rw [Y];simp only [World.setCell,au,if_true,o];rfl
theorem aeg(w:cB): (Instr.makeMap 130 cz).run cY w=.ok (.map (cy w.heap.size)) (w.alloc (.map #[] 0)):=by simp [Instr.makeMap,Result.andThen]
theorem afB(w:cB):
  cJ cY 25 #[(1:Int)] w λe w'=>e=cV (ct (cy ⟨w+1,0,cz⟩))/\w'=(w.alloc (.map #[] 0)).alloc (co (XE 1 w.heap.size 0 0 0 0) 132):=by
 have bv:=aeg w;go_enter func25,ntmps25;go_wp2_with fail
 all_goals first|omega|(go_ret;exact⟨rfl,rfl⟩)
theorem aeh(b r:Nat)(c d h m a:Int)(w:cB)(ty:cM)(g:w.heap[b]?=cy (co (XE c r d h m a) ty (0,0))):
  cJ cY 28 #[ct (cy ⟨b,0,cz⟩)] w λe w'=>e=cV (.tuple #[h,m,a])/\∃n,w'=w.drewN n:=by
 have c3:w.cell? ⟨b,3,cz⟩=cy (cq .i64 h):=rm
 have c4:w.cell? ⟨b,4,cz⟩=cy (cq .i64 m):=rm
 have c5:w.cell? ⟨b,5,cz⟩=cy (cq .i64 a):=rm
 clear g;go_enter func28,ntmps28;go_wp2_with fail
 go_quiet (fail)
 go_wp2;go_ret3;exact⟨rfl,_,rfl⟩
noncomputable def YR(k:BAr)(t:Int)(n:Nat): cF:={ key:=cw k,val:=cr ⟨V9.toList++[cq .i64 t]⟩,born:=n }
theorem adU:Lc #[YR ⟨#[97]⟩ 1 0] 1 (0+1) BM lw Io:=by
 refine⟨?_,?_,?_,?_,?_,?_,lz,?_,?_⟩
 .intro e k;rw [aN.1 k];kernel_rfl
 .intro e k;rw [aN.1 k];kernel_rfl
 .intro e k;rw [aN.1 k];kernel_rfl
 .intro e k;rw [aN.1 k];kernel_rfl
 .intro e k;rw [aN.1 k];kernel_rfl
 .intro e k;rw [aN.1 k];exact Nat.lt_succ_self _
 .intro i j x y b d _;have a:=(ae.1 b).1;have f:=(ae.1 d).1;simp at a f;omega
 intro e k;rw [aN.1 k];exact of_decide_eq_true lB
theorem adK:Lc #[YR ⟨#[97]⟩ 1 0,YR ⟨#[98]⟩ 2 1] 2 (1+1) BM lw Io:=by
 have all:∀(Q:cF->Prop),Q (YR ⟨#[97]⟩ 1 0)->Q (YR ⟨#[98]⟩ 2 1)->∀e∈(#[YR ⟨#[97]⟩ 1 0,YR ⟨#[98]⟩ 2 1]:Array cF).toList,Q e:=by
  intro Q b f e k;rcases aS.1 k with rfl|k
  .exact b
  rw [aN.1 k];exact f
 refine⟨all _ lB lB,all _ lB lB,all _ lB lB,all _ lB lB,all _ lB lB,all _ (by simp [YR]) (by simp [YR]),by simp [YR],?_,all _ (of_decide_eq_true lB) (of_decide_eq_true lB)⟩;intro i j x y a d c;have b:=(ae.1 a).1;have f:=(ae.1 d).1;simp at b f;obtain rfl|rfl:i=0\/i=1:=by omega
 .obtain rfl|rfl:j=0\/j=1:=by omega
  .rfl
  simp at a d;subst a;subst d;exact absurd c (by simp [BM,YR])
 obtain rfl|rfl:j=0\/j=1:=by omega
 .simp at a d;subst a;subst d;exact absurd c (by simp [BM,YR])
 rfl
structure CS(b r:Nat)(time m ev:Int)(es:Array cF)(cl:Nat)(w:cB): Prop where
 hb:w.heap[b]?=cy (co (XE 1 r time 0 m ev) 132 (0,0))
 hm:w.heap[r]?=cy (.map es cl)
theorem aeI{b r:Nat}{w:cB}(h:CS b r 0 0 0 #[] 0 w):
  cJ cY 26 #[ct (cy ⟨b,0,cz⟩),cw ⟨#[97]⟩,cr V9] w λe w'=>e=cV (.tuple #[])/\CS b r 1 0 0 #[YR ⟨#[97]⟩ 1 0] 1 w'/\bH [b,r] w w':=by
 refine (abG b r ⟨#[97]⟩ V9.toList lB 1 0 0 0 0 w #[] 0 _ h.hb h.hm gn gn #[YR ⟨#[97]⟩ 1 0] 1 (λw' d=>adF d rfl) adU lG).mono ?_;rintro e w' ⟨rfl,o,c⟩;rcases c with ⟨_,a,f⟩|⟨G,_⟩
 .exact⟨rfl,⟨a,f⟩,o⟩
 exact absurd lG G
theorem aeD{b r:Nat}{w:cB}(h:CS b r 1 0 0 #[YR ⟨#[97]⟩ 1 0] 1 w):
  cJ cY 26 #[ct (cy ⟨b,0,cz⟩),cw ⟨#[98]⟩,cr V9] w λe w'=>e=cV (.tuple #[])/\CS b r 2 0 1 #[YR ⟨#[98]⟩ 2 1] 2 w'/\bH [b,r] w w':=by
 refine (abG b r ⟨#[98]⟩ V9.toList lB 1 1 0 0 0 w #[YR ⟨#[97]⟩ 1 0] 1 _ h.hb h.hm gn gn #[YR ⟨#[97]⟩ 1 0,YR ⟨#[98]⟩ 2 1] 2 (λw' j=>adF j lB) adK lG).mono ?_;rintro e w' ⟨rfl,o,d⟩;rcases d with ⟨G,_⟩|⟨_,i,x,a,a7,c,f⟩
 .exact absurd G lG
 have m:i=0:=by
  have g:=(ae.1 a).1;simp at g;obtain rfl|rfl:i=0\/i=1:=by omega
  .rfl
  simp at a;subst a;exact absurd (a7 (YR ⟨#[97]⟩ 1 0) lz) (of_decide_eq_false lB)
 subst m;have k:(#[YR ⟨#[97]⟩ 1 0,YR ⟨#[98]⟩ 2 1]:Array cF).eraseIdxIfInBounds 0=#[YR ⟨#[98]⟩ 2 1]:=by simp [Array.eraseIdxIfInBounds]
 rw [k]at f;exact⟨rfl,⟨c,f⟩,o⟩
theorem agj{b r:Nat}{w:cB}(h:CS b r 2 0 1 #[YR ⟨#[98]⟩ 2 1] 2 w):
  cJ cY 27 #[ct (cy ⟨b,0,cz⟩),cw ⟨#[97]⟩] w λe w'=>e=cV (.tuple #[cr V9,cx cX])/\w'.heap[b]?=cy (co (XE 1 r 2 0 1 1) 132 (0,0))/\bH [b] w w':=by
 exact aeT b r ⟨#[97]⟩ 1 2 0 0 1 w #[YR ⟨#[98]⟩ 2 1] 2 _ h.hb h.hm gn gn lB
end
