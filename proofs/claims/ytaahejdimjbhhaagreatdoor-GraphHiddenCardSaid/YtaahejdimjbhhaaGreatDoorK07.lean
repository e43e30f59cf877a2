import Derived.Laws.Externs
import Derived.Lib.Bytealg
import Derived.Laws.RangeString
import Derived.Test.YtaahejdimjbhhaaGreatDoorK05
import Derived.Test.YtaahejdimjbhhaaGreatDoorK06
set_option maxRecDepth 100000
set_option maxHeartbeats 0
set_option linter.all false
namespace Go.Proofs.YtaahejdimjbhhaaGreatDoor
open Tryz Go.RowKit Go.Den
open Go.Obj renaming cells->bS
open Go.Value renaming slice->bT,bool->bX,int->ca,agg->cb,pointer->cd,string->ce
open Option renaming some->cf,none->cg
open Go.RowKit renaming wrap64->ch,intOf->ci
open Go renaming World->cj,wpList_load_mid->ck,Value->cm,zero_of_info->co,Addr->cp,heap_alloc_new->cq,Calls->cr,all_oneCell_toArray->ct,run_loadVar_row->cv,run_storeAt_new->cw,run_loadAt_mid->cx,run_underlying->cy,wpList->cz,Oper->cB,TypeId->cD
open Go.Proofs.Tryz renaming zeroCells80->cE,prog->cF,underlying51->cG,underlying80->cH,zeroCells181->cI,underlying22->cJ
open Bool renaming false->cK,true->cM
open Go.Ending renaming returned->cQ
theorem rU(d:List dC)(z:eu d=cM)(A:Option cp)(n cap:Nat)(w:cj)(h:dB w A n d):
  CR 236 #[cb #[bT A n cap]] w (bX cM):=by
 have hn:=h.1;unfold eu at z;rw [az]at z;have ao:=of_decide_eq_true z.1;have a3:=aZ.1 z.2;have ba:¬1024<n:=gn
 have d1:decide (1024<(n:Int))=cK:=ak gn;have q:1<=n->∃g o,A=cf ⟨g,o,cg⟩/\∀w',bH [] w w'->∀j t,d[j]?=cf t->jo t.px/\w'.rangeAt g (o+j*258) t.row:=λh1=>h.get h1;have av:Hid (∀k,k<d.length->nS d k=cM):=lh λk hk=>a3 k (aX.2 hk);have HA:=lh q;have HN:=lh hn;clear q hn h a3 z ao;have X:bH [] _ _:=(tR w).alloc (bS #[bT A n cap] 49);go_enter func236,ntmps236;go_wp2_with fail
 go_loopw [12] (λs12 wr=>∃k:Nat,k<=n/\s12=k/\bH [] w wr/\wr.cell? ⟨w,0,cg⟩=cf (bT A n cap)) (λs12 _=>n-(ci s12).toNat);case atStart=>exact⟨0,gn,rfl,X,mu⟩
 clear X;obtain⟨k,hk,rfl,G,a0⟩:=hrel;by_cases aD:k<n
 .obtain⟨g,o,rfl,q⟩:=HA.o gn;have ap:k<d.length:=by have:=HN.o;omega
  obtain⟨t,K⟩:∃t,d[k]?=cf t:=⟨d[k],by simp [ap]⟩;have I:=av.o k ap;have aw:=lh I;have ad:kF t=cM:=by unfold nS at I;rw [K]at I;simp only [az]at I;exact I.1
  clear I;unfold kF at ad;simp only [az,Bool.not_eq_true']at ad;obtain⟨⟨u,ar⟩,a5⟩:=ad;obtain⟨J,hR⟩:=q wr G k t K;have a4:fG t.px=t.px:=(Md (by simp [fG]) J.1).1 a5;have ao:t.row.length=258:=by simp [dC.row,J.1]
  have aq:(⟨t.row⟩:Array cm).all (·.oneCell')=cM:=ct (cs:=t.row) (λv e=>by
   rcases aS.1 e with rfl|e
   .rfl
   rcases aS.1 e with rfl|e
   .rfl
   obtain⟨x,_,rfl⟩:=List.mem_map.1 e;rfl)
  have W:=a0;have b8:(Instr.alloc 181 cM (.tuple #[])).run cF wr=.ok (cd (cf ⟨wr,0,cg⟩)) (wr.alloc (bS cI 181)):=mw
  have a2:(prog.info? 181).map (·.size)=cf t.row.length:=nE
  have an:(Instr.storeAt 181 (cd (cf ⟨wr,0,cg⟩)) (cb ⟨t.row⟩)).run cF (wr.alloc (bS cI 181))=.ok () (wr.alloc (bS ⟨t.row⟩ 181)):=
   cw wr 181 cI ⟨t.row⟩ a2 mT aq
  obtain⟨HF,a6,HT⟩:=lh3 G q K;have b0:(0:Int)<=(k:Int):=gn
  have b1:(k:Int)<(n:Int):=gn
  clear q K aq ao;generalize N:t.row=s at *;go_upto_region 6 with (first
   |(refine ck rfl 181 _ rfl _ _ rfl _ _ hR underlying181 rfl a2 ?_)
   |(refine bU rfl 181 _ _ rfl rfl rfl an ?_))
  have R:(wr.alloc (bS ⟨s⟩ 181)).cell? ⟨wr,0,cg⟩=cf (ca .i64 t.x):=qD
  have S:(wr.alloc (bS ⟨s⟩ 181)).cell? ⟨wr,1,cg⟩=cf (ca .i64 t.y):=qD
  have r2:(wr.alloc (bS ⟨s⟩ 181)).rangeAt wr.heap.size 2 (t.px.map (Value.int .u8)):=by intro j v e;rw [aA _ _ _ _ 181 (0,0) (cq wr _),<-N,Nat.add_comm 2 j,<-e];show (t.row.toArray)[j+2]?=_;rw [List.getElem?_toArray];rfl
  have am:(t.px.map (Value.int .u8)).length=256:=by rw [aJ,J.1]
  have U:(wr.alloc (bS ⟨s⟩ 181)).cell? ⟨w,0,cg⟩=cf (bT (cf ⟨g,o,cg⟩) n cap):=rI
  have D:=HF.o.alloc (bS ⟨s⟩ 181);clear an b8 a2 hR W;generalize wr.alloc (bS ⟨s⟩ 181)=l,wr.heap.size=b at *;have P:=DZ t.px J;rw [ar]at P;have M:=BV t.px J.1;rw [a4]at M;unfold xB at u;simp only [az,decide_eq_true_eq]at u;have a1:=Gt t.x t.y u.1.1.1 u.1.1.2 u.1.2 u.2;have af:∀w,(binOp .neq 80 (tv t.px) (tv t.px)).run cF w=.ok (bX cK) w:=λw=>by have:=GZ J J w;unfold tv at this ⊢;simp [binOp,Op.equal,show Op.maxDepth=10000 from rfl,this,Result.andThen]
  obtain⟨ab,a7,a8,V⟩:=lh4 P M a1 af;have a9:(prog.info? 80).map (·.size)=cf (t.px.map (Value.int .u8)).length:=by rw [am,iE]
  have ac:∀w',bH [] l w'->(Instr.loadAt 80 (cd (cf ⟨b,2,cg⟩))).run cF w'=.ok (tv t.px) w':=λw' T=>cx w' b 2 80 _ _ (fJ T r2) cH rfl a9;have B:=lh ac;clear a9 am ac P M a1 af ar a5 a4 u;unfold tv at *;have Z:∀w',bH [] l w'->w'.cell? ⟨b,0,cg⟩=cf (ca .i64 t.x):=λw' T=>by rw [(bY T).1 _ _ (ai R)];exact R
  have c1:∀w',bH [] l w'->w'.cell? ⟨b,1,cg⟩=cf (ca .i64 t.y):=λw' T=>by rw [(bY T).1 _ _ (ai S)];exact S
  have c2:∀w',bH [] l w'->w'.cell? ⟨w,0,cg⟩=cf (bT (cf ⟨g,o,cg⟩) n cap):=λw' T=>by rw [(bY T).1 _ _ (ai U)];exact U
  obtain⟨Q,O,C⟩:=lh3 Z c1 c2;clear R S r2 U Z c1 c2;generalize t.px.map (Value.int .u8)=f,ax:t.x=x,ay:t.y=y at *;have b5:=lh ax;have b6:=lh ay;clear ax ay a0 G;cases k with
  |zero=>
   refine cu.start (λw'=>bH [] l w') 33 lB ?_;have i:=(tR l).drawn 1;change bH [] l l.drew at i;generalize l.drew=Y at *;refine fK 0 ?_;refine fE 1 (cb #[x,y]) ?_ (j:=λw' c=>by have E:=Q.o _ c;have F:=O.o _ c;have L:=C.o _ c;go_simp);refine PR 2 (a8.o _) λw3 i _=>?_;refine fE 3 (bX cK) ?_;refine fE 4 (bX cK) ?_;refine fK 5 ?_;refine Xz 6 (cb ⟨f⟩) (λw' c=>B.o w' c) ?_;refine PR 7 (ab.o _) λw4 i _=>?_;refine fE 8 (bX cK) ?_;refine fE 9 (bX cK) ?_;refine fK 10 ?_;refine Xz 11 (cb ⟨f⟩) (λw' c=>B.o w' c) ?_;refine fK 13 ?_;refine Xz 14 (cb ⟨f⟩) (λw' c=>B.o w' c) ?_;refine PR 12 (a7.o _) λw5 i _=>?_;refine Xy 15 (bX cK) (λw' c=>V.o) ?_;refine fE 16 (bX cK) ?_;refine fE 17 (bX cK) ?_;refine fE 18 ((0:Int)) ?_;refine fE 19 (bX cK) ?_;refine fE 20 (bX cK) ?_;refine je 21 ?_;go_frame;refine je 22 ?_;go_frame;refine je 23 ?_;go_frame;refine je 24 ?_;go_frame;refine je 25 ?_;go_frame;refine je 26 ?_;go_frame;refine je 27 ?_;go_frame;refine je 28 ?_;go_frame;refine je 29 ?_;go_frame;refine je 30 ?_;go_frame;refine je 31 ?_;go_frame;refine fE 32 (bX cK) ?_;refine Yo ?_;(go_wp2_with fail);exact⟨⟨1,by omega,by go_num,D.t i,C.o _ i⟩,by simp [ci];omega⟩
  |succ m=>
   obtain⟨p,H⟩:∃p,d[m]?=cf p:=⟨d[m]'(by omega),aB gn⟩;have hP:∀w',bH [] l w'->w'.cell? ⟨g,o+m*258,cg⟩=cf (ca .i64 p.x):=λw' T=>by simpa using (a6.o w' (D.t T) m p H).2 0 _ rfl
   have hQ:∀w',bH [] l w'->w'.cell? ⟨g,o+m*258+1,cg⟩=cf (ca .i64 p.y):=λw' T=>(a6.o w' (D.t T) m p H).2 1 _ rfl;have aa:QS p t=cM:=(by have:=aw.o;unfold nS at this;rw [HT.o]at this;simp only [az,H]at this;exact this.2);have hL:=Kw p.x p.y x y (by rw [<-b5.o,<-b6.o];exact aa);obtain⟨HP,HQ,aL⟩:=lh3 hP hQ hL;generalize p.x=px,p.y=py at *;clear hP hQ hL aa H;have b2:(0:Int)<=(m:Int):=gn;have b3:(m:Int)<(n:Int):=gn;have wm:IntKind.i64.wrap (m:Int)=m:=IntWalk.i64_in _ ⟨gn,gn⟩;have d2:decide ((0:Int)<((m:Int)+1))=cM:=aC gn;refine cu.start (λw'=>bH [] l w') 33 lB ?_;have i:=(tR l).drawn 1;change bH [] l l.drew at i;generalize l.drew=Y at *;refine fK 0 ?_;refine fE 1 (cb #[x,y]) ?_ (j:=λw' c=>by have E:=Q.o _ c;have F:=O.o _ c;have L:=C.o _ c;go_simp);refine PR 2 (a8.o _) λw3 i _=>?_;refine fE 3 (bX cK) ?_;refine fE 4 (bX cK) ?_;refine fK 5 ?_;refine Xz 6 (cb ⟨f⟩) (λw' c=>B.o w' c) ?_;refine PR 7 (ab.o _) λw4 i _=>?_;refine fE 8 (bX cK) ?_;refine fE 9 (bX cK) ?_;refine fK 10 ?_;refine Xz 11 (cb ⟨f⟩) (λw' c=>B.o w' c) ?_;refine fK 13 ?_;refine Xz 14 (cb ⟨f⟩) (λw' c=>B.o w' c) ?_;refine PR 12 (a7.o _) λw5 i _=>?_;refine Xy 15 (bX cK) (λw' c=>V.o) ?_;refine fE 16 (bX cK) ?_;refine fE 17 (bX cK) ?_;refine fE 18 (ca .i64 ((m:Int)+1)) ?_;refine fE 19 (bX cM) ?_;refine fE 20 (bX cM) ?_;refine fK 21 ?_;refine fE 22 (bT (cf ⟨g,o,cg⟩) n cap) ?_ (j:=λw' c=>by have E:=Q.o _ c;have F:=O.o _ c;have L:=C.o _ c;go_simp);refine fE 23 (ca .i64 ((m:Int)+1)) ?_;refine fE 24 ((m:Int)) ?_;refine fK 25 ?_;refine fK 26 ?_;refine fE 27 (cb #[px,py]) ?_ (j:=λw' c=>by have E:=HP.o _ c;have F:=HQ.o _ c;go_simp);refine fK 28 ?_;refine fE 29 (cb #[x,y]) ?_ (j:=λw' c=>by have E:=Q.o _ c;have F:=O.o _ c;have L:=C.o _ c;go_simp);refine PR 30 (aL.o _) λw6 i _=>?_;refine fE 31 (bX cK) ?_;refine fE 32 (bX cK) ?_;refine Yo ?_;(go_wp2_with fail);exact⟨⟨m+2,by omega,by go_num,D.t i,C.o _ i⟩,by simp [ci];omega⟩
 obtain rfl:k=n:=gn
 go_wp2;go_ret;exact⟨rfl,G⟩
structure bI where
 id:Int
 ag1:Int
 name:BAr
 ag3:Bool
 Xl:Int
 mode:Int
 clip:Bool
 agZ:Af
 space:Int
 Xi:Option cp
 Xh:Nat
 Xj:Nat
 ag0:List Int
 of:Int
 Xg:Fv
 ks:List Int
 cs:List Int
 f0:Int
 f1:Int
 f2:Int
 f3:Int
 pA:Option cp
 pn:Nat
 pc:Nat
 pts:List (Int×Int)
 tA:Option cp
 tn:Nat
 tc:Nat
 Xm:List dC
 Xt:Bool
 mA:Option cp
 mn:Nat
 mc:Nat
 mask:List dC
def bI.row(l:bI): List cm:=
 [l.id,l.ag1,ce l.name,bX l.ag3,l.Xl,l.mode,bX l.clip,
  l.agZ.a,l.agZ.b,l.agZ.c,l.agZ.d,l.agZ.e,l.agZ.f,l.agZ.den,
  l.space,bT l.Xi l.Xh l.Xj,l.of,
  l.Xg.ag1,l.Xg.Xf,bT l.Xg.kA l.Xg.kn l.Xg.kc,l.Xg.div,l.Xg.value,bT l.Xg.cA l.Xg.cn l.Xg.cc,
  ca .u8 l.f0,ca .u8 l.f1,ca .u8 l.f2,ca .u8 l.f3,bT l.pA l.pn l.pc,bT l.tA l.tn l.tc,bX l.Xt,bT l.mA l.mn l.mc]
def bI.v(l:bI): cm:=cb ⟨l.row⟩
structure bI.At(l:bI)(w:cj): Prop where
 ag0:dn w l.Xi l.Xh l.ag0
 ks:dn w l.Xg.kA l.Xg.kn l.ks
 cs:dn w l.Xg.cA l.Xg.cn l.cs
 pts:iL w l.pA l.pn l.pts
 Xm:dB w l.tA l.tn l.Xm
 mask:dB w l.mA l.mn l.mask
 Xk:l.Xh<=50
theorem bI.At.u{l:bI}{w w':cj}(h:l.At w)(T:bH [] w w'): l.At w':=
 ⟨h.ag0.u T,h.ks.u T,h.cs.u T,h.pts.u T,h.Xm.u T,h.mask.u T,h.Xk⟩
def kG(w:cj)(A:Option cp)(n:Nat)(ls:List bI): Prop:=n=ls.length/\∀j l,ls[j]?=cf l->l.At w/\∃g o,A=cf ⟨g,o,cg⟩/\w.rangeAt g (o+j*31) l.row
theorem kG.u{w w':cj}{A:Option cp}{n:Nat}{ls:List bI}(h:kG w A n ls)(T:bH [] w w'): kG w' A n ls:=by refine⟨h.1,λj l i=>?_⟩;obtain⟨e,g,o,f,a⟩:=h.2 j l i;exact⟨e.u T,g,o,f,fJ T a⟩
structure eF where
 a0:Option cp
 n0:Nat
 c0:Nat
 l0:List Int
 a1:Option cp
 n1:Nat
 c1:Nat
 l1:List Int
 a2:Option cp
 n2:Nat
 c2:Nat
 l2:List Int
 mTo:List Int
 mFr:List Int
def eF.row(s:eF): List cm:=bT s.a0 s.n0 s.c0::bT s.a1 s.n1 s.c1::bT s.a2 s.n2 s.c2::(s.mTo.map (Value.int .i64)++s.mFr.map (Value.int .i64))
structure eF.At(s:eF)(w:cj): Prop where
 h1:s.mTo.length=9
 h2:s.mFr.length=9
 l0:dn w s.a0 s.n0 s.l0
 l1:dn w s.a1 s.n1 s.l1
 l2:dn w s.a2 s.n2 s.l2
theorem eF.At.u{s:eF}{w w':cj}(h:s.At w)(T:bH [] w w'): s.At w':=⟨h.h1,h.h2,h.l0.u T,h.l1.u T,h.l2.u T⟩
def mD(w:cj)(A:Option cp)(n:Nat)(a:List eF): Prop:=n=a.length/\∀j s,a[j]?=cf s->s.At w/\∃g o,A=cf ⟨g,o,cg⟩/\w.rangeAt g (o+j*21) s.row
theorem mD.u{w w':cj}{A:Option cp}{n:Nat}{a:List eF}(h:mD w A n a)(T:bH [] w w'): mD w' A n a:=by refine⟨h.1,λj l i=>?_⟩;obtain⟨e,g,o,f,b⟩:=h.2 j l i;exact⟨e.u T,g,o,f,fJ T b⟩
structure df where
 sA:Option cp
 sn:Nat
 sc:Nat
 ag2:List eF
 root:Int
 next:Int
 lA:Option cp
 ln:Nat
 lc:Nat
 agY:List bI
def df.v(d:df): cm:=cb #[bT d.sA d.sn d.sc,d.root,d.next,bT d.lA d.ln d.lc]
structure df.At(d:df)(w:cj): Prop where
 ag2:mD w d.sA d.sn d.ag2
 agY:kG w d.lA d.ln d.agY
 small:d.ln<=50
theorem df.At.u{d:df}{w w':cj}(h:d.At w)(T:bH [] w w'): d.At w':=⟨h.ag2.u T,h.agY.u T,h.small⟩
theorem kG.cell{w:cj}{A:Option cp}{n:Nat}{ls:List bI}(h:kG w A n ls)(d:1<=n): ∃g o,A=cf ⟨g,o,cg⟩/\∀w',bH [] w w'->∀j l,ls[j]?=cf l->l.At w'/\w'.rangeAt g (o+j*31) l.row:=by
 have i:0<ls.length:=pV
 obtain⟨_,g,o,rfl,_⟩:=h.2 0 ls[0] sq;refine⟨g,o,rfl,λw' T j l k=>?_⟩;obtain⟨a,O,R,e,b⟩:=h.2 j l k;injection e with e;injection e with c z N;subst c;subst z;exact⟨a.u T,fJ T b⟩
def mW(a:List Int)(id:Int): Option Nat:=a.findIdx? (· == id)
def sQ(a:List Int)(id:Int): Int:=match mW a id with|some i=>i|none=>-1
def df.ids(d:df): List Int:=d.agY.map (·.id)
theorem vS{a:List Int}{id:Int}{k:Nat}(d:a[k]?=cf id)(g:∀i,i<k->a[i]?≠cf id): mW a id=cf k:=by unfold mW;obtain⟨e,f⟩:=ah.1 d;rw [bi];refine⟨e,by simp [f],λj b=>?_⟩;have:=g j b;rw [aB gn]at this;simpa using this
theorem Bg{a:List Int}{id:Int}(g:∀i,i<a.length->a[i]?≠cf id): mW a id=cg:=by unfold mW;rw [List.findIdx?_eq_none_iff];intro x b;obtain⟨i,m⟩:=bu.1 b;have e:=(ah.1 m).1;have:=g i e;rw [m]at this;simpa using this
theorem df.ids_cell{d:df}{w:cj}(h:d.At w)(c:1<=d.ln): ∃g o,d.lA=cf ⟨g,o,cg⟩/\∀k,k<d.ln->∃z,d.ids[k]?=cf z/\∀w',bH [] w w'->w'.cell? ⟨g,o+k*31,cg⟩=cf (ca .i64 z):=by
 obtain⟨g,o,e,j⟩:=h.agY.cell c;refine⟨g,o,e,λk f=>?_⟩;have a:k<d.agY.length:=by have:=h.agY.1;omega
 refine⟨d.agY[k].id,by simp [df.ids,a],λw' b=>?_⟩;simpa using (j w' b k d.agY[k] (by simp [a])).2 0 _ rfl
theorem uD(d:df)(id:Int)(w:cj)(h:d.At w): CR 60 #[d.v,id] w (ca .i64 (sQ d.ids id)):=by
 have s:1<=d.ln->_:=λy=>df.ids_cell h y;have ao:d.ids.length=d.ln:=oe
 have G:=h.small;generalize Z:d.ids=A at *;obtain⟨j,n,l,ag2,f,next,b,a,c,agY⟩:=d;simp only [df.v]at *;have T:=(tR w).alloc (bS #[bT j n l,f,next,bT b a c] 29);have u:=lh s;have x:=lh ao;clear s ao Z h;go_enter func60,ntmps60;go_wp2_with fail
 have E:(w.alloc (bS #[bT j n l,f,next,bT b a c] 29)).cell? ⟨w,3,cg⟩=cf (bT b a c):=mu
 generalize w.alloc (bS #[bT j n l,f,next,bT b a c] 29)=W at *;go_loop [5] (λs5=>∃k:Nat,k<=a/\s5=k/\∀i,i<k->A[i]?≠cf id) (λs5=>a-(ci s5).toNat);case atStart=>exact⟨0,gn,rfl,λi m=>absurd m (aU i)⟩
 obtain⟨k,F,rfl,t⟩:=hrel;have B:=lh t;clear t;by_cases a5:k<a
 .obtain⟨g,o,rfl,q⟩:=u.o gn;obtain⟨z,J,ax⟩:=q k a5;have ax:=ax W T;have I:=lh J;clear J q;have C:(0:Int)<=(k:Int):=by omega
  have D:(k:Int)<(a:Int):=gn
  by_cases p:z=id
  .subst p;go_wp2;go_ret;exact⟨by rw [sQ,vS I.o B.o];rfl,T⟩
  go_wp2_with fail
  go_round;case rel=>exact⟨k+1,gn,by go_num,λi m=>by
   by_cases h:i<k
   .exact B.o i h
   obtain rfl:i=k:=gn;rw [I.o];exact λe=>p (Option.some.inj e)⟩
  simp [ci];omega
 obtain rfl:k=a:=gn
 go_wp2;go_ret;exact⟨by rw [sQ,Bg (λi m=>B.o i (by have:=x.o;omega))];rfl,T⟩
theorem dn.cell{w:cj}{A:Option cp}{n:Nat}{c:List Int}(h:dn w A n c)(a:1<=n): ∃g o,A=cf ⟨g,o,cg⟩/\∀w',bH [] w w'->∀j,j<n->w'.cell? ⟨g,o+j,cg⟩=cf (ca .i64 (c.getD j 0)):=by obtain⟨g,o,rfl,_⟩:=h.2 0 gn;refine⟨g,o,rfl,λw' T j k=>?_⟩;obtain⟨O,R,e,b⟩:=h.2 j k;injection e with e;injection e with l z N;subst l;subst z;rw [(bY T).1 _ _ (ai b)];exact b
theorem KG(c:List Int)(x:Int)(A:Option cp)(n cap:Nat)(C:n<=1000000000)(w:cj)(h:dn w A n c):
  cr cF 61 #[bT A n cap,x] w λe w'=>e=cQ (bX (decide (x∈c)))/\w'=w:=by
 have G:=h.1;have d:=λs=>h.cell s;have p:=lh d;have q:=lh G;clear d G h;go_enter func61,ntmps61;go_wp2_with fail
 go_loop [5] (λs5=>∃k:Nat,k<=n/\s5=k/\∀i,i<k->c.getD i 0≠x) (λs5=>n-(ci s5).toNat);case atStart=>exact⟨0,gn,rfl,λi m=>absurd m (aU i)⟩
 obtain⟨k,D,rfl,f⟩:=hrel;have B:=lh f;clear f;by_cases a5:k<n
 .obtain⟨g,o,rfl,b⟩:=p.o gn;have ax:=b w (tR w) k a5;clear b;have l:c.getD k 0∈c:=by have:k<c.length:=ou;simp [List.getD,this]
  have Z:=lh l;clear l;generalize J:c.getD k 0=z at *;have I:=lh J;clear J;have v:(0:Int)<=(k:Int):=gn
  have y:(k:Int)<(n:Int):=gn
  by_cases a:z=x
  .subst a;go_wp2;go_ret;exact⟨by rw [aC Z.o];rfl,rfl⟩
  go_wp2_with fail
  go_round;case rel=>exact⟨k+1,gn,by go_num,λi m=>by
   by_cases h:i<k
   .exact B.o i h
   obtain rfl:i=k:=gn;rw [I.o];exact a⟩
  simp [ci];omega
 obtain rfl:k=n:=gn
 go_wp2;go_ret;refine⟨?_,rfl⟩;rw [ak]
 .rfl
 intro u;obtain⟨j,t,rfl⟩:=List.getElem_of_mem u;exact B.o j ou (by simp [List.getD,t])
theorem jg(l:bI)(u:cj)(ty:cD): (u.alloc (bS ⟨l.row⟩ ty)).rangeAt u.heap.size 0 l.row:=by intro j v e;rw [aA _ _ _ _ ty (0,0) (cq u _),Nat.zero_add,<-e];show (l.row.toArray)[j]?=_;rw [List.getElem?_toArray]
theorem kQ{W:cj}{b:Nat}{L:List cm}(h:W.rangeAt b 0 L)(k:Nat)(v:cm)(e:L[k]?=cf v): W.cell? ⟨b,k,cg⟩=cf v:=by simpa using h k v e
theorem MS(l:bI)(w:cj): cr cF 120 #[l.v] w λe w'=>e=cQ (if l.ag1=4 then bT (cf ⟨w+1,0,cg⟩) 1 1 else bT l.Xi l.Xh l.Xj)/\bH [] w w'/\(l.ag1=4->w'.cell? ⟨w+1,0,cg⟩=cf (ca .i64 l.of)):=by
 have b:=jg l w 51;have c:=kQ b 1 l.ag1 rfl;have d:=kQ b 15 (bT l.Xi l.Xh l.Xj) rfl;have g:=kQ b 16 l.of rfl;have T:=(tR w).alloc (bS ⟨l.row⟩ 51);clear b;unfold bI.v;generalize l.row=q at *;have n:(w.alloc (bS ⟨q⟩ 51)).heap.size=w.heap.size+1:=by show (w.heap.push _).size=_;simp
 by_cases h:l.ag1=4
 .rw [aG h];rw [h]at c;go_enter func120,ntmps120;go_wp2;go_ret;refine⟨rfl,T.a _,λ_=>?_⟩;rw [<-n,aA _ _ _ _ 3 (0,0) (cq _ _)];rfl
 rw [aF h];go_enter func120,ntmps120;go_wp2;go_ret;exact⟨rfl,T,λf=>absurd f h⟩
noncomputable def ZL:Array cm:=match (prog.info? 51).map (λi=>i.zero)with|some (cf (Value.agg a))=>a|_=>#[]
inductive UG:Ending->Prop where
 |mk (a b:Int) (c:Bool):UG (cQ (cb #[a,b,bX c]))
theorem rX:(prog.info? 51).map (λi=>(i.zero,i.size))=cf (cf (cb ZL),31):=lB
theorem UZ:ZL.size=31:=lB
theorem bI.row_len(l:bI): l.row.length=31:=rfl
theorem bI.row_one(l:bI): (⟨l.row⟩:Array cm).all (·.oneCell')=cM:=by refine ct (cs:=l.row) λv e=>?_;unfold bI.row at e;simp only [aS,aW,or_false]at e;rcases e with h|h|h|h|h|h|h|h|h|h|h|h|h|h|h|h|h|h|h|h|h|h|h|h|h|h|h|h|h|h|h<;>subst h<;>rfl
theorem pX(l:bI)(u:cj): (Instr.storeAt 51 (cd (cf ⟨u,0,cg⟩)) (cb ⟨l.row⟩)).run cF (u.alloc (bS ZL 51))=.ok () (u.alloc (bS ⟨l.row⟩ 51)):=
 cw u 51 ZL ⟨l.row⟩ (co rX).2 (by rw [UZ];rfl) l.row_one
theorem oM: AL 51 ZL:=λu=>by unfold Instr.alloc;rw [Sem.run_bind,(co rX).1];rfl
theorem Jc(d:df)(id:Int)(w:cj)(h:d.At w): cr cF 99 #[d.v,id] w λe w'=>UG e/\bH [] w w':=by
 have E:=h.agY;have a4:=h.small;have P:=E.1;have K:=λh1=>E.cell h1;clear h E;obtain⟨sA,sn,sc,ag2,a2,next,R,m,S,agY⟩:=d;simp only [df.v]at *;have U:=lh K;have Y:=lh P;clear K P;go_enter func99,ntmps99;go_wp2_with fail
 obtain⟨W,p⟩:=eX ((w.alloc (bS #[bT sA sn sc,a2,next,bT R m S] 29)).alloc (bS #[(0:Int),(0:Int),bX cK] 177));have Z:bH [] w W:=p▸((tR w).a _).a _;have A:=cAt 3 (JK p).1 rfl;obtain⟨B,J,Q⟩:=WP (JK p).2;have C:∀i,W.frozen? ⟨w+1,i,cg⟩=cK:=λi=>by rw [p];simp [go_sem]
 rw [<-p];go_loopw [5] (λs5 wr=>∃k:Nat,k<=m/\s5=k/\bH [] W wr) (λs5 _=>m-(ci s5).toNat);case atStart=>exact⟨0,gn,rfl,tR W⟩
 obtain⟨k,hk,rfl,T⟩:=hrel;have y:=Z.t T;have A:wr.cell? ⟨w,3,cg⟩=cf (bT R m S):=by rw [(bY T).1 _ _ (ai A)];exact A
 have s:=ai B;have B:wr.cell? ⟨w+1,0,cg⟩=cf (ca .i64 0):=by rw [(bY T).1 _ _ s];exact B
 have J:wr.cell? ⟨w+1,1,cg⟩=cf (ca .i64 0):=by rw [(bY T).1 _ _ s];exact J
 have Q:wr.cell? ⟨w+1,2,cg⟩=cf (bX cK):=by rw [(bY T).1 _ _ s];exact Q
 have C:∀i,wr.frozen? ⟨w+1,i,cg⟩=cK:=λi=>by rw [(bY T).2 _ _ s];exact C i
 by_cases a5:k<m
 .obtain⟨g,o,rfl,H⟩:=U.o gn;have b9:k<agY.length:=by have:=Y.o;omega
  obtain⟨l,O⟩:∃l,agY[k]?=cf l:=⟨agY[k],nv⟩;obtain⟨D,L⟩:=H wr y k l O;have M:(prog.info? 51).map (·.size)=cf l.row.length:=(co rX).2;have a8:=pX l wr;have aw:=oM wr;have b0:(0:Int)<=(k:Int):=gn
  have b1:(k:Int)<(m:Int):=gn
  have z:=jg l wr 51;have p0:=kQ z 0 l.id rfl;have p1:=kQ z 1 l.ag1 rfl;have a6:=kQ z 15 (bT l.Xi l.Xh l.Xj) rfl;have c:=(tR wr).alloc (bS ⟨l.row⟩ 51);have N:=D.ag0;have a3:=D.Xk;clear z D H O b9;generalize l.row=f,l.Xi=kA,l.Xh=n,l.Xj=kc at *;have F:=lh N;clear N;go_wp2_with (first
   |(refine ck rfl 51 _ rfl _ _ rfl _ _ L cG rfl M ?_)
   |(refine bU rfl 51 _ _ rfl rfl rfl a8 ?_))
  have x:=ai B;have y0:(wr.alloc (bS ⟨f⟩ 51)).cell? ⟨w+1,0,cg⟩=cf (ca .i64 0):=by rw [(bY c).1 _ _ x];exact B
  have y1:(wr.alloc (bS ⟨f⟩ 51)).cell? ⟨w+1,1,cg⟩=cf (ca .i64 0):=by rw [(bY c).1 _ _ x];exact J
  have y2:(wr.alloc (bS ⟨f⟩ 51)).cell? ⟨w+1,2,cg⟩=cf (bX cK):=by rw [(bY c).1 _ _ x];exact Q
  have yf:∀i,(wr.alloc (bS ⟨f⟩ 51)).frozen? ⟨w+1,i,cg⟩=cK:=λi=>by rw [(bY c).2 _ _ x];exact C i
  have G:bH [] W (wr.alloc (bS ⟨f⟩ 51)):=T.t c;have TX:bH [] w (wr.alloc (bS ⟨f⟩ 51)):=y.t c;have X:Hid (dn (wr.alloc (bS ⟨f⟩ 51)) kA n l.ag0):=lh (F.o.u c);clear B J Q C a8 aw L M A F;generalize wr.heap.size=b,wr.alloc (bS ⟨f⟩ 51)=V at *;clear c T y;go_loopw [7] (λs7 v=>∃j:Nat,j<=n/\s7=j/\v=V) (λs7 _=>n-(ci s7).toNat);case atStart=>exact⟨0,gn,rfl,rfl⟩
  obtain⟨j,hj,rfl,rfl⟩:=hrel;by_cases a0:j<n
  .obtain⟨g2,o2,rfl,I⟩:=X.o.cell gn;have ax:=I _ (tR _) j a0;clear I;generalize l.ag0.getD j 0=q at *;have c0:(0:Int)<=(j:Int):=gn;have c1:(j:Int)<(n:Int):=gn;by_cases a1:l.ag1=2
   .rw [a1]at p1;by_cases hq:q=id
    .subst hq;(go_wp2_with fail);refine ag (v:=cb #[l.id,j,bX cM]) si rfl ⟨.mk _ _ _,?_⟩;exact ((TX.sc).sc).sc
    go_wp2;go_roundw;case rel=>exact⟨j+1,gn,by go_num,by first|rfl|trivial⟩
    simp [ci];omega
   (go_wp2_with fail);exact⟨⟨k+1,gn,by go_num,G⟩,by simp [ci];omega⟩
  obtain rfl:j=n:=gn
  go_wp2_with fail
  exact⟨⟨k+1,gn,by go_num,G⟩,by simp [ci];omega⟩
 obtain rfl:k=m:=gn
 go_wp2_with fail
 refine ag (v:=cb #[(0:Int),(0:Int),bX cK]) sI rfl ⟨.mk _ _ _,?_⟩;exact ((y.sc).sc).sc
def Il(w:cj)(base:Nat)(v:cm)(xs:List Int): Prop:=qJ w base 3 1 v xs.length (xs.map (Value.int .i64))
theorem uI:(prog.info? 3).map (λi=>(i.zero,i.size,i.bytes))=cf (cf (ca .i64 0),1,8):=lB
theorem Qj:∃i,prog.info? 3=cf i/\i.zero=cf (ca .i64 0)/\i.size=1/\i.bytes=8:=by
 have h:=uI;cases m:prog.info? 3 with
 |none=>rw [m]at h;cases h
 |some i=>
  rw [m]at h;simp only [Option.map_some,Option.some.injEq,Prod.mk.injEq]at h;exact⟨i,rfl,h.1,h.2.1,h.2.2⟩
theorem Il.form{w:cj}{base:Nat}{v:cm}{xs:List Int}(h:Il w base v xs): (v=bT cg 0 0/\xs=[])\/∃g o a,v=bT (cf ⟨g,o,cg⟩) xs.length a/\base<=g/\g<w.heap.size/\xs.length<=a/\∀j,j<xs.length->w.cell? ⟨g,o+j,cg⟩=cf (ca .i64 (xs.getD j 0)):=by
 rcases h.2 with ⟨rfl,e⟩|⟨g,c,a,d,rfl,f,b,G,l,n,i⟩
 .exact .inl ⟨rfl,List.eq_nil_of_length_eq_zero e⟩
 refine .inr ⟨g,c,a,rfl,f,(ae.1 b).1,G,λj k=>?_⟩;rw [aA w g (c+j) d 3 (0,0) b];exact i j _ sB
theorem Il.ints{w:cj}{base:Nat}{v:cm}{xs:List Int}(h:Il w base v xs): ∃A n a,v=bT A n a/\dn w A n xs:=by
 rcases h.form with ⟨rfl,rfl⟩|⟨g,o,a,rfl,_,_,_,b⟩
 .exact⟨cg,0,0,rfl,rfl,λj k=>absurd k (aU j)⟩
 exact⟨cf ⟨g,o,cg⟩,xs.length,a,rfl,rfl,λj k=>⟨g,o,rfl,b j k⟩⟩
theorem Il.u{w w':cj}{base:Nat}{v:cm}{xs:List Int}(h:Il w base v xs)(T:bH [] w w'): Il w' base v xs:=
 h.keep λg d=>T.old g (h.lt g d).2.1 lz
theorem iQ{w:cj}{base:Nat}{v:cm}{xs c:List Int}(h:Il w base v xs){A:Option cp}{n cap:Nat}(m:dn w A n c)(f:base<=w.heap.size)(b:xs.length+n<=1000000)(ty:cD):
  ∃d w',(Builtin.append_ #[22,22] ty #[v,bT A n cap]).run cF w=.ok d w'/\Il w' base d (xs++c)/\bH (dI v) w w'/\(∀g∈dI d,g∈dI v\/w.heap.size<=g):=by
 obtain⟨i,Z,D,B,y⟩:=Qj;have G:=m.1;by_cases e:n=0
 .subst e;have k:c=[]:=List.eq_nil_of_length_eq_zero G.symm;subst k;rw [List.append_nil];refine⟨v,w,?_,h,bH.refl _ w,λg p=>.inl p⟩;rcases h.form with ⟨rfl,rfl⟩|⟨g,o,E,rfl,_,_,s,_⟩
  .cases A<;>simp [Builtin.append_,cy cJ,sizeOf,typeInfo,Z,Builtin.lenOf,Builtin.firstCells,loadCells,loadCellsFrom]
  cases A<;>simp [Builtin.append_,cy cJ,sizeOf,typeInfo,Z,Builtin.lenOf,Builtin.firstCells,s,storeCells,loadCells,loadCellsFrom]
 obtain⟨g,o,rfl,ax⟩:=m.cell gn;have ax:=ax w (tR w);have t:=oq (P:=cF) (ty:=ty) cJ Z D B y rfl gn (v:=v) (n:=xs.length) (xs:=xs.map (Value.int .i64)) h ⟨g,o,cg⟩ n cap (c.map (Value.int .i64)) (by rw [aJ,<-G,Nat.mul_one]) (λj u a=>by
  have q:j<c.length:=by have:=(ah.1 a).1;simpa using this
  rw [Addr.add_lit];rw [ax j gn,<-a];simp [List.getD,q]) (λu a=>by obtain⟨x,_,rfl⟩:=List.mem_map.1 a;rfl) (aK b lG) gn f
 obtain⟨d,w',l,z,N,C⟩:=t;refine⟨d,w',l,?_,N,C⟩;unfold Il;rw [aO,List.map_append,<-G];exact z
theorem rG{P:Program}{b:Array cB}{rest:List cB}{o:cB}{a:Act}{w w':cj}{Q:Exit->Act->cj->Prop}(e:o.guard=cg)(s x:Operand)(t:cD){v y d:cm}
  (f:o.op=Op.call { callee:=Callee.builtin Builtin.append,args:=#[s,x],argTypes:=#[t,t] }) (n:a.eval s=v) (h:a.eval x=y)
  (g:(Builtin.append_ #[t,t] o.type #[v,y]).run P w=.ok d w') (K:cz P b Q rest (a.put o.dst d) w'):cz P b Q (o::rest) a w:=by
 refine wpList_plain e λi c=>?_;unfold Oper.wp;simp [execOp,f,resolve,invoke,builtin,n,h,g,Result.andThen];exact c _ _ K
theorem yB{f:Array cB}{rest:List cB}{o:cB}{a:Act}{w:cj}{Q:Exit->Act->cj->Prop}(l:o.guard=cg)(s x:Operand)
  (p:o.op=Op.call { callee:=Callee.builtin Builtin.append,args:=#[s,x],argTypes:=#[22,22] }) {b:Nat} {v:cm} {e c:List Int} (t:a.eval s=v) (h:Il w b v e) {A:Option cp} {n i:Nat}
  (u:a.eval x=bT A n i) (m:dn w A n c) (k:b<=w.heap.size) (j:e.length+n<=1000000)
  (K:∀d w',Il w' b d (e++c)->bH (dI v) w w'->(∀g∈dI d,g∈dI v\/w.heap.size<=g)->cz cF f Q rest (a.put o.dst d) w'):cz cF f Q (o::rest) a w:=by
 obtain⟨d,w',q,y,z,B⟩:=iQ h m k j o.type;exact rG l s x 22 p t u q (K d w' y z B)
theorem mg(u:cj): Il (u.alloc (bS #[] 3)) u.heap.size (bT (cf ⟨u,0,cg⟩) 0 0) []:=
 qJ.of_own (World.ownsRow_lit u #[] 0 (aQ _) lG rfl)
theorem Il.base{w:cj}{base base':Nat}{v:cm}{xs:List Int}(h:Il w base v xs)(i:base'<=base): Il w base' v xs:=by
 refine⟨h.1,?_⟩;rcases h.2 with f|⟨g,e,a,b,c,l,d⟩
 .exact .inl f
 exact .inr ⟨g,e,a,b,c,gn,d⟩
theorem fH{W w w':cj}{b:List Nat}(h:bH [] W w)(k:bH b w w')(c:∀g∈b,W.heap.size<=g): bH [] W w':=
 ⟨aK h.size k.size,λj a _=>(k.old j (aj a h.size) (λe=>by have:=c j e;omega)).t (h.old j a lz),k.os.t h.os,k.tape.t h.tape,k.output.t h.output⟩
theorem qj(g o n c:Nat): dI (bT (cf ⟨g,o,cg⟩) n c)=[g]:=rfl
def fZ(l:bI): List Int:=if l.ag1=4 then [l.of] else l.ag0
def eP(ls:List bI)(id:Int): List Int:=match mW (ls.map (·.id)) id with|some k=>(match ls[k]? with|some l=>fZ l|none=>[])|none=>[]
theorem rV(l:bI)(w:cj)(h:l.At w): cr cF 120 #[l.v] w λe w'=>∃A n a,e=cQ (bT A n a)/\dn w' A n (fZ l)/\n<=50/\bH [] w w':=by
 refine (MS l w).mono ?_;rintro e w' ⟨rfl,T,b⟩;unfold fZ;by_cases d:l.ag1=4
 .simp only [d,if_true];refine⟨_,_,_,rfl,⟨rfl,λj k=>?_⟩,gn,T⟩;obtain rfl:j=0:=by omega
  exact⟨_,_,rfl,b d⟩
 simp only [d,if_false];exact⟨_,_,_,rfl,h.ag0.u T,h.Xk,T⟩
theorem MX(d:df)(id:Int)(w:cj)(h:d.At w): cr cF 119 #[d.v,id,bX cK] w λe w'=>∃v,e=cQ v/\Il w' w.heap.size v (eP d.agY id)/\bH [] w w':=by
 have L:=uD d id;have U:=Jc d id;have O:=λh1=>h.agY.cell h1;have V:=h.agY.1;have ao:d.ids.length=d.ln:=oe
 have G:=lh h;have a7:=h.small;have X:d.ids=d.agY.map (·.id):=rfl;clear h;generalize d.ids=J at *;obtain⟨p,x,s,ag2,m,next,K,a,c,agY⟩:=d;simp only [df.v]at *;have z:=(tR w).alloc (bS #[bT p x s,m,next,bT K a c] 29);have E:(w.alloc (bS #[bT p x s,m,next,bT K a c] 29)).cell? ⟨w,3,cg⟩=cf (bT K a c):=mu
 obtain⟨a6,a1,Y,HN,M⟩:=lh5 L U O V X;clear L U O V X;cases i:mW J id with
 |none=>
  have B:eP agY id=[]:=by unfold eP;rw [<-M.o,i]
  have C:sQ J id=-1:=by unfold sQ;rw [i]
  rw [B];rw [C]at a6;go_enter func119,ntmps119;go_wp2_with (go_at_call 60;refine mR (a6.o _ (G.o.u (by assumption))) λy aR=>?_)
  go_ret;exact⟨_,rfl,qJ.nil _ _ _ _,z.t aR⟩
 |some k=>
  have hk:k<a:=by have:=(bi.1 i).1;omega
  have b9:k<agY.length:=nk
  obtain⟨l,H⟩:∃l,agY[k]?=cf l:=⟨agY[k],nv⟩;have B:eP agY id=fZ l:=by unfold eP;rw [<-M.o,i];simp [H]
  have C:sQ J id=(k:Int):=by unfold sQ;rw [i]
  rw [B];rw [C]at a6;obtain⟨g,o,rfl,P⟩:=Y.o gn;have HR:Hid (∀w',bH [] w w'->l.At w'/\w'.rangeAt g (o+k*31) l.row):=lh λw' T=>P w' T k l H;have a3:(prog.info? 51).map (·.size)=cf l.row.length:=(co rX).2;have b0:(0:Int)<=(k:Int):=gn
  have b1:(k:Int)<(a:Int):=gn
  have a0:=lh (rV l);clear P B C i H b9;go_enter func119,ntmps119;go_upto_region 4 with (go_at_call 60;refine mR (a6.o _ (G.o.u (by assumption))) λy aR=>?_)
  have F:=z.t aR;have n:=ai E;have N:=F.alloc (bS #[] 3);have I:=aR.alloc (bS #[] 3);have e3:(y.alloc (bS #[] 3)).cell? ⟨w,3,cg⟩=cf (bT (cf ⟨g,o,cg⟩) a c):=by rw [(bY I).1 _ _ n];exact E
  obtain⟨S,W⟩:=HR.o _ N;have R:=mg y;go_upto_region 5 with (first
   |(refine ck rfl 51 _ rfl _ _ rfl _ _ W cG rfl a3 ?_)
   |(go_at_call 120;refine (a0.o _ S).mono ?_;rintro e w2 ⟨A2,n2,c2,rfl,Q,a5,D⟩)
   |(refine yB rfl _ _ rfl rfl (R.u D) rfl Q (by have:=D.size;simp only [aI]at this;omega) lO ?_;intro v' j b A hB))
  rw [List.nil_append]at b;have A:bH [y.heap.size] w2 j:=A;have b:=b.base (base':=w.heap.size) (by have:=F.size;omega);have a8:(w.alloc (bS #[bT p x s,m,next,bT (cf ⟨g,o,cg⟩) a c] 29)).heap.size=w.heap.size+1:=tX
  have f:bH [] (w.alloc (bS #[bT p x s,m,next,bT (cf ⟨g,o,cg⟩) a c] 29)) j:=fH (I.t D) A (λq hq=>by
   have:q=y.heap.size:=(by simpa using hq);have:=aR.size;omega)
  have q0:j.cell? ⟨w,0,cg⟩=cf (bT p x s):=pP
  have q1:j.cell? ⟨w,1,cg⟩=cf (ca .i64 m):=pP
  have q2:j.cell? ⟨w,2,cg⟩=cf (ca .i64 next):=pP
  have q3:j.cell? ⟨w,3,cg⟩=cf (bT (cf ⟨g,o,cg⟩) a c):=by rw [(bY f).1 _ _ n];exact E
  have a2:=G.o.u (z.t f);have HV:=lh b;clear R S W N I e3 A hB b Q D aR F E;go_wp2_with (go_at_call 99;refine (a1.o _ a2).mono ?_;rintro e w5 ⟨a4,Z⟩;cases a4)
  go_ret;exact⟨_,rfl,HV.o.u (Z.alloc _),(z.t f).t (Z.alloc _)⟩
inductive iY(ls:List bI): Int->Int->Prop where
 |one {x y:Int} (h:y∈eP ls x):iY ls x y
 |tail {x y z:Int} (h:iY ls x y) (k:z∈eP ls y):iY ls x z
structure nZ(ls:List bI)(id:Int)(xs todo:List Int): Prop where
 nd:xs.Nodup
 rx:∀x∈xs,iY ls id x
 rt:∀x∈todo,iY ls id x
 st:∀y∈eP ls id,y∈xs\/y∈todo
 cl:∀x∈xs,∀y∈eP ls x,y∈xs\/y∈todo
 len:todo.length<=50*(xs.length+1)
def oP(ls:List bI): Prop:=ls.length<=50/\∀l∈ls,l.ag0.length<=50
theorem yz{l:bI}(h:l.ag0.length<=50): (fZ l).length<=50:=by
 unfold fZ;split
 .simp
 exact h
theorem yM{ls:List bI}{id:Int}: eP ls id=[]\/∃l∈ls,eP ls id=fZ l:=by
 unfold eP;split
 .split
  .rename_i k _ l i;exact .inr ⟨l,aH i,rfl⟩
  exact .inl rfl
 exact .inl rfl
theorem oJ{ls:List bI}(h:oP ls)(id:Int): (eP ls id).length<=50:=by
 rcases yM (ls:=ls) (id:=id)with e|⟨l,i,e⟩
 .rw [e];simp
 rw [e];exact yz (h.2 l i)
theorem nZ.start{ls:List bI}(h:oP ls)(id:Int): nZ ls id [] (eP ls id):=
 ⟨List.nodup_nil,λx a=>tP,λx a=>.one a,λy d=>.inr d,λx a=>tP,by have:=oJ h id;simp;omega⟩
theorem nZ.seen{ls:List bI}{id n:Int}{xs rest:List Int}(h:nZ ls id xs (n::rest))(G:n∈xs): nZ ls id xs rest:=by
 have b:∀y,y∈xs\/y∈n::rest->y∈xs\/y∈rest:=by
  rintro y (d|d)
  .exact .inl d
  rcases aS.1 d with rfl|d
  .exact .inl G
  exact .inr d
 exact⟨h.nd,h.rx,λx a=>h.rt x (by simp [a]),λy d=>b y (h.st y d),λx a y d=>b y (h.cl x a y d),by have:=h.len;simp at this;omega⟩
theorem nZ.fresh{ls:List bI}(k:oP ls){id n:Int}{xs rest:List Int}(h:nZ ls id xs (n::rest))(G:n∉xs): nZ ls id (xs++[n]) (rest++eP ls n):=by
 have f:∀y,y∈xs\/y∈n::rest->y∈xs++[n]\/y∈rest++eP ls n:=by
  rintro y (d|d)
  .exact .inl uo
  rcases aS.1 d with rfl|d
  .exact .inl lz
  exact .inr uo
 have g:iY ls id n:=h.rt n lz;refine⟨?_,?_,?_,λy d=>f y (h.st y d),?_,?_⟩
 .rw [List.nodup_append];refine⟨h.nd,lz,λa C b j=>?_⟩;have:b=n:=by simpa using j
  subst this;exact λe=>G (e▸C)
 .intro x c;rcases aV.1 c with c|c
  .exact h.rx x c
  have:x=n:=mx
  subst this;exact g
 .intro x c;rcases aV.1 c with c|c
  .exact h.rt x (by simp [c])
  exact .tail g c
 .intro x c y d;rcases aV.1 c with c|c
  .exact f y (h.cl x c y d)
  have:x=n:=mx
  subst this;exact .inr uo
 have i:=h.len;have l:=oJ k n;simp at i ⊢;omega
theorem nZ.done{ls:List bI}{id:Int}{xs:List Int}(h:nZ ls id xs [])(y:Int): y∈xs↔iY ls id y:=by
 refine⟨h.rx y,λC=>?_⟩;induction C with
 |one hy=>exact (h.st _ hy).resolve_right lz
 |tail _ hz ih=>exact (h.cl _ ih _ hz).resolve_right lz
def Me(ls:List bI): List Int:=(ls.map fZ).flatten
theorem BJ{ls:List bI}{x y:Int}(h:iY ls x y): y∈Me ls:=by
 have b:∀{x y:Int},y∈eP ls x->y∈Me ls:=by
  intro x y d;rcases yM (ls:=ls) (id:=x)with e|⟨l,i,e⟩
  .rw [e]at d;simp at d
  rw [e]at d;exact List.mem_flatten.2 ⟨fZ l,List.mem_map.2 ⟨l,i,rfl⟩,d⟩
 cases h with
 |one h=>exact b h
 |tail _ h=>exact b h
theorem Ia{ls:List bI}(h:oP ls): (Me ls).length<=2500:=by
 have b:∀(m:List bI),(∀l∈m,l.ag0.length<=50)->((m.map fZ).flatten).length<=50*m.length:=by
  intro m;induction m with
  |nil=>intro _;simp
  |cons l m ih=>
   intro e;have a:=ih λl i=>e l sq;have f:=yz (e l lz);simp only [List.map_cons,List.flatten_cons,aO,List.length_cons];omega
 have:=b ls h.2;have:=h.1;unfold Me;omega
theorem xC:∀{xs us:List Int},xs.Nodup->(∀x∈xs,x∈us)->xs.length<=us.length
 | [],_,_,_=>Nat.zero_le _
 |x::xs,us,hn,hs=>by
  have a:=List.nodup_cons.1 hn;have b:=hs x lz;have f:=xC (us:=us.erase x) a.2 λy d=>by have q:y≠x:=λe=>a.1 (e▸d);exact (List.mem_erase_of_ne q).2 (hs y uo)
  rw [List.length_erase_of_mem b]at f;have:0<us.length:=List.length_pos_of_mem b;simp only [List.length_cons];omega
theorem nZ.short{ls:List bI}(h:oP ls){id:Int}{xs a:List Int}(m:nZ ls id xs a): xs.length<=2500/\a.length<=125050:=by have e:=xC m.nd λx b=>BJ (m.rx x b);have f:=Ia h;have g:=m.len;omega
theorem RJ:jo (List.replicate 256 0):=⟨List.length_replicate,λv e=>by have:=List.eq_of_mem_replicate e;omega⟩
theorem PU(l:List dC)(A:Option cp)(n cap:Nat)(hn:n<=1024)(x y:Int)(w:cj)(h:dB w A n l):
  cr cF 43 #[cb #[bT A n cap],cb #[x,y]] w λe w'=>(∃C,jo C/\e=cQ (tv C)/\(n=0->C=List.replicate 256 0))/\bH [] w w':=by
 have Y:∀u:cj,(Instr.alloc 80 cM (.tuple #[])).run cF u=.ok (cd (cf ⟨u,0,cg⟩)) (u.alloc (bS cE 80)):=λu=>oi
 have F:1<=n->∃g o,A=cf ⟨g,o,cg⟩/\∀w',bH [] w w'->∀j t,l[j]?=cf t->jo t.px/\w'.rangeAt g (o+j*258) t.row:=λs=>h.get s;have L:=h.1;obtain⟨W,m⟩:=eX (((w.alloc (bS #[bT A n cap] 49)).alloc (bS #[x,y] 24)).alloc (bS cE 80));have q:bH [] w W:=m▸((((tR w).a _).a _).a _);have q0:=cAt 0 (DD m).1 rfl;obtain⟨q1,q2⟩:=WE (DD m).2.1;have a2:W.heap.size=w.heap.size+3:=mq
 have c:W.heap[w.heap.size+2]?=cf (bS cE 80 (0,0)):=by rw [m];have:=cq ((w.alloc (bS #[bT A n cap] 49)).alloc (bS #[x,y] 24)) (bS cE 80);simpa using this
 have Q:=lh F;have R:=lh L;clear F L h;go_enter func43,ntmps43;go_upto_region 1 with (fail)
 rw [show w.heap.size+1+1=w.heap.size+2 from rfl,<-m];clear m Y;have E:=lh c;clear c;go_wp2_with fail
 go_loopw [5] (λs5 wr=>∃k:Nat,k<=n/\s5=k/\bH [] W wr) (λs5 _=>n-(ci s5).toNat);case atStart=>exact⟨0,gn,rfl,tR W⟩
 obtain⟨k,hk,rfl,d⟩:=hrel;obtain⟨Z,hf⟩:=bY d;by_cases a5:k<n
 .obtain⟨g,o,rfl,I⟩:=Q.o gn;have b9:k<l.length:=by have:=R.o;omega
  obtain⟨t,M⟩:∃t,l[k]?=cf t:=⟨l[k],nv⟩;have z:=λw' T=>I w' T k t M;obtain⟨J,f⟩:=z wr (q.t d);have U:wr.cell? ⟨g,o+k*258,cg⟩=cf (ca .i64 t.x):=by simpa using f 0 _ rfl
  have c1:wr.cell? ⟨g,o+k*258+1,cg⟩=cf (ca .i64 t.y):=f 1 _ rfl;have D:=lh z;have b0:(0:Int)<=(k:Int):=gn
  have b1:(k:Int)<(n:Int):=gn
  clear I z f M b9;generalize ax:t.x=p,ay:t.y=ty at *;have HX:=lh ax;have HY:=lh ay;clear ax ay;go_upto_region 4 with (fail)
  by_cases K:p=x/\ty=y
  .obtain⟨rfl,rfl⟩:=K;have e1:p=p:=rfl;go_quiet (fail)
   have B:bH [] W (wr.drewN nq):=d.drawn nq;generalize wr.drewN nq=V at *;obtain⟨Z,hf⟩:=bY B;obtain⟨_,f⟩:=D.o V (q.t B);have N:V.rangeAt g (o+k*258+2) (t.px.map (Value.int .u8)):=λj v hv=>by have:=f (j+2) v (by show (t.px.map (Value.int .u8))[j]?=cf v;exact hv);rw [show o+k*258+2+j=o+k*258+(j+2) by omega];exact this
   have c:V.heap[w.heap.size+2]?=cf (bS cE 80 (0,0)):=(by rw [B.old _ gn lz];exact E.o);have a1:(Instr.loadAt 80 (cd (cf ⟨g,o+k*258+2,cg⟩))).run cF V=.ok (cb ⟨t.px.map (Value.int .u8)⟩) V:=cx (P:=cF) V _ _ 80 _ _ N cH rfl (by rw [aJ,J.1,iE]);have a8:=jV (ty:=80) (cells:=⟨t.px.map (Value.int .u8)⟩) c (by
    rw [iE];show cf 256=cf (t.px.map (Value.int .u8)).length;rw [aJ,J.1]) (by
    rw [<-QQ,vX];show 256=(t.px.map (Value.int .u8)).length;rw [aJ,J.1]) lW
   have i:(V.setRow (w+2) ⟨t.px.map (Value.int .u8)⟩).heap[w.heap.size+2]?=cf (bS ⟨t.px.map (Value.int .u8)⟩ 80 (0,0)):=sa;have G:=cv (P:=cF) _ (w.heap.size+2) 80 80 ⟨t.px.map (Value.int .u8)⟩ (0,0) _ i cH rfl (by
    rw [iE];show cf 256=cf (t.px.map (Value.int .u8)).length;rw [aJ,J.1])
   have H:bH [] w (V.setRow (w+2) ⟨t.px.map (Value.int .u8)⟩):=(q.t B).setRow _ (.inr gn);have aw:=lh J;have S:Hid (tv t.px=cb ⟨t.px.map (Value.int .u8)⟩):=lh rfl;clear J c i f N U c1 d D;generalize (⟨t.px.map (Value.int .u8)⟩:Array cm)=O at *;go_wp2_with (first
    |(refine qP rfl 80 (.tmp 25) rfl rfl a1 ?_)
    |(refine bU rfl 80 (.tmp 4) (.tmp 26) rfl rfl rfl a8 ?_))
   (try go_frame);refine ag (v:=cb O) ?_ rfl ⟨⟨_,aw.o,by rw [S.o],λX=>absurd X gn⟩,H⟩;simp [results,results43,asAddr,G]
  have a0:p=x->¬ty=y:=λa b=>K ⟨a,b⟩;by_cases s:p=x
  .have h2:=a0 s;go_quiet (fail)
   have B:bH [] W (wr.drewN nq):=d.drawn nq;go_wp2;go_roundw;case rel=>exact⟨k+1,gn,by go_num,B⟩
   simp [ci];omega
  go_quiet (fail)
  have B:bH [] W (wr.drewN nq):=d.drawn nq;go_wp2;go_roundw;case rel=>exact⟨k+1,gn,by go_num,B⟩
  simp [ci];omega
 obtain rfl:k=n:=gn
 have c:wr.heap[w.heap.size+2]?=cf (bS cE 80 (0,0)):=by rw [d.old _ gn lz];exact E.o
 have a8:=jV (ty:=80) (cells:=cE) c lB rfl lB;have i:(wr.setRow (w+2) cE).heap[w.heap.size+2]?=cf (bS cE 80 (0,0)):=sa
 have G:=cv (P:=cF) _ (w.heap.size+2) 80 80 cE (0,0) _ i cH rfl lB;have H:bH [] w (wr.setRow (w+2) cE):=(q.t d).setRow _ (.inr gn);clear c i;go_wp2_with (refine bU rfl 80 (.tmp 4) (.tmp 27) rfl rfl rfl a8 ?_)
 try go_frame
 refine ag (v:=cb cE) ?_ rfl ⟨⟨_,RJ,by rw [KX],λ_=>rfl⟩,H⟩;simp [results,results43,asAddr,G]
section
open Go.RowKit
def jE(s:BAr): Prop:=s.size<=12/\∀j (k:j<s.size),97<=s[j].toNat/\s[j].toNat<=122
theorem adT(s:BAr)(h:jE s)(w:cj): CR 116 #[ce s] w (bX cM):=by
 obtain⟨b,h⟩:=h;have E:decide ((s.size:Int)<=12)=cM:=aC gn;go_enter func116,ntmps116;go_wp2;go_loopw [3] (λs3 wr=>∃i:Nat,i<=s.size/\s3=i/\wr=w) (λs3 _=>s.size-(ci s3).toNat);case atStart=>exact⟨0,gn,rfl,rfl⟩
 obtain⟨i,m,rfl,rfl⟩:=hrel;by_cases a5:i<s.size
 .obtain⟨e,f⟩:=h i a5;have a:¬((s[i].toNat:Int)<97):=by omega
  have j:¬(122<(s[i].toNat:Int)):=gn
  go_wp2;exact⟨⟨i+1,gn,by go_num,trivial⟩,by simp [ci];omega⟩
 go_wp2;go_ret;exact⟨by rw [<-E];rfl,tR _⟩
theorem JA(s:BAr)(c:Int)(w:cj): cr cF 281 #[ce s,ca .u8 c] w λe w'=>e=cQ (ca .i64 (firstIdx s c.toNat.toUInt8))/\w'=w:=by
 have H:∀w,cr cF 285 #[ce s,ca .u8 c] w λe w'=>e=cQ (ca .i64 (firstIdx s c.toNat.toUInt8))/\w'=w:=by intro w;go_enter func285,ntmps285;go_wp2;rw [run_callFunc_extern func286 lB lB lB (e:=Extern.BytealgIndexByte.indexByte) lB,run_indexByte_string];simp only [Result.andThen];rw [Oper.upon_value];go_wp2;go_ret;exact⟨rfl,rfl⟩
 have H:=lh H;go_enter func281,ntmps281;go_wp2_with (go_at_call 285;refine (H.o _).mono ?_;rintro e a ⟨rfl,rfl⟩)
 go_ret;exact⟨rfl,rfl⟩
def adS:BAr:=⟨#[97,98,99,100,101,102,103,104,105,106,107,108,109,110,111,112,113,114,115,116,117,118,119,120,121,122,48,49,50,51,52,53,54,55,56,57,45,95]⟩
theorem afa:∀k:Nat,k<26->firstIdx adS (k+97).toUInt8=(k:Int):=lG
theorem aef(c:Nat)(f:97<=c)(g:c<=122)(w:cj): cr cF 270 #[ca .i32 c] w λe w'=>e=cQ (bX cK)/\w'=w:=by
 obtain⟨k,rfl⟩:∃k,c=k+97:=⟨c-97,gn⟩;have a:=afa k gn;have Z:=JA adS ((k+97:Nat):Int);have h:IntKind.u8.wrap ((k+97:Nat):Int)=((k+97:Nat):Int):=lD
 rw [Int.toNat_natCast,a]at Z;generalize k+97=c at *;have d:(0:Int)<=c:=gn
 have u:((c:Nat):Int)<128:=gn
 have C:∀w,cr cF 278 #[ce adS,ca .i32 c] w λe w'=>e=cQ (k:Int)/\w'=w:=by
  intro w;have Z:=lh Z;clear a;generalize adS=s at *;go_enter func278,ntmps278;go_wp2_with (go_at_call 281;refine (Z.o _).mono ?_;rintro e b ⟨rfl,rfl⟩)
  go_ret;exact⟨rfl,rfl⟩
 have l:∀w,cr cF 271 #[ce adS,ca .i32 c] w λe w'=>e=cQ (bX cM)/\w'=w:=by
  intro w;have C:=lh C;clear a Z;generalize adS=s at *;go_enter func271,ntmps271;go_wp2_with (go_at_call 278;refine (C.o _).mono ?_;rintro e b ⟨rfl,rfl⟩)
  go_ret;exact⟨rfl,rfl⟩
 have l:=lh l;clear a Z C;go_enter func270,ntmps270;go_wp2_with (go_at_call 271;refine (l.o _).mono ?_;rintro e b ⟨rfl,rfl⟩)
 go_ret;exact⟨rfl,rfl⟩
theorem ac8(s:BAr)(h:jE s)(w:cj): CR 248 #[ce s] w (bX cM):=by
 obtain⟨d,h⟩:=h;have N:∀w,cr cF 279 #[ce s,.func (.func 270) #[] #[],bX cM] w λe w'=>e=cQ (ca .i64 (-1))/\w'=w.iter s s.size:=by
  intro w;go_enter func279,ntmps279;go_wp2;go_loopw [] (λwr=>∃i:Nat,i<=s.size/\wr=w.iter s i) (λwr=>s.size-wr.iterPos w.heap.size);case atStart=>exact⟨0,gn,rfl⟩
  obtain⟨i,m,rfl⟩:=hrel;by_cases a5:i<s.size
  .obtain⟨c,f⟩:=h i a5;have G:=run_next_ascii (P:=cF) w s i 0 a5 gn;have u:=lh (aef s[i].toNat c f);(go_wp2_with (go_at_call 270;refine (u.o _).mono ?_;rintro e b ⟨rfl,rfl⟩));exact⟨⟨i+1,gn,rfl⟩,by rw [iterPos_of (World.iter_heap w s (i+1)),iterPos_of (World.iter_heap w s i)];omega⟩
  have G:=run_next_end (P:=cF) w s i 0 a5;obtain rfl:i=s.size:=gn
  go_wp2;go_ret;exact⟨rfl,rfl⟩
 have N:=lh N;have E:(s.size:Int)<=12:=gn
 have p:∀w,cr cF 272 #[ce s,.func (.func 270) #[] #[]] w λe w'=>e=cQ (ca .i64 (-1))/\w'=w.iter s s.size:=by
  intro w;go_enter func272,ntmps272;go_wp2_with (go_at_call 279;refine (N.o _).mono ?_;rintro e b ⟨rfl,rfl⟩)
  go_ret;exact⟨rfl,rfl⟩
 have p:=lh p;go_enter func248,ntmps248;go_wp2_with (go_at_call 272;refine (p.o _).mono ?_;rintro e b ⟨rfl,rfl⟩)
 go_ret;exact⟨rfl,(tR w).a _⟩
end
theorem U4(l:bI)(id:Int)(b:Nat)(w:cj)(a:w.cell? ⟨b,0,cg⟩=cf (ca .i64 id)):
  CR 135 #[l.v,cd (cf ⟨b,0,cg⟩)] w (bX (l.id==id)):=by
 have c:=(tR w).alloc (bS ⟨l.row⟩ 51);have O:(w.alloc (bS ⟨l.row⟩ 51)).cell? ⟨w,0,cg⟩=cf (ca .i64 l.id):=by simpa using jg l w 51 0 _ rfl
 have d:(w.alloc (bS ⟨l.row⟩ 51)).cell? ⟨b,0,cg⟩=cf (ca .i64 id):=((bY c).1 _ _ (ai a)).t a;unfold bI.v;clear a;generalize l.row=q,l.id=x at *;go_enter func135,ntmps135;go_wp2;go_ret;exact⟨rfl,c⟩
theorem MH(d:List Int)(ls:List bI)(j:d=ls.map (·.id))(A:Option cp)(n cap:Nat)(P:n<=50)(id:Int)(q:Nat)(w:cj)(h:kG w A n ls)(E:w.cell? ⟨q,0,cg⟩=cf (ca .i64 id)):
  CR 134 #[bT A n cap,.func (.func 135) #[] #[cd (cf ⟨q,0,cg⟩)]] w (ca .i64 (sQ d id)):=by
 have z:=λG=>h.cell G;have c:=h.1;have ao:d.length=n:=by rw [j,c];simp
 obtain⟨F,s,u,x⟩:=lh4 z j ao E;clear z c h j ao E;go_enter func134,ntmps134;go_wp2_with fail
 go_loopw [8] (λs8 wr=>∃k:Nat,k<=n/\s8=k/\(∀i,i<k->d[i]?≠cf id)/\bH [] w wr) (λs8 _=>n-(ci s8).toNat);case atStart=>exact⟨0,gn,rfl,λi m=>absurd m (aU i),tR w⟩
 obtain⟨k,O,rfl,D,T⟩:=hrel;have B:=lh D;clear D;by_cases a5:k<n
 .obtain⟨g,o,rfl,y⟩:=F.o gn;have b9:k<ls.length:=by have:=u.o;have:=s.o;simp_all
  obtain⟨l,c⟩:∃l,ls[k]?=cf l:=⟨ls[k],nv⟩;obtain⟨_,C⟩:=y wr T k l c;have J:d[k]?=cf l.id:=by rw [s.o];simp [c]
  have a:=U4 l id q wr (((bY T).1 _ _ (ai x.o)).t x.o);have M:(prog.info? 51).map (·.size)=cf l.row.length:=(co rX).2;have I:=lh J;have H:=lh T;clear y c b9 T J;have L:(0:Int)<=(k:Int):=gn
  have N:(k:Int)<(n:Int):=gn
  unfold bI.v at a;generalize l.row=Q at *;cases b:(l.id==id)with
  |true=>
   rw [b]at a;have Z:=lh b;have f:=lh a;clear b a;go_wp2_with (first
    |(refine ck rfl 51 _ rfl _ _ rfl _ _ C cG rfl M ?_)
    |(go_at_call 135;refine mR f.o λK p=>?_))
   go_ret;refine⟨?_,H.o.t p⟩;rw [sQ,vS (by rw [I.o];simpa using Z.o) B.o];rfl
  |false=>
   rw [b]at a;have Z:=lh b;have f:=lh a;clear b a;go_wp2_with (first
    |(refine ck rfl 51 _ rfl _ _ rfl _ _ C cG rfl M ?_)
    |(go_at_call 135;refine mR f.o λK p=>?_))
   go_roundw;case rel=>exact⟨k+1,gn,by go_num,λi m=>by
    by_cases h:i<k
    .exact B.o i h
    obtain rfl:i=k:=gn;rw [I.o];have:=Z.o;intro e;rw [Option.some.inj e]at this;simp at this,H.o.t p⟩
   simp [ci];omega
 obtain rfl:k=n:=gn
 go_wp2;go_ret;exact⟨by rw [sQ,Bg (λi m=>B.o i (by have:=u.o;omega))];rfl,T⟩
def Af.srcX(p:Af)(x y:Int): Int:=iq (p.den*(p.e*(2*x+1)-p.b*(2*y+1))+2*(p.b*p.f-p.e*p.c)) (2*p.det)
def Af.srcY(p:Af)(x y:Int): Int:=iq (p.den*(p.a*(2*y+1)-p.d*(2*x+1))+2*(p.d*p.c-p.a*p.f)) (2*p.det)
theorem Af.bds(p:Af)(h:p.ok=cM): (((-4096<=p.a/\p.a<=4096)/\-4096<=p.b/\p.b<=4096)/\(-4096<=p.d/\p.d<=4096)/\-4096<=p.e/\p.e<=4096)/\(1<=p.den/\p.den<=4096)/\(-268435456<=p.c/\p.c<=268435456)/\-268435456<=p.f/\p.f<=268435456:=by simp only [Af.ok,Af.small,Af.shift,az,yS,decide_eq_true_eq]at h;omega
theorem Af.det_bd(p:Af)(h:p.ok=cM): -33554432<=p.det/\p.det<=33554432:=by obtain⟨⟨⟨⟨g,a⟩,b,s⟩,⟨c,F⟩,k,l⟩,_⟩:=p.bds h;obtain⟨t,u⟩:=qy g a k l gn gn;obtain⟨m,o⟩:=qy b s c F gn gn;unfold Af.det;omega
theorem Af.ok_small(p:Af)(h:p.ok=cM): p.small=cM:=by simp only [Af.ok,az]at h;exact h.1.1.2
theorem dN(z:Int)(e:-4611686018427387904<=z)(a:z<=4611686018427387904): ch z=z:=by unfold ch;omega
theorem mM(z:Int): IntKind.i64.wrap z=ch z:=nI
theorem acw(p:Af)(hp:p.ok=cM)(x y:Int)(b4:-1048576<=x)(b5:x<=1048576)(b6:-1048576<=y)(b7:y<=1048576)(w:cj):
  CR 192 #[p.v,cb #[x,y]] w (cb #[(p.srcX x y:Int),(p.srcY x y:Int)]):=by
 have a2:=λw=>Ru p (p.ok_small hp) w;have b3:=p.det_bd hp;obtain⟨⟨⟨⟨a0,a1⟩,b0,b1⟩,⟨d0,d1⟩,s,l⟩,⟨n0,n1⟩,⟨c0,c1⟩,f0,f1⟩:=p.bds hp;unfold Af.srcX Af.srcY;clear hp;obtain⟨a,b,c,d,e,f,h⟩:=p;simp only [Af.v]at *;generalize (Af.mk a b c d e f h).det=dt at *;obtain⟨u,eu⟩:∃q,2*x+1=q:=⟨_,rfl⟩;have u0:-4194304<=u:=gn
 have u1:u<=4194304:=gn
 obtain⟨v,ev⟩:∃q,2*y+1=q:=⟨_,rfl⟩;have I:-4194304<=v:=gn
 have J:v<=4194304:=gn
 obtain⟨p1,K⟩:∃q,e*u=q:=⟨_,rfl⟩;obtain⟨a5,a6⟩:=qy s l u0 u1 gn gn;simp only [K,Int.reduceMul,Int.reduceNeg]at a5 a6;obtain⟨p2,M⟩:∃q,b*v=q:=⟨_,rfl⟩;obtain⟨a7,a8⟩:=qy b0 b1 I J gn gn;simp only [M,Int.reduceMul,Int.reduceNeg]at a7 a8;obtain⟨n,k1⟩:∃q,p1-p2=q:=⟨_,rfl⟩;have ax:-34359738368<=n:=gn
 have ay:n<=34359738368:=gn
 obtain⟨p3,N⟩:∃q,h*n=q:=⟨_,rfl⟩;obtain⟨a9,aa⟩:=qy (by omega:-4096<=h) n1 ax ay gn gn;simp only [N,Int.reduceMul,Int.reduceNeg]at a9 aa;obtain⟨U,P⟩:∃q,b*f=q:=⟨_,rfl⟩;obtain⟨ab,ac⟩:=qy b0 b1 f0 f1 gn gn;simp only [P,Int.reduceMul,Int.reduceNeg]at ab ac;obtain⟨k,Q⟩:∃q,e*c=q:=⟨_,rfl⟩;obtain⟨ad,af⟩:=qy s l c0 c1 gn gn;simp only [Q,Int.reduceMul,Int.reduceNeg]at ad af;obtain⟨p6,R⟩:∃q,a*v=q:=⟨_,rfl⟩;obtain⟨am,an⟩:=qy a0 a1 I J gn gn;simp only [R,Int.reduceMul,Int.reduceNeg]at am an;obtain⟨p7,T⟩:∃q,d*u=q:=⟨_,rfl⟩;obtain⟨ao,ap⟩:=qy d0 d1 u0 u1 gn gn;simp only [T,Int.reduceMul,Int.reduceNeg]at ao ap;obtain⟨A,k2⟩:∃q,p6-p7=q:=⟨_,rfl⟩;have aD:-34359738368<=A:=gn
 have aE:A<=34359738368:=gn
 obtain⟨p8,Z⟩:∃q,h*A=q:=⟨_,rfl⟩;obtain⟨aq,ar⟩:=qy (by omega:-4096<=h) n1 aD aE gn gn;simp only [Z,Int.reduceMul,Int.reduceNeg]at aq ar;obtain⟨O,g9⟩:∃q,d*c=q:=⟨_,rfl⟩;obtain⟨av,aw⟩:=qy d0 d1 c0 c1 gn gn;simp only [g9,Int.reduceMul,Int.reduceNeg]at av aw;obtain⟨j,L⟩:∃q,a*f=q:=⟨_,rfl⟩;obtain⟨a3,a4⟩:=qy a0 a1 f0 f1 gn gn;simp only [L,Int.reduceMul,Int.reduceNeg]at a3 a4;obtain⟨X,eX⟩:∃q,p3+2*(U-k)=q:=⟨_,rfl⟩;obtain⟨Y,eY⟩:∃q,p8+2*(O-j)=q:=⟨_,rfl⟩;have X0:-4611686018427387904<=X:=gn
 have X1:X<=4611686018427387904:=gn
 have Y0:-4611686018427387904<=Y:=gn
 have Y1:Y<=4611686018427387904:=gn
 obtain⟨D,eD⟩:∃q,2*dt=q:=⟨_,rfl⟩;rw [eu,ev,K,M,P,Q,R,T,g9,L,k1,k2,N,Z,eX,eY,eD];have w0:ch (2*x)=2*x:=(dN _ gn gn);have w1:ch (2*x+1)=u:=(dN _ gn gn).t eu;have w2:ch (2*y)=2*y:=(dN _ gn gn);have w3:ch (2*y+1)=v:=(dN _ gn gn).t ev;have w4:ch (2*dt)=D:=(dN _ gn gn).t eD;have w5:ch (e*u)=p1:=(dN _ gn gn).t K;have w6:ch (b*v)=p2:=(dN _ gn gn).t M;have w7:ch (p1-p2)=n:=(dN _ gn gn).t k1;have w8:ch (h*n)=p3:=(dN _ gn gn).t N;have w9:ch (b*f)=U:=(dN _ gn gn).t P;have b8:ch (e*c)=k:=(dN _ gn gn).t Q;have b9:ch (U-k)=U-k:=(dN _ gn gn);have ba:ch (2*(U-k))=2*(U-k):=(dN _ gn gn);have bb:ch (p3+2*(U-k))=X:=(dN _ gn gn).t eX;have bc:ch (a*v)=p6:=(dN _ gn gn).t R;have bd:ch (d*u)=p7:=(dN _ gn gn).t T;have be:ch (p6-p7)=A:=(dN _ gn gn).t k2;have bf:ch (h*A)=p8:=(dN _ gn gn).t Z;have bh:ch (d*c)=O:=(dN _ gn gn).t g9;have bj:ch (a*f)=j:=(dN _ gn gn).t L;have bk:ch (O-j)=O-j:=(dN _ gn gn);have bl:ch (2*(O-j))=2*(O-j):=(dN _ gn gn);have bm:ch (p8+2*(O-j))=Y:=(dN _ gn gn).t eY;obtain⟨aM,aR,aL⟩:=lh3 (J3 X D X0 X1) (J3 Y D Y0 Y1) a2;clear a2 b3 eu ev eX eY eD k1 k2 K a5 a6 M a7 a8 N a9 aa P ab ac Q ad af R am an T ao ap Z aq ar g9 av aw L a3 a4 a0 a1 b0 b1 d0 d1 s l n0 n1 c0 c1 f0 f1 u0 u1 I J ax ay aD aE X0 X1 Y0 Y1 b4 b5 b6 b7;obtain⟨W,m⟩:=eX (((w.alloc (bS #[a,b,c,d,e,f,h] 40)).alloc (bS #[x,y] 123)).alloc (bS #[(0:Int),(0:Int)] 123));have T0:bH [] w W:=m▸(((tR w).a _).a _).a _;have b2:w.heap.size+3<=W.heap.size:=mq
 obtain⟨B,C,E,F,S,G,H⟩:=Qh (DD m).1;obtain⟨s0,s1⟩:=WE (DD m).2.1;obtain⟨z0,z1⟩:=WE (DD m).2.2;have zf:∀i,W.frozen? ⟨w+2,i,cg⟩=cK:=λi=>nc
 go_enter func192,ntmps192;go_upto_region 1 with (fail)
 rw [<-m];clear m;have I:=(mM _).t w0;have J:=(mM _).t w1;have v2:=(mM _).t w2;have v3:=(mM _).t w3;have v4:=(mM _).t w4;refine sN 13 (tR W) λV hS=>?_;refine fK 0 ?_;refine fE 1 x ?_ (j:=λw' z=>by have g:=(bY z).1;have s:=tq g B;have l:=tq g C;have e2:=tq g E;have e3:=tq g F;have e4:=tq g S;have e5:=tq g G;have e6:=tq g H;have h0:=tq g s0;have h1:=tq g s1;go_simp);refine fE 2 (ca .i64 (2*x)) ?_;refine fE 3 u ?_;refine fK 4 ?_;refine fE 5 y ?_ (j:=λw' z=>by have g:=(bY z).1;have s:=tq g B;have l:=tq g C;have e2:=tq g E;have e3:=tq g F;have e4:=tq g S;have e5:=tq g G;have e6:=tq g H;have h0:=tq g s0;have h1:=tq g s1;go_simp);refine fE 6 (ca .i64 (2*y)) ?_;refine fE 7 v ?_;refine fE 8 (cb #[a,b,c,d,e,f,h]) ?_ (j:=λw' z=>by have g:=(bY z).1;have s:=tq g B;have l:=tq g C;have e2:=tq g E;have e3:=tq g F;have e4:=tq g S;have e5:=tq g G;have e6:=tq g H;have h0:=tq g s0;have h1:=tq g s1;go_simp);refine PR 9 (aL.o _) λw5 hS _=>?_;refine fE 10 D ?_;refine fE 11 u ?_;refine fE 12 v ?_;refine Yo ?_;obtain⟨g,hf⟩:=bY hS;have t0:=tq g B;have t1:=tq g C;have t2:=tq g E;have t3:=tq g F;have t4:=tq g S;have t5:=tq g G;have t6:=tq g H;have q0:=tq g z0;have n:=tq g z1;have qf:=λi=>(hf (w.heap.size+2) i gn).t (zf i);have T1:=lh (T0.t hS);clear hS g hf z0 z1 zf s0 s1 T0 b2 I J v2 v3 v4 w0 w1 w2 w3 w4 B C E F S G H;go_wp2_with (first
  |(go_at_call 166;(with_reducible refine (aM.o _).mono ?_);rintro l w6 ⟨rfl,rfl⟩)
  |(go_at_call 166;with_reducible refine mS (aR.o _) ?_))
 refine ag (v:=cb #[(iq X D:Int),(iq Y D:Int)]) (by simp [results,results192,go_sem,q0,n]) rfl ?_;exact⟨rfl,(T1.out.sc).sc⟩
theorem YZ(p:Af)(H:p.ok=cM)(x y:Int)(b7:-1048576<=x)(b8:x<=1048576)(b9:-1048576<=y)(ba:y<=1048576)(w:cj):
  CR 230 #[p.v,x,y] w (cb #[(p.srcX x y:Int),(p.srcY x y:Int)]):=by
 have a5:=λw=>SL p (p.ok_small H) w;have b6:=p.det_bd H;obtain⟨⟨⟨⟨a0,a1⟩,b0,b1⟩,⟨d0,d1⟩,e0,e1⟩,⟨n0,n1⟩,⟨c0,c1⟩,f0,f1⟩:=p.bds H;unfold Af.srcX Af.srcY;clear H;obtain⟨a,b,c,d,e,f,j⟩:=p;simp only [Af.v]at *;generalize (Af.mk a b c d e f j).det=dt at *;obtain⟨u,eu⟩:∃q,2*x+1=q:=⟨_,rfl⟩;have u0:-4194304<=u:=gn
 have u1:u<=4194304:=gn
 obtain⟨v,ev⟩:∃q,2*y+1=q:=⟨_,rfl⟩;have v0:-4194304<=v:=gn
 have v1:v<=4194304:=gn
 obtain⟨J,C⟩:∃q,e*u=q:=⟨_,rfl⟩;obtain⟨a8,a9⟩:=qy e0 e1 u0 u1 gn gn;simp only [C,Int.reduceMul,Int.reduceNeg]at a8 a9;obtain⟨M,E⟩:∃q,b*v=q:=⟨_,rfl⟩;obtain⟨aa,ab⟩:=qy b0 b1 v0 v1 gn gn;simp only [E,Int.reduceMul,Int.reduceNeg]at aa ab;obtain⟨n,k1⟩:∃q,J-M=q:=⟨_,rfl⟩;have aE:-34359738368<=n:=gn
 have aL:n<=34359738368:=gn
 obtain⟨N,F⟩:∃q,j*n=q:=⟨_,rfl⟩;obtain⟨ac,ad⟩:=qy (by omega:-4096<=j) n1 aE aL gn gn;simp only [F,Int.reduceMul,Int.reduceNeg]at ac ad;obtain⟨U,P⟩:∃q,b*f=q:=⟨_,rfl⟩;obtain⟨af,am⟩:=qy b0 b1 f0 f1 gn gn;simp only [P,Int.reduceMul,Int.reduceNeg]at af am;obtain⟨l,Q⟩:∃q,e*c=q:=⟨_,rfl⟩;obtain⟨an,ao⟩:=qy e0 e1 c0 c1 gn gn;simp only [Q,Int.reduceMul,Int.reduceNeg]at an ao;obtain⟨S,R⟩:∃q,a*v=q:=⟨_,rfl⟩;obtain⟨ap,aq⟩:=qy a0 a1 v0 v1 gn gn;simp only [R,Int.reduceMul,Int.reduceNeg]at ap aq;obtain⟨p7,T⟩:∃q,d*u=q:=⟨_,rfl⟩;obtain⟨ar,av⟩:=qy d0 d1 u0 u1 gn gn;simp only [T,Int.reduceMul,Int.reduceNeg]at ar av;obtain⟨s,k2⟩:∃q,S-p7=q:=⟨_,rfl⟩;have aM:-34359738368<=s:=gn
 have aR:s<=34359738368:=gn
 obtain⟨p8,Z⟩:∃q,j*s=q:=⟨_,rfl⟩;obtain⟨aw,ax⟩:=qy (by omega:-4096<=j) n1 aM aR gn gn;simp only [Z,Int.reduceMul,Int.reduceNeg]at aw ax;obtain⟨O,G⟩:∃q,d*c=q:=⟨_,rfl⟩;obtain⟨ay,aD⟩:=qy d0 d1 c0 c1 gn gn;simp only [G,Int.reduceMul,Int.reduceNeg]at ay aD;obtain⟨k,L⟩:∃q,a*f=q:=⟨_,rfl⟩;obtain⟨a6,a7⟩:=qy a0 a1 f0 f1 gn gn;simp only [L,Int.reduceMul,Int.reduceNeg]at a6 a7;obtain⟨X,eX⟩:∃q,N+2*(U-l)=q:=⟨_,rfl⟩;obtain⟨Y,eY⟩:∃q,p8+2*(O-k)=q:=⟨_,rfl⟩;have X0:-4611686018427387904<=X:=gn
 have X1:X<=4611686018427387904:=gn
 have Y0:-4611686018427387904<=Y:=gn
 have Y1:Y<=4611686018427387904:=gn
 obtain⟨D,eD⟩:∃q,2*dt=q:=⟨_,rfl⟩;rw [eu,ev,C,E,P,Q,R,T,G,L,k1,k2,F,Z,eX,eY,eD];have w0:ch (2*x)=2*x:=(dN _ gn gn);have w1:ch (2*x+1)=u:=(dN _ gn gn).t eu;have w2:ch (2*y)=2*y:=(dN _ gn gn);have w3:ch (2*y+1)=v:=(dN _ gn gn).t ev;have w4:ch (2*dt)=D:=(dN _ gn gn).t eD;have w5:ch (e*u)=J:=(dN _ gn gn).t C;have w6:ch (b*v)=M:=(dN _ gn gn).t E;have w7:ch (J-M)=n:=(dN _ gn gn).t k1;have w8:ch (j*n)=N:=(dN _ gn gn).t F;have w9:ch (b*f)=U:=(dN _ gn gn).t P;have bb:ch (e*c)=l:=(dN _ gn gn).t Q;have bc:ch (U-l)=U-l:=(dN _ gn gn);have bd:ch (2*(U-l))=2*(U-l):=(dN _ gn gn);have be:ch (N+2*(U-l))=X:=(dN _ gn gn).t eX;have bf:ch (a*v)=S:=(dN _ gn gn).t R;have bh:ch (d*u)=p7:=(dN _ gn gn).t T;have bj:ch (S-p7)=s:=(dN _ gn gn).t k2;have bk:ch (j*s)=p8:=(dN _ gn gn).t Z;have bl:ch (d*c)=O:=(dN _ gn gn).t G;have bm:ch (a*f)=k:=(dN _ gn gn).t L;have bo:ch (O-k)=O-k:=(dN _ gn gn);have bp:ch (2*(O-k))=2*(O-k):=(dN _ gn gn);have bq:ch (p8+2*(O-k))=Y:=(dN _ gn gn).t eY;obtain⟨b3,b4,b2⟩:=lh3 (wY X D X0 X1) (wY Y D Y0 Y1) a5;clear a5 b6 eu ev eX eY eD k1 k2 C a8 a9 E aa ab F ac ad P af am Q an ao R ap aq T ar av Z aw ax G ay aD L a6 a7 a0 a1 b0 b1 d0 d1 e0 e1 n0 n1 c0 c1 f0 f1 u0 u1 v0 v1 aE aL aM aR X0 X1 Y0 Y1 b7 b8 b9 ba;obtain⟨W,m⟩:=eX ((w.alloc (bS #[a,b,c,d,e,f,j] 40)).alloc (bS #[(0:Int),(0:Int)] 123));have T0:bH [] w W:=m▸((tR w).a _).a _;have a4:w.heap.size+2<=W.heap.size:=mq
 obtain⟨r0,r1,r2,r3,r4,r5,r6⟩:=Qh (JK m).1;obtain⟨z0,z1⟩:=WE (JK m).2;have zf:∀i,W.frozen? ⟨w+1,i,cg⟩=cK:=λi=>nc
 go_enter func230,ntmps230;go_upto_region 1 with (fail)
 rw [<-m];clear m;go_upto_region 4 with (go_at_call 169;refine mR (b2.o _) λwx I=>?_)
 rw [w4];obtain⟨h,B⟩:=bY I;have t0:=tq h r0;have t1:=tq h r1;have t2:=tq h r2;have t3:=tq h r3;have t4:=tq h r4;have t5:=tq h r5;have t6:=tq h r6;have a2:=tq h z0;have a3:=tq h z1;have qf:=λi=>(B (w.heap.size+1) i gn).t (zf i);have T1:=lh (T0.t I);have b5:=lh (aK a4 I.size);clear I h B z0 z1 zf T0 a4 w0 w1 w2 w3 w4 r0 r1 r2 r3 r4 r5 r6;refine cu.start (λw'=>bH [] wx w') 55 lB ?_;have A:bH [] wx wx.drew:=(tR wx).drawn 1;have bs:w.heap.size+2<=wx.heap.size:=by have:=b5.o;omega
 generalize wx.drew=V at *;obtain⟨h,B⟩:=bY A;have a2:=tq h a2;have a3:=tq h a3;have qf:=λi=>(B (w.heap.size+1) i gn).t (qf i);clear h B;have v5:=(mM _).t w5;have v6:=(mM _).t w6;have v7:=(mM _).t w7;have v8:=(mM _).t w8;have v9:=(mM _).t w9;have bt:=(mM _).t bb;have bv:=(mM _).t bc;have bw:=(mM _).t bd;have bx:=(mM _).t be;have bz:=(mM _).t bf;have bA:=(mM _).t bh;have bB:=(mM _).t bj;have bE:=(mM _).t bk;have bF:=(mM _).t bl;have bL:=(mM _).t bm;have bM:=(mM _).t bo;have bP:=(mM _).t bp;have bR:=(mM _).t bq;refine fK 0 ?_;refine Xy 1 j (λw' g=>tc g t6) ?_;refine fK 2 ?_;refine Xy 3 e (λw' g=>tc g t4) ?_;refine fE 4 u ?_;refine fE 5 J ?_;refine fK 6 ?_;refine Xy 7 b (λw' g=>tc g t1) ?_;refine fE 8 v ?_;refine fE 9 M ?_;refine fE 10 n ?_;refine fE 11 N ?_;refine fK 12 ?_;refine Xy 13 b (λw' g=>tc g t1) ?_;refine fK 14 ?_;refine Xy 15 f (λw' g=>tc g t5) ?_;refine fE 16 U ?_;refine fK 17 ?_;refine Xy 18 e (λw' g=>tc g t4) ?_;refine fK 19 ?_;refine Xy 20 c (λw' g=>tc g t2) ?_;refine fE 21 l ?_;refine fE 22 (ca .i64 (U-l)) ?_;refine fE 23 (ca .i64 (2*(U-l))) ?_;refine fE 24 X ?_;refine fE 25 D ?_;refine fK 27 ?_;refine Xy 28 j (λw' g=>tc g t6) ?_;refine fK 29 ?_;refine Xy 30 a (λw' g=>tc g t0) ?_;refine fE 31 v ?_;refine fE 32 S ?_;refine fK 33 ?_;refine Xy 34 d (λw' g=>tc g t3) ?_;refine fE 35 u ?_;refine fE 36 p7 ?_;refine fE 37 s ?_;refine fE 38 p8 ?_;refine fK 39 ?_;refine Xy 40 d (λw' g=>tc g t3) ?_;refine fK 41 ?_;refine Xy 42 c (λw' g=>tc g t2) ?_;refine fE 43 O ?_;refine fK 44 ?_;refine Xy 45 a (λw' g=>tc g t0) ?_;refine fK 46 ?_;refine Xy 47 f (λw' g=>tc g t5) ?_;refine fE 48 k ?_;refine fE 49 (ca .i64 (O-k)) ?_;refine fE 50 (ca .i64 (2*(O-k))) ?_;refine fE 51 Y ?_;refine fE 52 D ?_;refine eH 26 λK z=>?_;go_simp;(with_reducible refine (b3.o _).mono ?_);rintro e wy ⟨rfl,rfl⟩;refine gK z A ?_;clear z K;refine eH 53 λK z=>?_;go_simp;refine mS (b4.o _) ?_;refine gK z A ?_;clear z K;refine fE 54 (cb #[(iq X D:Int),(iq Y D:Int)]) ?_;refine Yo ?_;have br:w.heap.size+2<=V.heap.size:=by have:=A.size;omega
 go_wp2_with fail
 refine ag (v:=cb #[(iq X D:Int),(iq Y D:Int)]) (by simp [results,results230,go_sem,a2,a3]) rfl ?_;exact⟨rfl,((T1.out.t A).sc).sc⟩
def one(x y:Int): Rc:=⟨x,y,x+1,y+1⟩
def Af.need(p:Af)(r:Rc): Rc:=
 (((one (p.srcX r.x0 r.y0) (p.srcY r.x0 r.y0)).join (one (p.srcX (r.x1-1) r.y0) (p.srcY (r.x1-1) r.y0))).join (one (p.srcX r.x0 (r.y1-1)) (p.srcY r.x0 (r.y1-1)))).join (one (p.srcX (r.x1-1) (r.y1-1)) (p.srcY (r.x1-1) (r.y1-1)))
