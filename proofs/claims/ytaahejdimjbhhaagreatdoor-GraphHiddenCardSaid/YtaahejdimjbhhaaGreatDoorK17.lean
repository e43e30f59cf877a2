import Derived.Test.YtaahejdimjbhhaaGreatDoorK15
import Derived.Test.YtaahejdimjbhhaaGreatDoorK16
set_option maxRecDepth 100000
set_option maxHeartbeats 0
set_option linter.all false
namespace Go.Proofs.YtaahejdimjbhhaaGreatDoor
open Tryz Go.RowKit Go.Den
open Go.Value renaming bool->b4,slice->ch,int->ci,agg->cj,string->ck
open Bool renaming true->cl,false->cm
open Option renaming none->co,some->cp
open Go renaming run_loadAt_mid->cq
open Go.Obj renaming cells->cr
def mX(p:Af): bI:={ dF with agZ:=p }
structure NV(l p:bI): Prop where
 agZ:p.agZ=l.agZ
 space:p.space=l.space
 tn:p.tn=l.tn
 Xh:p.Xh=l.Xh
 of_:p.of=l.of
 Xg:p.Xg=l.Xg
 f0:p.f0=l.f0
 f1:p.f1=l.f1
 f2:p.f2=l.f2
 f3:p.f3=l.f3
 pn:p.pn=l.pn
def Us(l:bI): bI:={ mX l.agZ with space:=l.space,tA:=l.tA,tn:=l.tn,tc:=l.tc }
def Um(l:bI): bI:={ mX l.agZ with Xi:=l.Xi,Xh:=l.Xh,Xj:=l.Xj }
def Iw(l:bI): bI:={ mX l.agZ with Xg:=l.Xg }
def Un(l:bI): bI:={ mX l.agZ with of:=l.of }
def UE(l:bI): bI:={ mX l.agZ with pA:=l.pA,pn:=l.pn,pc:=l.pc,f0:=l.f0,f1:=l.f1,f2:=l.f2,f3:=l.f3 }
theorem O0{l:bI}{ns:Int}(o:l.Tidy ns)(d:l.ag1=1): NV l (Us l):=lF
theorem QF{l:bI}{ns:Int}(o:l.Tidy ns)(d:l.ag1=2): NV l (Um l):=lF
theorem P6{l:bI}{ns:Int}(o:l.Tidy ns)(d:l.ag1=3): NV l (Iw l):=lF
theorem Qq{l:bI}{ns:Int}(o:l.Tidy ns)(d:l.ag1=4): NV l (Un l):=lF
theorem QU{l:bI}{ns:Int}(o:l.Tidy ns)(d:l.ag1=5): NV l (UE l):=lF
theorem IA(d:df)(l:bI)(t mb:Nat)(w:World)(hT:qI w t mb d)(h:l.At w)(R:l.Tidy d.sn)(hg:l.good=cl)(aL:l.Thin):
  CR 202 #[.pointer (cp ⟨t,0,co⟩),l.v] w (.tuple #[]):=by
 obtain⟨W,hW⟩:=eX (w.alloc (cr ⟨l.row⟩ 51));have E:bH [] w W:=by rw [hW];exact (tR w).a _
 have x3:=YE hW
 have hN:=λu=>kX l.name R.name u;have H:∀u,bH [] W u->u.heap[w.heap.size]?=cp (cr ⟨l.row⟩ 51 (0,0)):=λu T=>T.ox x3;have aa:∀u,bH [] W u->u.cell? ⟨w,0,co⟩=cp (ci .i64 l.id)/\u.cell? ⟨w,1,co⟩=cp (ci .i64 l.ag1)/\u.cell? ⟨w,2,co⟩=cp (ck l.name)/\u.cell? ⟨w,4,co⟩=cp (ci .i64 l.Xl)/\u.cell? ⟨w,5,co⟩=cp (ci .i64 l.mode)/\u.cell? ⟨w,29,co⟩=cp (b4 l.Xt)/\u.cell? ⟨w,30,co⟩=cp (ch l.mA l.mn l.mc):=λu T=>⟨bJ (H u T) rfl,bJ (H u T) rfl,bJ (H u T) rfl,bJ (H u T) rfl,bJ (H u T) rfl,bJ (H u T) rfl,bJ (H u T) rfl⟩;obtain⟨bF,bL⟩:=R.ag1;obtain⟨bR,bS⟩:=R.opac;obtain⟨bM,bP⟩:=R.mode;have bE:=aa W (bH.refl _ _);obtain⟨O,S,p2,p4,p5,aE,af⟩:=bE;have k1:decide (1<=l.ag1)=cl:=aC bF;have k2:decide (l.ag1<=5)=cl:=aC bL;have k3:decide (0<=l.Xl)=cl:=aC bR;have k4:decide (l.Xl<=255)=cl:=aC bS;have k5:decide (0<=l.mode)=cl:=aC bM;have k6:decide (l.mode<=15)=cl:=aC bP;obtain⟨HN,L,a6,HG,HB,G,HT,ap⟩:=lh8 hN h R hg H aa hT aL;clear aL hN h R hg H aa hT x3;unfold bI.v;go_enter func202,ntmps202;go_upto_region 1 with fail
 rw [<-hW];clear hW;go_upto_region 2 with (go_at_call 197;refine (dX _ _ _).mono ?_;rintro e I ⟨rfl,rfl⟩)
 have a1:Hid (∀u,bH [] W u->bH [] W u/\u.cell? ⟨w,0,co⟩=cp (ci .i64 l.id)/\u.cell? ⟨w,2,co⟩=cp (ck l.name)):=lh λu T=>⟨T,(G.o u T).1,(G.o u T).2.2.1⟩;have P:=(tR W).drawn 1;have a1:Hid (∀u,bH [] W u->bH [] W u/\u.cell? ⟨w,0,co⟩=cp (ci .i64 l.id)/\u.cell? ⟨w,2,co⟩=cp (ck l.name)):=lh λu T=>⟨T,(G.o u T).1,(G.o u T).2.2.1⟩;have P:=(tR W).drawn 1;go_region_held3 (λw'=>bH [] W w'/\w'.cell? ⟨w,0,co⟩=cp (ci .i64 l.id)/\w'.cell? ⟨w,2,co⟩=cp (ck l.name)) (first|assumption|exact a1.o _ P|exact a1.o _ ((And.left (by assumption:bH [] W _/\_)).t aR)) (first
  |(go_at_call 248;refine mR (HN.o _) λw1 aR=>?_)
  |(go_at_call 197;refine (dX _ _ _).mono ?_;rintro e I ⟨rfl,rfl⟩))
 rename_i hH;have TW:=hH.1;clear hH O S p2 p4 p5 aE af a1 HN;obtain⟨O,S,p2,p4,p5,aE,af⟩:=G.o w1 TW;go_upto_region 4 with (go_at_call 197;refine (dX _ _ _).mono ?_;rintro e I ⟨rfl,rfl⟩)
 have bp:=HG.o;unfold bI.good at bp;rw [az,az]at bp;have bA:=lh bp.1.2;have bz:=lh bp.2;have HM:=lh (λu (T:bH [] W u)=>rU l.mask bp.1.1 l.mA l.mn l.mc u ((L.o.u (E.t T)).mask));have J:Hid (∀u,bH [] W u->bH [] W u/\u.cell? ⟨w,0,co⟩=cp (ci .i64 l.id)/\u.cell? ⟨w,29,co⟩=cp (b4 l.Xt)/\u.cell? ⟨w,30,co⟩=cp (ch l.mA l.mn l.mc)):=lh λu T=>⟨T,(G.o u T).1,(G.o u T).2.2.2.2.2.1,(G.o u T).2.2.2.2.2.2⟩;clear bp O S p2 p4 p5 aE af k1 k2 k3 k4 k5 k6;have P:=TW.drawn 1;have a3:=a6.o.nomask;go_cut [] (λwx=>bH [] W wx);case first=>
  cases bv:l.Xt with
  |true=>
   as_aux_lemma=>
    rw [bv]at J;clear a3 bv;refine cu.start (λw'=>bH [] W w') 16 lB ?_;have s:bH [] W w1.drew:=P;generalize w1.drew=Y at *;refine fK 0 ?_;refine fE 1 (cj #[ch l.mA l.mn l.mc]) ?_ (j:=λw' m=>by obtain⟨_,e0,aq,ar⟩:=J.o _ m;go_simp);refine fK 14 ?_;refine fE 15 l.id ?_ (j:=λw' m=>by obtain⟨_,e0,aq,ar⟩:=J.o _ m;go_simp);refine PR 2 (HM.o _ s) λw2 s _=>?_;refine fE 3 (b4 cl) ?_;refine fK 4 ?_;refine fE 5 (b4 cl) ?_ (j:=λw' m=>by obtain⟨_,e0,aq,ar⟩:=J.o _ m;go_simp);refine fE 6 (b4 cl) ?_;refine je 7 ?_;go_frame;refine je 8 ?_;go_frame;refine je 9 ?_;go_frame;refine je 10 ?_;go_frame;refine je 11 ?_;go_frame;refine fE 12 (b4 cl) ?_;refine fE 13 (b4 cl) ?_;refine eH 16 λK C=>?_;go_simp;refine (dX _ _ _).mono ?_;rintro e I ⟨rfl,rfl⟩;refine gK C s ?_;clear C K;refine Wy ?_;go_wp2;go_meet;exact s
  |false=>
   as_aux_lemma=>
    have hz:l.mn=0:=a3 bv;rw [bv,hz]at J;rw [hz]at HM;clear a3 bv hz;go_region_held3 (λw'=>bH [] W w'/\w'.cell? ⟨w,0,co⟩=cp (ci .i64 l.id)/\w'.cell? ⟨w,29,co⟩=cp (b4 cm)/\w'.cell? ⟨w,30,co⟩=cp (ch l.mA 0 l.mc)) (first|assumption|exact J.o _ P|exact J.o _ ((And.left (by assumption:bH [] W _/\_)).t aR)) (first
     |(go_at_call 236;refine mR (HM.o _ (And.left (by assumption:bH [] W _/\_))) λw1 aR=>?_)
     |(go_at_call 197;refine (dX _ _ _).mono ?_;rintro e I ⟨rfl,rfl⟩))
    rename_i hH;go_wp2;go_meet;exact hH.1
 clear TW P J HM a3;have av:∀u,(Instr.build 51 #[]).run prog u=.ok (cj ⟨dF.row⟩) u:=λu=>lB
 obtain⟨ax,am,bs⟩:=lh3 av gI (λu=>gX u dF);clear av;go_upto_region 6 with (first
  |(refine yR 61 (iU (vs:=#[]) (v:=cj ⟨dF.row⟩) rfl rfl (ax.o _)) ?_)
  |(refine yR 4 (di (t:=51) rfl (am.o _)) ?_)
  |(refine sR (bs.o _) ?_))
 obtain⟨V,hV⟩:=eX (wc.alloc (cr ⟨dF.row⟩ 51));have B:bH [] W V:=by rw [hV];exact hcut.a _
 have k:=YE hV
 have F:W.heap.size<=wc.heap.size:=hcut.size;rw [<-hV];clear hV ax am bs hcut;generalize wc.heap.size=y at *;go_cut [5] (λs5 wx=>s5=b4 (l.ag1==1||l.ag1==4)/\wx.heap[y]?=cp (cr ⟨dF.row⟩ 51 (0,0))/\bH [] W wx);case first=>
  as_aux_lemma=>
   obtain⟨_,S,_⟩:=G.o V B;have A:=lh (bg k B);clear k B;by_cases X:l.ag1=1
   .have c1:(l.ag1==1)=cl:=(by simp [X]);rw [X]at S;go_wp2;go_meet;exact⟨by simp [X],A.o.1,A.o.2⟩
   have c1:(l.ag1==1)=cm:=(by simp [X]);by_cases e4:l.ag1=4
   .rw [e4]at S;go_wp2;go_meet;exact⟨by simp [e4],A.o.1,A.o.2⟩
   have c4:(l.ag1==4)=cm:=(by simp [e4]);go_wp2;go_meet;exact⟨by simp [X,e4],A.o.1,A.o.2⟩
 obtain⟨rfl,k,B⟩:=hcut;go_upto_if 70 with fail
 go_cut [5] (λs5 wx=>s5=b4 (l.ag1==1||l.ag1==4)/\wx.heap[y]?=cp (cr ⟨(mX l.agZ).row⟩ 51 (0,0))/\bH [] W wx);case first=>
  have j:=HB.o wc B;cases n:(l.ag1==1||l.ag1==4)with
  |true=>
   as_aux_lemma=>
    have p7:=cP 7 _ j;have p8:=cP 8 _ j;have p9:=cP 9 _ j;have aM:=cP 10 _ j;have b2:=cP 11 _ j;have b3:=cP 12 _ j;have b6:=cP 13 _ j;have bs:=lh (dQ (o:=7) (ty:=40) (p:=[l.agZ.a,l.agZ.b,l.agZ.c,l.agZ.d,l.agZ.e,l.agZ.f,l.agZ.den]) (L':=(mX l.agZ).row) k zo lK lW rfl);have a0:=lh (bg (eQ (L':=(mX l.agZ).row) k) (B.setRow (g:=y) ⟨(mX l.agZ).row⟩ (.inr F)));clear j k B;(go_wp2_with (refine sR bs.o ?_));go_meet;exact⟨by rw [n],a0.o⟩
  |false=>
   as_aux_lemma=>
    have q:l.ag1≠1/\l.ag1≠4:=(by simpa using n);have hp:=a6.o.noplace q.1 q.2;have A:=lh (bg k B);clear j k B;go_wp2;go_meet;exact⟨by rw [n],by rw [hp];exact A.o⟩
 obtain⟨rfl,k,B⟩:=hcut;go_step;go_step;go_cut [5] (λs5 wx=>s5=b4 (l.ag1==1||l.ag1==4)/\(∃p:bI,NV l p/\wx.heap[y]?=cp (cr ⟨p.row⟩ 51 (0,0)))/\bH [] W wx);case first=>
  have j:=HB.o wc B;have Z:=cP 1 _ j;obtain q|q|q|q|q:l.ag1=1\/l.ag1=2\/l.ag1=3\/l.ag1=4\/l.ag1=5:=by have:=a6.o.ag1;omega
  .as_aux_lemma=>
    rw [q]at Z;have n:=O0 a6.o q;have a5:=cP 14 _ j;have be:=cP 28 _ j;have bf:=cP 14 _ k;have bt:=cP 28 _ k;have zf:=λi=>dD k i;have A:=lh (bg k B);have Q:=lh n;clear j k B n q;(go_upto_region 11 with fail);go_region;(all_goals (go_wp2_with fail;go_meet));all_goals exact⟨rfl,⟨Us l,Q.o,(dU (dU A.o.1 rfl) rfl)⟩,((A.o.2.setCell (a:=⟨y,14,co⟩) _ (.inr F)).setCell (a:=⟨y,28,co⟩) _ (.inr F)).drawn 1⟩
  .as_aux_lemma=>
    rw [q]at Z;have n:=QF a6.o q;have b7:=cP 15 _ j;have bh:=cP 15 _ k;have zf:=λi=>dD k i;have A:=lh (bg k B);have Q:=lh n;clear j k B n q;go_wp2;go_meet;exact⟨rfl,⟨Um l,Q.o,(dU A.o.1 rfl)⟩,(A.o.2.setCell (a:=⟨y,15,co⟩) _ (.inr F))⟩
  .as_aux_lemma=>
    rw [q]at Z;have n:=P6 a6.o q;have ca:=cP 17 _ j;have cb:=cP 18 _ j;have cd:=cP 19 _ j;have ce:=cP 20 _ j;have cf:=cP 21 _ j;have cg:=cP 22 _ j;have bs:=lh (dQ (o:=17) (ty:=43) (p:=[l.Xg.ag1,l.Xg.Xf,ch l.Xg.kA l.Xg.kn l.Xg.kc,l.Xg.div,l.Xg.value,ch l.Xg.cA l.Xg.cn l.Xg.cc]) (L':=(Iw l).row) k wQ lK lW rfl);have a0:=lh (bg (eQ (L':=(Iw l).row) k) (B.setRow (g:=y) ⟨(Iw l).row⟩ (.inr F)));have Q:=lh n;clear j k B n q;(go_wp2_with (refine sR bs.o ?_));go_meet;exact⟨rfl,⟨Iw l,Q.o,a0.o.1⟩,a0.o.2⟩
  .as_aux_lemma=>
    rw [q]at Z;have n:=Qq a6.o q;have b8:=cP 16 _ j;have bj:=cP 16 _ k;have zf:=λi=>dD k i;have A:=lh (bg k B);have Q:=lh n;clear j k B n q;go_wp2;go_meet;exact⟨rfl,⟨Un l,Q.o,(dU A.o.1 rfl)⟩,(A.o.2.setCell (a:=⟨y,16,co⟩) _ (.inr F))⟩
  as_aux_lemma=>
   rw [q]at Z;have n:=QU a6.o q;have bd:=cP 27 _ j;have b9:=cP 23 _ j;have ba:=cP 24 _ j;have bb:=cP 25 _ j;have bc:=cP 26 _ j;have br:=cP 27 _ k;have bk:=cP 23 _ k;have bm:=cP 24 _ k;have bo:=cP 25 _ k;have bq:=cP 26 _ k;have zf:=λi=>dD k i;have A:=lh (bg k B);have Q:=lh n;clear j k B n q;(go_upto_region 19 with fail);go_region;(all_goals (go_wp2_with fail;go_meet));all_goals exact⟨rfl,⟨UE l,Q.o,(dU (dU (dU (dU (dU A.o.1 rfl) rfl) rfl) rfl) rfl)⟩,(((((A.o.2.setCell (a:=⟨y,27,co⟩) _ (.inr F)).setCell (a:=⟨y,23,co⟩) _ (.inr F)).setCell (a:=⟨y,24,co⟩) _ (.inr F)).setCell (a:=⟨y,25,co⟩) _ (.inr F)).setCell (a:=⟨y,26,co⟩) _ (.inr F)).drawn 1⟩
 obtain⟨rfl,⟨p,n,k⟩,B⟩:=hcut;obtain⟨z,bT⟩:=eX wc;subst bT;have j:=HB.o z B;have O:=cP 0 _ j;have p7:=cP 7 _ j;have q7:z.cell? ⟨y,7,co⟩=cp (ci .i64 l.agZ.a):=mU
 have p8:=cP 8 _ j;have q8:z.cell? ⟨y,8,co⟩=cp (ci .i64 l.agZ.b):=mU
 have p9:=cP 9 _ j;have q9:z.cell? ⟨y,9,co⟩=cp (ci .i64 l.agZ.c):=mU
 have aM:=cP 10 _ j;have bX:z.cell? ⟨y,10,co⟩=cp (ci .i64 l.agZ.d):=mU
 have b2:=cP 11 _ j;have c0:z.cell? ⟨y,11,co⟩=cp (ci .i64 l.agZ.e):=mU
 have b3:=cP 12 _ j;have c6:z.cell? ⟨y,12,co⟩=cp (ci .i64 l.agZ.f):=mU
 have b6:=cP 13 _ j;have c7:z.cell? ⟨y,13,co⟩=cp (ci .i64 l.agZ.den):=mU
 have a5:=cP 14 _ j;have bf:z.cell? ⟨y,14,co⟩=cp (ci .i64 l.space):=by rw [<-n.space];exact bJ k rfl
 have b7:=cP 15 _ j;have bh:z.cell? ⟨y,15,co⟩=cp (ch p.Xi l.Xh p.Xj):=by rw [<-n.Xh];exact bJ k rfl
 have b8:=cP 16 _ j;have bj:z.cell? ⟨y,16,co⟩=cp (ci .i64 l.of):=by rw [<-n.of_];exact bJ k rfl
 have b9:=cP 23 _ j;have bk:z.cell? ⟨y,23,co⟩=cp (ci .u8 l.f0):=by rw [<-n.f0];exact bJ k rfl
 have ba:=cP 24 _ j;have bm:z.cell? ⟨y,24,co⟩=cp (ci .u8 l.f1):=by rw [<-n.f1];exact bJ k rfl
 have bb:=cP 25 _ j;have bo:z.cell? ⟨y,25,co⟩=cp (ci .u8 l.f2):=by rw [<-n.f2];exact bJ k rfl
 have bc:=cP 26 _ j;have bq:z.cell? ⟨y,26,co⟩=cp (ci .u8 l.f3):=by rw [<-n.f3];exact bJ k rfl
 have bd:=cP 27 _ j;have br:z.cell? ⟨y,27,co⟩=cp (ch p.pA l.pn p.pc):=by rw [<-n.pn];exact bJ k rfl
 have be:=cP 28 _ j;have bt:z.cell? ⟨y,28,co⟩=cp (ch p.tA l.tn p.tc):=by rw [<-n.tn];exact bJ k rfl
 have HD:Hid (∀(e id:Int) (u:World),Calls prog 197 #[b4 cl,e,id] u λx w'=>x=.returned (.tuple #[])/\w'=u):=lh λe id u=>(dX e id u).mono λ_ _ h=>⟨h.1,h.2.symm⟩;have N:Hid (∀u,bH [] z u->u.heap[w.heap.size]?=cp (cr ⟨l.row⟩ 51 (0,0))/\u.heap[y]?=cp (cr ⟨p.row⟩ 51 (0,0))):=lh λu t=>⟨HB.o u (B.t t),t.ox k⟩;have an:=lh n.Xg;have a4:=lh B;clear j k n B;go_upto_region 20 with fail
 go_cut [] (λwx=>bH [] z wx);case first=>
  as_aux_lemma=>
   go_quiet ((go_at_call 197;exact Calls.quiet_of_same (HD.o _ _ _)))
   go_wp2;go_meet;exact (tR z).drawn nq
 clear O p7 p8 p9 aM b2 b3 b6 a5 b7 b8 b9 ba bb bc bd be q7 q8 q9 bX c0 c6 c7 bf bh bj bk bm bo bq br bt;have D:=hcut;clear hcut;have a9:=λu (t:bH [] z u)=>JB l.Xg l.ks l.cs u ((L.o.u (E.t (a4.o.t t))).ks) ((L.o.u (E.t (a4.o.t t))).cs) (by have:=ap.o.a;omega) (by have:=ap.o.b;omega);unfold Fv.v at a9;generalize U8 l.Xg l.ks l.cs=fs at *;have a7:=lh a9;clear a9;go_upto_region 21 with fail
 go_cut [] (λwx=>bH [] z wx);case first=>
  as_aux_lemma=>
   refine sN 9 D λY s=>?_;refine fK 0 ?_;refine Xz 1 (cj #[l.Xg.ag1,l.Xg.Xf,ch l.Xg.kA l.Xg.kn l.Xg.kc,l.Xg.div,l.Xg.value,ch l.Xg.cA l.Xg.cn l.Xg.cc]) (λw' m=>cq _ w.heap.size 17 43 [l.Xg.ag1,l.Xg.Xf,ch l.Xg.kA l.Xg.kn l.Xg.kc,l.Xg.div,l.Xg.value,ch l.Xg.cA l.Xg.cn l.Xg.cc] _ (gp (N.o _ m).1 rfl) underlying43 rfl wQ) ?_;refine fK 3 ?_;refine Xz 4 (cj #[l.Xg.ag1,l.Xg.Xf,ch l.Xg.kA l.Xg.kn l.Xg.kc,l.Xg.div,l.Xg.value,ch l.Xg.cA l.Xg.cn l.Xg.cc]) (λw' m=>cq _ y 17 43 [l.Xg.ag1,l.Xg.Xf,ch l.Xg.kA l.Xg.kn l.Xg.kc,l.Xg.div,l.Xg.value,ch l.Xg.cA l.Xg.cn l.Xg.cc] _ (gp (N.o _ m).2 (by unfold bI.row;rw [an.o];rfl)) underlying43 rfl wQ) ?_;refine fK 7 ?_;refine Xy 8 l.id (λw' m=>cP 0 _ (N.o _ m).1) ?_;refine PR 2 (a7.o _ s) λw5 s _=>?_;refine PR 5 (a7.o _ s) λw6 s _=>?_;refine fE 6 (b4 cl) ?_;refine iZ λK C=>?_;go_simp;refine (dX _ _ _).mono ?_;rintro e I ⟨rfl,rfl⟩;refine C _ _ ?_;clear C K;(try go_frame);go_wp2;go_meet;exact s
 clear a7 an D;have D:=hcut;clear hcut;go_upto_region 22 with fail
 go_cut [5] (λ_ wx=>bH [] z wx);case first=>
  cases ad:(l.ag1==1||l.ag1==4)with
   |true=>
    as_aux_lemma=>
     have aw:l.agZ.ok=cl:=a6.o.agZ (by simpa using ad);have a2:=λu=>wX l.agZ u;unfold Af.v at a2;rw [aw]at a2;have bw:=lh a2;clear a2 aw ad;refine sN 9 D λY s=>?_;refine fE 0 (b4 cl) ?_;refine fE 1 (b4 cm) ?_;refine fE 2 (b4 cm) ?_;refine fK 7 ?_;refine Xy 8 l.id (λw' m=>cP 0 _ (N.o _ m).1) ?_;refine fK 3 ?_;refine Xz 4 (cj #[l.agZ.a,l.agZ.b,l.agZ.c,l.agZ.d,l.agZ.e,l.agZ.f,l.agZ.den]) (λw' m=>cq _ w.heap.size 7 40 [l.agZ.a,l.agZ.b,l.agZ.c,l.agZ.d,l.agZ.e,l.agZ.f,l.agZ.den] _ (gp (N.o _ m).1 rfl) underlying40 rfl zo) ?_;refine PR 5 (bw.o _) λw7 s _=>?_;refine fE 6 (b4 cl) ?_;refine iZ λK C=>?_;go_simp;refine (dX _ _ _).mono ?_;rintro e I ⟨rfl,rfl⟩;refine C _ _ ?_;clear C K;(try go_frame);go_wp2;go_meet;exact s
   |false=>
    as_aux_lemma=>
     clear ad;refine sN 9 D λY s=>?_;refine fE 0 (b4 cm) ?_;refine fE 1 (b4 cl) ?_;refine fE 2 (b4 cl) ?_;refine fK 7 ?_;refine Xy 8 l.id (λw' m=>cP 0 _ (N.o _ m).1) ?_;refine je 3 ?_;go_frame;refine je 4 ?_;go_frame;refine je 5 ?_;go_frame;refine fE 6 (b4 cl) ?_;refine iZ λK C=>?_;go_simp;refine (dX _ _ _).mono ?_;rintro e I ⟨rfl,rfl⟩;refine C _ _ ?_;clear C K;(try go_frame);go_wp2;go_meet;exact s
 clear D;have D:=hcut;clear hcut;have j:=(N.o _ D).1;have O:=cP 0 _ j;have a5:=cP 14 _ j;have h5:=(E.t (a4.o.t D)).ox HT.o.ht;have t0:=cO 0 (ch d.sA d.sn d.sc) h5;have b0:decide (0<=l.space)=cl:=aC a6.o.space.1;have b1:decide (l.space<=(d.sn:Int))=cl:=aC a6.o.space.2;have ao:=lh D;clear j h5 D;go_upto_region 23 with fail
 go_cut [] (λwx=>bH [] z wx);case first=>
  as_aux_lemma=>
   go_quiet ((go_at_call 197;exact Calls.quiet_of_same (HD.o _ _ _)))
   go_wp2;go_meet;exact ao.o.drawn nq
 clear O a5 t0 b0 b1 ao;have D:=hcut;clear hcut;have ay:=λu (t:bH [] z u)=>rU l.Xm bA.o l.tA l.tn l.tc u ((L.o.u (E.t (a4.o.t t))).Xm);have a8:=lh ay;clear ay;by_cases q:l.ag1=3
 .as_aux_lemma=>
   have bl:jC l.Xg l.ks l.cs=cl:=(by have:=bz.o;rw [q]at this;simpa using this);have ab:=λu (t:bH [] z u)=>Bc l.Xg l.ks l.cs bl u ((L.o.u (E.t (a4.o.t t))).ks) ((L.o.u (E.t (a4.o.t t))).cs);unfold Fv.v at ab;have bx:=lh ab;clear ab bl;have U:=lh q;clear q;(go_upto_region 24 with fail);refine sN 25 D λY s=>?_;refine fK 0 ?_;refine Xy 1 (cj #[ch l.tA l.tn l.tc]) (λw' m=>cP 28 _ (N.o _ m).1) ?_;refine fK 23 ?_;refine Xy 24 l.id (λw' m=>cP 0 _ (N.o _ m).1) ?_;refine PR 2 (a8.o _ s) λw7 s _=>?_;refine fE 3 (b4 cl) ?_;refine fK 4 ?_;refine fE 5 ((3:Int)) ?_ (j:=λw' m=>by have M:=cP 1 _ (N.o _ m).1;rw [U.o]at M;go_simp);refine fE 6 (b4 cm) ?_;refine fE 7 (b4 cm) ?_;refine fK 8 ?_;refine Xz 9 (cj #[l.Xg.ag1,l.Xg.Xf,ch l.Xg.kA l.Xg.kn l.Xg.kc,l.Xg.div,l.Xg.value,ch l.Xg.cA l.Xg.cn l.Xg.cc]) (λw' m=>cq _ w.heap.size 17 43 [l.Xg.ag1,l.Xg.Xf,ch l.Xg.kA l.Xg.kn l.Xg.kc,l.Xg.div,l.Xg.value,ch l.Xg.cA l.Xg.cn l.Xg.cc] _ (gp (N.o _ m).1 rfl) underlying43 rfl wQ) ?_;refine PR 10 (bx.o _ s) λw8 s _=>?_;refine fE 11 (b4 cl) ?_;refine fE 12 (b4 cl) ?_;refine fE 13 (b4 cl) ?_;refine fK 14 ?_;refine fE 15 ((3:Int)) ?_ (j:=λw' m=>by have M:=cP 1 _ (N.o _ m).1;rw [U.o]at M;go_simp);refine fE 16 (b4 cl) ?_;refine fE 17 (b4 cl) ?_;refine je 18 ?_;go_frame;refine je 19 ?_;go_frame;refine je 20 ?_;go_frame;refine fE 21 (b4 cl) ?_;refine fE 22 (b4 cl) ?_;refine iZ λK C=>?_;go_simp;refine (dX _ _ _).mono ?_;rintro e I ⟨rfl,rfl⟩;refine C _ _ ?_;clear C K;(try go_frame);go_wp2;go_end0;exact⟨rfl,E.t (a4.o.t s)⟩
 have b5:=q;clear q;by_cases q:l.ag1=5
 .as_aux_lemma=>
   have aD:=λu (t:bH [] z u)=>Dw l.pts (a6.o.path q) l.pA l.pn l.pc u ((L.o.u (E.t (a4.o.t t))).pts);have bB:=lh aD;clear aD;have U:=lh q;clear q;(go_upto_region 24 with fail);refine sN 25 D λY s=>?_;refine fK 0 ?_;refine Xy 1 (cj #[ch l.tA l.tn l.tc]) (λw' m=>cP 28 _ (N.o _ m).1) ?_;refine fK 23 ?_;refine Xy 24 l.id (λw' m=>cP 0 _ (N.o _ m).1) ?_;refine PR 2 (a8.o _ s) λw7 s _=>?_;refine fE 3 (b4 cl) ?_;refine fK 4 ?_;refine fE 5 ((5:Int)) ?_ (j:=λw' m=>by have M:=cP 1 _ (N.o _ m).1;rw [U.o]at M;go_simp);refine fE 6 (b4 cl) ?_;refine fE 7 (b4 cl) ?_;refine je 8 ?_;go_frame;refine je 9 ?_;go_frame;refine je 10 ?_;go_frame;refine fE 11 (b4 cl) ?_;refine fE 12 (b4 cl) ?_;refine fE 13 (b4 cl) ?_;refine fK 14 ?_;refine fE 15 ((5:Int)) ?_ (j:=λw' m=>by have M:=cP 1 _ (N.o _ m).1;rw [U.o]at M;go_simp);refine fE 16 (b4 cm) ?_;refine fE 17 (b4 cm) ?_;refine fK 18 ?_;refine Xy 19 (ch l.pA l.pn l.pc) (λw' m=>cP 27 _ (N.o _ m).1) ?_;refine PR 20 (bB.o _ s) λw9 s _=>?_;refine fE 21 (b4 cl) ?_;refine fE 22 (b4 cl) ?_;refine iZ λK C=>?_;go_simp;refine (dX _ _ _).mono ?_;rintro e I ⟨rfl,rfl⟩;refine C _ _ ?_;clear C K;(try go_frame);go_wp2;go_end0;exact⟨rfl,E.t (a4.o.t s)⟩
 as_aux_lemma=>
  have ac:=q;clear q;have c8:=lh b5;have c9:=lh ac;have x3:(l.ag1 != 3)=cl:=by simpa using b5
  have x5:(l.ag1 != 5)=cl:=by simpa using ac
  clear b5 ac;go_upto_region 24 with fail
  refine sN 25 D λY s=>?_;refine fK 0 ?_;refine Xy 1 (cj #[ch l.tA l.tn l.tc]) (λw' m=>cP 28 _ (N.o _ m).1) ?_;refine fK 23 ?_;refine Xy 24 l.id (λw' m=>cP 0 _ (N.o _ m).1) ?_;refine PR 2 (a8.o _ s) λw7 s _=>?_
  refine fE 3 (b4 cl) ?_;refine fK 4 ?_;refine Xy 5 l.ag1 (λw' m=>cP 1 _ (N.o _ m).1) ?_;refine fE 6 (b4 cl) ?_;refine fE 7 (b4 cl) ?_;refine je 8 ?_;go_frame;refine je 9 ?_;go_frame;refine je 10 ?_;go_frame;refine fE 11 (b4 cl) ?_;refine fE 12 (b4 cl) ?_;refine fE 13 (b4 cl) ?_;refine fK 14 ?_;refine Xy 15 l.ag1 (λw' m=>cP 1 _ (N.o _ m).1) ?_;refine fE 16 (b4 cl) ?_;refine fE 17 (b4 cl) ?_;refine je 18 ?_;go_frame;refine je 19 ?_;go_frame;refine je 20 ?_;go_frame;refine fE 21 (b4 cl) ?_;refine fE 22 (b4 cl) ?_;refine iZ λK C=>?_;go_simp;refine mS (dX _ _ _) ?_;refine C _ _ ?_;clear C K;try go_frame
  go_wp2;go_end0;exact⟨rfl,E.t (a4.o.t s)⟩
