import Derived.Laws.MakeOwn
import Derived.Test.YtaahejdimjbhhaaGreatDoorK12
import Derived.Test.YtaahejdimjbhhaaGreatDoorK13
set_option maxRecDepth 100000
set_option maxHeartbeats 0
set_option linter.all false
namespace Go.Proofs.YtaahejdimjbhhaaGreatDoor
open Tryz Go.RowKit Go.Den
open Go.Value renaming slice->cf,agg->cg,pointer->ch,bool->ci
open Go.Obj renaming cells->cj
open Option renaming some->ck,none->cl
open Go renaming World->cm,zero_of_info->co,Value->cq,heap_alloc_new->cr,run_loadAt_mid->ct,Calls->cv,TypeId->cw,Addr->cx,execOp->cy
open Go.Ending renaming returned->cz
open Go.Proofs.Tryz renaming prog->cB,underlying51->cD
open Bool renaming false->cE,true->cF
theorem Jk{ls:List bI}{id:Int}: decide (0<=sQ (ls.map (·.id)) id)=(dh ls id).isSome:=by
 cases h:dh ls id with
 |none=>
  unfold dh at h;unfold sQ;cases C:mW (ls.map (·.id)) id with
  |none=>rfl
  |some k=>
   rw [C]at h;have h:ls[k]?=cl:=h;unfold mW at C;rw [bi]at C;obtain⟨e,_⟩:=C;rw [bn]at h;simp at e;omega
 |some l=>
  obtain⟨k,d,_⟩:=iD h;rw [d];simp
theorem OD(d:df)(id:Int)(w:cm)(h:d.At w)(c:d.Tidy)(I:d.Ok): CR 36 #[d.v,id] w (ci (dh d.agY id).isSome):=by
 have g:=λu (t:bH [] w u)=>Df d u (h.u t) c;have j:=λu (t:bH [] w u)=>uD d id u (h.u t);have l:=Jk (ls:=d.agY) (id:=id);rw [show d.ids=d.agY.map (·.id) from rfl]at j;rw [<-l];clear h c l;obtain⟨aw,B,A⟩:=lh3 I g j;clear g j I;generalize d.Ok=bS,sQ (d.agY.map (·.id)) id=q at *;obtain⟨x,z,y,ag2,s,next,m,p,n,agY⟩:=d;simp only [df.v]at *;have f:=(tR w).alloc (cj #[cf x z y,s,next,cf m p n] 29);have b:=bH.refl [] (w.alloc (cj #[cf x z y,s,next,cf m p n] 29));go_enter func36,ntmps36;go_upto_region 2 with (go_at_call 21;refine (B.o _ f).mono ?_;rintro e D ⟨⟨e,i,k⟩,c⟩;obtain rfl:=k.2 aw.o;have b:=b.t c;obtain⟨E,F⟩:=bY b;have a5:w.heap.size<D.heap.size:=(by have:=c.size;simp at this;omega);clear k)
 go_wp2_with (go_at_call 60;refine mR (A.o _ ((f.t b).a _)) λG C=>?_)
 go_ret;exact⟨rfl,((f.t b).a _).t C⟩
theorem S9:(prog.info? 138).map (λi=>(i.zero,i.size,i.bytes))=ck (ck (cg #[(0:Int),ci cE,(0:Int),(0:Int),(0:Int),(0:Int)]),6,48):=lB
def Wu:kD:=⟨138,6,48,cg #[(0:Int),ci cE,(0:Int),(0:Int),(0:Int),(0:Int)],S9,rfl,by decide,by decide,by decide⟩
theorem af0(x:ug): Wu.Row x.row:=⟨rfl,λu o=>by
 simp only [ug.row,aS,List.mem_nil_iff,or_false]at o;rcases o with rfl|rfl|rfl|rfl|rfl|rfl<;>rfl⟩
def VO(w:cm)(base:Nat)(v:cq)(ds:List ug): Prop:=iK Wu w base v (ds.map ug.row)
def We(r:Rc): Array cq:=#[r.x0,r.y0,r.x1,r.y1]
structure VQ(w wr:cm)(dv:Array cq)(q:Rc): Prop where
 t:bH [] w wr
 h0:wr.heap[w.heap.size]?=ck (cj dv 29 (0,0))
 h1:wr.heap[w.heap.size+1]?=ck (cj (We q) 59 (0,0))
 h2:wr.heap[w.heap.size+1+1]?=ck (cj #[(0:Int),(0:Int),(0:Int),(0:Int)] 59 (0,0))
theorem VQ.u{w wr u:cm}{f:Array cq}{q:Rc}(P:VQ w wr f q)(T:bH [] wr u): VQ w u f q:=by have a:=(ae.1 P.h2).1;exact⟨P.t.t T,(T.old _ gn lz).t P.h0,(T.old _ gn lz).t P.h1,(T.old _ gn lz).t P.h2⟩
theorem set4{w:cm}{b:Nat}{q:Rc}{x y z t:cq}{ty:cw}(h:w.heap[b]?=ck (cj (We q) ty (0,0))): ((((w.setCell ⟨b,0,cl⟩ x).setCell ⟨b,1,cl⟩ y).setCell ⟨b,2,cl⟩ z).setCell ⟨b,3,cl⟩ t).heap[b]?=ck (cj #[x,y,z,t] ty (0,0)):=oX
theorem iT(w:cm)(b:Nat)(x y z t:cq)(q:Nat)(a:q≠b): ((((w.setCell ⟨b,0,cl⟩ x).setCell ⟨b,1,cl⟩ y).setCell ⟨b,2,cl⟩ z).setCell ⟨b,3,cl⟩ t).heap[q]?=w.heap[q]?:=by simp only [World.setCell,au,aF (Ne.symm a)]
theorem VQ.set{w wr:cm}{f:Array cq}{q:Rc}(P:VQ w wr f q)(r:Rc): VQ w ((((wr.setCell ⟨w+1,0,cl⟩ r.x0).setCell ⟨w+1,1,cl⟩ r.y0).setCell ⟨w+1,2,cl⟩ r.x1).setCell ⟨w+1,3,cl⟩ r.y1) f r:=
 ⟨(((P.t.sc).sc).sc).sc,(iT _ _ _ _ _ _ _ gn).t P.h0,set4 P.h1,(iT _ _ _ _ _ _ _ gn).t P.h2⟩
theorem nH{d:df}{w:cm}{id:Int}{l:bI}(h:dh d.agY id=ck l)(E:d.At w): l.At w:=by obtain⟨k,_,a,_⟩:=iD h;exact (E.agY.2 k l a).1
theorem abQ{a:List bI}{j:Nat}{l:bI}(h:a[j]?=ck l)(r:Rc): Zh (a.drop j) r=l.step (Zh (a.drop (j+1)) r):=by obtain⟨e,f⟩:=ah.1 h;rw [List.drop_eq_getElem_cons e,f];rfl
theorem adZ(d:df)(ag0:List Int)(s:List bI)(n B:Nat)(aR:n<=B/\B<=50)(ao:s.length=n)(a3:∀j l,s[j]?=ck l->dh d.agY (ag0.getD j 0)=ck l)(A:Option cx)(cap:Nat)(i:Nat)(hi:i<n)(r:Rc)(hr:r.InC)(w:cm)(h:d.At w)(Y:dn w A B ag0):
  cv cB 158 #[d.v,cf A B cap,i,n,r.v] w λe w'=>e=cz (Zh (s.drop (i+1)) r).v/\bH [] w w':=by
 obtain⟨g,o,rfl,hR⟩:=Y.cell gn;have an:=Y.1;have hL:=λ(j:Nat) l (y:s[j]?=ck l) u (t:bH [] w u)=>zq d (ag0.getD j 0) l (a3 j l y) u (h.u t);have ab:=λ(j:Nat) l (y:s[j]?=ck l) u (t:bH [] w u)=>nH (a3 j l y) (h.u t);clear h Y a3;obtain⟨J,M,L,ag2,H,next,E,G,F,agY⟩:=d;simp only [df.v]at *;obtain⟨W,D⟩:=eX (((w.alloc (cj #[cf J M L,H,next,cf E G F] 29)).alloc (cj (We r) 59)).alloc (cj #[(0:Int),(0:Int),(0:Int),(0:Int)] 59));have T0:bH [] w W:=D▸(((tR w).a _).a _).a _;have P0:VQ w W #[cf J M L,H,next,cf E G F] r:=by
  refine⟨T0,?_,?_,?_⟩
  .rw [D];simp only [yV,aI];rw [aF gn,aF gn,aG lL]
  .rw [D];simp only [yV,aI];rw [aF gn,aG lL]
  rw [D];simp only [yV,aI];rw [aG lL]
 obtain⟨HR,HL,ar,HI,a7⟩:=lh5 hR hL ab hr (bg ao an);have af:(n:Int)-1=((n-1:Nat):Int):=gn
 have HN:=lh af;clear hR hL ab hr ao an af T0;unfold Rc.v We at *;go_enter func158,ntmps158;go_upto_region 1 with (fail)
 rw [<-D];clear D;try simp only [aI]
 go_wp2_with fail
 rw [HN.o];go_loopw [11] (λs11 wr=>∃(j:Nat) (q:Rc),(i<=j/\j<n)/\s11=j/\q=Zh (s.drop (j+1)) r/\VQ w wr #[cf J M L,H,next,cf E G F] q) (λs11 _=>(intOf s11).toNat);case atStart=>exact⟨n-1,r,gn,rfl,by rw [List.drop_of_length_le pC];rfl,P0⟩
 clear P0;obtain⟨j,q,⟨b2,b3⟩,rfl,hq,P⟩:=hrel;have T:=lh hq;have q0:=cO 0 (cf J M L) P.h0;have q1:=cO 1 H P.h0;have q2:=cO 2 next P.h0;have q3:=cO 3 (cf E G F) P.h0;have k:=lh P;clear hq P;by_cases b4:i<j
 .obtain⟨m,rfl⟩:∃m,j=m+1:=⟨j-1,gn⟩;obtain⟨l,y⟩:∃l,s[m+1]?=ck l:=⟨s[m+1]'(by have:=a7.o;omega),by rw [aB]⟩;have a2:=abQ y r;rw [<-T.o]at a2;obtain⟨a5,a9,av,HK⟩:=lh4 a2 (λu t=>HL.o (m+1) l y u t) (λu t=>ar.o (m+1) l y u t) (λu t=>HR.o u t (m+1) gn);have am:q.InC:=by rw [T.o];exact aaN _ HI.o
  have aD:=lh am;clear a2 am y;generalize ag0.getD (m+1) 0=aM at *;have b0:(0:Int)<=(m:Int)+1:=gn
  have b1:(m:Int)+1<(B:Int):=gn
  go_upto_region 4 with (fail)
  go_cut [12] (λs12 wx=>∃c,s12=ch (ck ⟨c,0,cl⟩)/\wx.heap[c]?=ck (cj ⟨l.row⟩ 51 (0,0))/\bH [] wr wx);case first=>
   refine sN 7 (tR wr) λV R=>?_;have ay:Hid (∀u,bH [] wr u->u.cell? ⟨w,0,cl⟩=ck (cf J M L)/\u.cell? ⟨w,1,cl⟩=ck (.int .i64 H)/\u.cell? ⟨w,2,cl⟩=ck (.int .i64 next)/\u.cell? ⟨w,3,cl⟩=ck (cf E G F)):=lh λu t=>⟨((bY t).1 _ _ (ai q0)).t q0,((bY t).1 _ _ (ai q1)).t q1,((bY t).1 _ _ (ai q2)).t q2,((bY t).1 _ _ (ai q3)).t q3⟩;refine fE 0 (cg #[cf J M L,H,next,cf E G F]) ?_ (j:=λw' hw=>by obtain⟨f0,f1,f2,f3⟩:=ay.o _ hw;go_simp);refine fE 1 (cf (ck ⟨g,o,cl⟩) B cap) ?_;refine fE 2 (.int .i64 ((m+1:Nat):Int)) ?_;refine fK 3 ?_;refine Xy 4 aM (λw' hw=>HK.o _ (k.o.t.t hw)) ?_;refine tj 5 6 (λK f=>?_) (λK f=>?_)
   .go_simp;refine mR (a9.o _ (k.o.t.t R)) λx aw=>?_;have I:=R.t aw;refine gK f I ?_;clear f K;refine eH 6 λK f=>?_;have a4:wr.heap.size<=x.heap.size:=I.size;refine bZ (d:=ck 12) rfl (di rfl (gI x)) ?_;have b:=cr x (cj ⟨dF.row⟩ 51);have tz:=(tR x).alloc (cj ⟨dF.row⟩ 51);have C:=I.t tz;have ad:x.heap.size<(x.alloc (cj ⟨dF.row⟩ 51)).heap.size:=lz;generalize x.alloc (cj ⟨dF.row⟩ 51)=Z,x.heap.size=c at *;refine gK f C ?_;clear f K;refine iZ λK f=>?_;have a8:=dQ (o:=0) (ty:=51) (p:=l.row) (L':=l.row) b (co dS).2 lK (row_one _) lK;refine fO (d:=cl) rfl 51 (.tmp 12) (.tmp 25) rfl rfl rfl a8 ?_;refine f _ _ ?_;clear f K;(try go_frame);have a0:=C.setRow (g:=c) ⟨l.row⟩ (.inr a4);have a1:=eQ (L':=l.row) b;go_wp2;go_meet;exact⟨c,rfl,a1,a0⟩
   have a4:wr.heap.size<=V.heap.size:=R.size;refine bZ (d:=ck 12) rfl (di rfl (gI V)) ?_;have b:=cr V (cj ⟨dF.row⟩ 51);have tz:=(tR V).alloc (cj ⟨dF.row⟩ 51);have C:=R.t tz;have ad:V.heap.size<(V.alloc (cj ⟨dF.row⟩ 51)).heap.size:=lz;generalize V.alloc (cj ⟨dF.row⟩ 51)=Z,V.heap.size=c at *;refine gK f C ?_;clear f K;refine eH 5 λK f=>?_;go_simp;refine mR (a9.o _ (k.o.t.t C)) λx aw=>?_;have I:=C.t aw;refine gK f I ?_;clear f K;have b:=(aw.old c ad lz).t b;refine iZ λK f=>?_;have a8:=dQ (o:=0) (ty:=51) (p:=l.row) (L':=l.row) b (co dS).2 lK (row_one _) lK;refine fO (d:=cl) rfl 51 (.tmp 12) (.tmp 25) rfl rfl rfl a8 ?_;refine f _ _ ?_;clear f K;(try go_frame);have a0:=I.setRow (g:=c) ⟨l.row⟩ (.inr a4);have a1:=eQ (L':=l.row) b;go_wp2;go_meet;exact⟨c,rfl,a1,a0⟩
  obtain⟨c,rfl,b,hT⟩:=hcut;have P:=k.o.u hT;have y1:=cP 1 _ b;have Q:=cP 3 _ b;have S:=av.o _ P.t;have a6:=lh P;clear P hT q0 q1 q2 q3;by_cases N:l.ag3=cE/\l.ag1=3
  .obtain⟨U,X⟩:=N;rw [U]at Q;rw [X]at y1;have a8:Zh (s.drop (m+1)) r=l.wide q:=(by rw [a5.o];unfold bI.step;rw [aG ⟨U,X⟩]);have bs:=lh a8;clear a8 U X;have e0:=cP 17 _ b;have e1:=cP 18 _ b;have e2:=cP 19 _ b;have e3:=cP 20 _ b;have e4:=cP 21 _ b;have e5:=cP 22 _ b;have z0:=cO 0 q.x0 a6.o.h1;have z1:=cO 1 q.y0 a6.o.h1;have z2:=cO 2 q.x1 a6.o.h1;have z3:=cO 3 q.y1 a6.o.h1;have ac:=acF l.Xg l.ks l.cs q aD.o.bd wc S.ks S.cs;have aa:=lh ac;clear ac b S;generalize aq:(q.join (l.Xg.area (jC l.Xg l.ks l.cs) q (-1))).can=wq at *;have aE:Hid (l.wide q=wq):=lh aq;clear aq;unfold Rc.v Fv.v at aa;(go_wp2_with (go_at_call 159;refine mR aa.o λw5 ap=>?_;have z:=a6.o.u ap;have v0:=cO 0 q.x0 z.h1;have v1:=cO 1 q.y0 z.h1;have v2:=cO 2 q.x1 z.h1;have v3:=cO 3 q.y1 z.h1;have vf:∀i,w5.frozen? ⟨w+1,i,cl⟩=cE:=(λi=>dm z.h1 i);have ax:=lh z;clear z ap));go_roundw;case rel=>exact⟨m,wq,gn,by go_num,by rw [<-aE.o];exact bs.o.symm,ax.o.set wq⟩
   simp [intOf]
  have a8:Zh (s.drop (m+1)) r=q:=by rw [a5.o];unfold bI.step;rw [aF N]
  have bs:=lh a8;clear a8 S;cases O:l.ag3 with
  |true=>
   rw [O]at Q;clear N O b;go_wp2;go_roundw;case rel=>exact⟨m,q,gn,by go_num,bs.o.symm,a6.o⟩
   simp [intOf]
  |false=>
   have b5:(l.ag1==3)=cE:=(by simpa [O]using N);rw [O]at Q;clear N O b;go_wp2;go_roundw;case rel=>exact⟨m,q,gn,by go_num,bs.o.symm,a6.o⟩
   simp [intOf]
 obtain rfl:j=i:=gn
 have z0:=cO 0 q.x0 k.o.h1;have z1:=cO 1 q.y0 k.o.h1;have z2:=cO 2 q.x1 k.o.h1;have z3:=cO 3 q.y1 k.o.h1;have y0:=cO 0 (0:Int) k.o.h2;have y1:=cO 1 (0:Int) k.o.h2;have y2:=cO 2 (0:Int) k.o.h2;have Q:=cO 3 (0:Int) k.o.h2;have yf:∀i,wr.frozen? ⟨w+1+1,i,cl⟩=cE:=λi=>dm k.o.h2 i;go_wp2_with fail
 have aL:=(((k.o.t.setCell (a:=⟨w+1+1,0,cl⟩) q.x0 (.inr lE)).setCell (a:=⟨w+1+1,1,cl⟩) q.y0 (.inr lE)).setCell (a:=⟨w+1+1,2,cl⟩) q.x1 (.inr lE)).setCell (a:=⟨w+1+1,3,cl⟩) q.y1 (.inr lE);refine ag (v:=cg #[q.x0,q.y0,q.x1,q.y1]) (by simp [results,results158,go_sem,y0,y1,y2,Q]) rfl ⟨?_,aL⟩;rw [<-T.o]
def ac9(ls:List bI)(id:Int)(r:Rc): List ug:=match dh ls id with
 |none=>[]
 |some l=>if r.can.empty=cF then [] else aa4 ls l id r.can
def afl(w w':cm)(ds:List ug)(e:Ending): Prop:=∃v,e=cz v/\VO w' w.heap.size v ds
structure WO(w wr:cm)(dv:Array cq)(q:Rc)(b:Nat)(l:bI): Prop where
 t:bH [] w wr
 h0:wr.heap[w.heap.size]?=ck (cj dv 29 (0,0))
 h1:wr.heap[w.heap.size+1]?=ck (cj (We q) 59 (0,0))
 h2:wr.heap[b]?=ck (cj ⟨l.row⟩ 51 (0,0))
 lt:w.heap.size+1<b
theorem WO.u{w wr u:cm}{f:Array cq}{q:Rc}{b:Nat}{l:bI}(P:WO w wr f q b l){a:List Nat}(T:bH a wr u)(d:∀g∈a,b<g): WO w u f q b l:=by
 have i:=(ae.1 P.h2).1;have a5:=P.lt;have c:∀x,x<=b->x∉a:=λx j h=>by have:=d x h;omega
 exact⟨fH P.t T (λg e=>by have:=d g e;omega),(T.old _ gn (c _ gn)).t P.h0,(T.old _ gn (c _ gn)).t P.h1,(T.old _ gn (c _ gn)).t P.h2,a5⟩
theorem iK.base{k:kD}{w:cm}{base base':Nat}{v:cq}{a:List (List cq)}(h:iK k w base v a)(d:base'<=base): iK k w base' v a:=by refine⟨h.1,h.2.1,h.2.2.imp id ?_⟩;rintro⟨g,i,c,b,e,f,r⟩;exact⟨g,i,c,b,e,aK d f,r⟩
theorem aeu(a x0 x1 x2 x3:Int)(u:cm): (Instr.build 138 #[(0,a),(2,cg #[x0,x1,x2,x3])]).run cB u=.ok (ug.v ⟨a,cE,⟨x0,x1,x2,x3⟩⟩) u:=lB
theorem Gu{P:Program}{o:Oper}{a:Act}{w w':cm}{t:cw}{i j k:Nat}{x y z:Operand}{p q r v:cq}(e:o.op=.build t #[(i,x),(j,y),(k,z)])(b:a.eval x=p)(hy:a.eval y=q)(J:a.eval z=r)(C:(Instr.build t #[(i,p),(j,q),(k,r)]).run P w=.ok v w'): (cy a.eval o).run P w=.ok (.value v) w':=
 iU e (by simp [b,hy,J]) C
theorem afd{d:df}(I:d.Ok){id:Int}{l:bI}(h:dh d.agY id=ck l): (l.ag0.filterMap (dh d.agY)).length=l.ag0.length/\∀j m,(l.ag0.filterMap (dh d.agY))[j]?=ck m->dh d.agY (l.ag0.getD j 0)=ck m:=by
 obtain⟨k,_,a,_⟩:=iD h;have c:∀x∈l.ag0,(dh d.agY x).isSome=cF:=by
  have:=I.ag0 k l a;unfold pM at this;rw [az,aZ]at this;intro x g;rw [<-Jk];have f:=this.1 x g;unfold sQ;cases C:mW (d.agY.map (·.id)) x with
  |none=>rw [C]at f;simp at f
  |some j=>simp
 generalize l.ag0=b at *;clear h a;induction b with
 |nil=>exact⟨rfl,λj m h=>qc⟩
 |cons x b ih=>
  obtain⟨n,p⟩:=ih (λy i=>c y (List.mem_cons_of_mem _ i));obtain⟨m,e⟩:=Option.isSome_iff_exists.1 (c x (List.mem_cons_self ..));rw [List.filterMap_cons_some e];refine⟨by simp [n],λj u o=>?_⟩;obtain _|j:=j
  .simp only [List.getElem?_cons_zero,Option.some.injEq]at o;subst o;exact e
  simp only [List.getElem?_cons_succ]at o;exact p j u o
theorem ZQ(l:bI)(p:jC l.Xg l.ks l.cs=cF)(r:Rc)(C:r.bd)(w:cm)(c:l.At w):
  cv cB 130 #[l.v,r.v] w λe w'=>e=cz (l.wide r).v/\bH [] w w':=by
 have j:=λu (t:bH [] w u)=>aan l.Xg l.ks l.cs p r C u (c.ks.u t) (c.cs.u t);have n:=xG r (l.nd r);have h:=pz (r.join (l.nd r));rw [show (r.join (l.nd r)).can=l.wide r from rfl]at h;rw [show l.Xg.area (jC l.Xg l.ks l.cs) r (-1)=l.nd r from rfl]at j;generalize l.wide r=m,r.join (l.nd r)=b at *;generalize l.nd r=a at *;clear c C p;obtain⟨q,z,y⟩:=lh3 j n h;clear j n h;obtain⟨W,d⟩:=eX (((w.alloc (cj ⟨l.row⟩ 51)).alloc (cj (We r) 59)).alloc (cj #[(0:Int),(0:Int),(0:Int),(0:Int)] 59));have k:bH [] w W:=d▸(((tR w).a _).a _).a _;have K:w.heap.size+3<=W.heap.size:=by rw [d];simp
 have s:=dJ d;have x:=Z5 d;have H:=Zi d;unfold We at *;obtain⟨a2,a6,I⟩:=lh3 s x H;clear s x H;unfold bI.v Rc.v at *;unfold Fv.v at q;go_enter func130,ntmps130;go_upto_region 1 with (fail)
 rw [<-d];clear d;try simp only [aI]
 refine sN 7 (tR W) λV f=>?_;refine fE 0 (cg #[r.x0,r.y0,r.x1,r.y1]) ?_ (j:=λw' g=>by have C:=(g.old (w.heap.size+1) gn lz).t a6.o;have A:=cO 0 r.x0 C;have B:=cO 1 r.y0 C;have D:=cO 2 r.x1 C;have E:=cO 3 r.y1 C;go_simp);refine fK 1 ?_;refine fE 2 (cg #[l.Xg.ag1,l.Xg.Xf,cf l.Xg.kA l.Xg.kn l.Xg.kc,l.Xg.div,l.Xg.value,cf l.Xg.cA l.Xg.cn l.Xg.cc]) ?_ (j:=λw' g=>by have c:=(g.old w.heap.size gn lz).t a2.o;have L:=cP 17 l.Xg.ag1 c;have M:=cP 18 l.Xg.Xf c;have N:=cP 19 (cf l.Xg.kA l.Xg.kn l.Xg.kc) c;have P:=cP 20 l.Xg.div c;have R:=cP 21 l.Xg.value c;have S:=cP 22 (cf l.Xg.cA l.Xg.cn l.Xg.cc) c;go_simp);refine fE 3 (cg #[r.x0,r.y0,r.x1,r.y1]) ?_ (j:=λw' g=>by have C:=(g.old (w.heap.size+1) gn lz).t a6.o;have A:=cO 0 r.x0 C;have B:=cO 1 r.y0 C;have D:=cO 2 r.x1 C;have E:=cO 3 r.y1 C;go_simp);refine PR 4 (q.o _ (k.t f)) λO f _=>?_
 refine PR 5 (z.o _) λO f _=>?_
 refine PR 6 (y.o _) λO f _=>?_
 have b2:=(f.old (w.heap.size+1+1) gn lz).t I.o;have F:=cO 0 (0:Int) b2;have J:=cO 1 (0:Int) b2;have Q:=cO 2 (0:Int) b2;have G:=cO 3 (0:Int) b2;have T:=λi=>dm b2 i;clear b2;refine Yo ?_
 go_wp2_with fail
 exact ag (v:=cg #[m.x0,m.y0,m.x1,m.y1]) (by simp [results,results130,go_sem,F,J,Q,G]) rfl ⟨rfl,(((((k.t f).sc).sc).sc).sc)⟩
theorem uu(d:df)(id:Int)(l:bI)(a1:dh d.agY id=ck l)(w:cm)(c:List Nat)(aw:∀b∈c,b<w.heap.size)(D:gG c w λu=>d.At u)(a5:∀l∈d.agY,l.Thin):
  cv cB 124 #[d.v,id] w λe w'=>(∃m,l.Like m/\gG c w' (λu=>m.At u)/\m.Xh<=m.Xj/\e=cz m.v)/\bH [] w w':=by
 have n:=λu (t:bH [] w u) y (S:∀b∈y,b<u.heap.size) (a2:∀b∈y,b<w.heap.size->b∈c)=>Bh d id u y S (D.new t a2) a5;unfold rW at n;rw [a1]at n;clear D a5 a1;obtain⟨J,L,K,ag2,I,next,F,H,G,agY⟩:=d;simp only [df.v]at *;have A:=lh n;have O:=lh aw;clear n aw;obtain⟨W,f⟩:=eX ((w.alloc (cj #[cf J L K,I,next,cf F H G] 94)).alloc (cj ⟨dF.row⟩ 51));have C:bH [] w W:=f▸((tR w).a _).a _;have a0:w.heap.size+2<=W.heap.size:=by rw [f];simp
 have k:=fU f;have M:=ZH f;have q0:=cO 0 (cf J L K) k;have q1:=cO 1 I k;have q2:=cO 2 next k;have q3:=cO 3 (cf F H G) k;obtain⟨a6,z,Q⟩:=lh3 M gI (A.o W C ((w.heap.size+1)::c) (λb g=>by rcases aS.1 g with rfl|g;omega;have:=O.o b g;omega) (λb g a3=>by rcases aS.1 g with rfl|g;omega;exact g));clear k M A;go_enter func124,ntmps124;go_upto_region 1 with (refine bQ rfl (di (t:=51) rfl (z.o _)) ?_;try go_frame)
 rw [<-f];clear f;try simp only [aI]
 go_upto_region 2 with (first
  |(go_at_call 76;refine Q.o.mono ?_;rintro e i ⟨⟨m,s,j,T,rfl⟩,h⟩;have R:=lh (λu=>gX u m);have Z:=lh (bg s (bg j h));clear s j h)
  |(refine bQ rfl (di (t:=51) rfl (z.o _)) ?_;try go_frame)
  |(refine sR (R.o _) ?_))
 obtain⟨s,j,h⟩:=Z.o;obtain⟨V,q⟩:=eX (i.alloc (cj ⟨m.row⟩ 51));have B:bH [] i V:=q▸(tR i).a _;have E:=YE q
 have x:=((h.t B).old (w.heap.size+1) gn lz).t a6.o;have X:(Instr.loadAt 51 (ch (ck ⟨i,0,cl⟩))).run cB V=.ok (cg ⟨m.row⟩) V:=ct V i.heap.size 0 51 m.row _ (gp E lz) cD rfl (co dS).2;have Y:=dQ (o:=0) (ty:=51) (p:=m.row) (L':=m.row) x (co dS).2 lK (row_one _) lK;have U:=run_loadVar_row (P:=cB) _ (w.heap.size+1) 51 51 ⟨m.row⟩ (0,0) _ (eQ (L':=m.row) x) cD rfl (co dS).2;have N:Hid (gG c (V.setRow (w+1) ⟨m.row⟩) (λu=>m.At u)/\bH [] w (V.setRow (w+1) ⟨m.row⟩)):=lh ⟨((j.u B).setRow lz).mono (λb g=>oR),((C.t h).t B).setRow _ (.inr gn)⟩;rw [<-q];clear q B E x j h Z;generalize i.heap.size=b9 at *;go_wp2_with (first
  |(refine bQ rfl (dw rfl rfl X) ?_;try go_frame)
  |(refine sR Y ?_))
 exact ag (v:=m.v) (by simp [results,results124,asAddr,U];rfl) rfl ⟨⟨m,s,N.o.1,T,rfl⟩,N.o.2⟩
theorem wM(d:df)(id:Int)(l:bI)(a1:dh d.agY id=ck l)(w:cm)(a:List Nat)(aw:∀b∈a,b<w.heap.size)(c:gG a w λu=>d.At u)(a5:∀l∈d.agY,l.Thin):
  cv cB 124 #[d.v,id] w λe w'=>(∃m,l.Like m/\gG a w' (λu=>m.At u)/\e=cz m.v)/\bH [] w w':=(uu d id l a1 w a aw c a5).mono λe w' i=>by
 obtain⟨⟨m,f,g,_,h⟩,t⟩:=i;exact⟨⟨m,f,g,h⟩,t⟩
def WS(r:Rc): List cq:=[r.x0,r.y0,r.x1,r.y1]
def DF(x:bI×Rc): List cq:=x.1.row++WS x.2
def WQ:List cq:=dF.row++WS Rc.zero
theorem VF:(prog.info? 144).map (λi=>(i.zero,i.size,i.bytes))=ck (ck (cg ⟨WQ⟩),35,360):=lB
def Wh:kD:=⟨144,35,360,cg ⟨WQ⟩,VF,rfl,by decide,by decide,by decide⟩
theorem Vj:(prog.info? 51).map (λi=>(i.zero,i.size,i.bytes))=ck (ck (cg ⟨dF.row⟩),31,328):=lB
def jS:kD:=⟨51,31,328,cg ⟨dF.row⟩,Vj,rfl,by decide,by decide,by decide⟩
theorem kT(l:bI): jS.Row l.row:=⟨rfl,row_one l⟩
theorem ab5(x:bI×Rc): Wh.Row (DF x):=⟨rfl,λu o=>by
 unfold DF at o;rcases aV.1 o with o|o
 .exact row_one x.1 u o
 simp only [WS,aS,List.mem_nil_iff,or_false]at o;rcases o with rfl|rfl|rfl|rfl<;>rfl⟩
theorem afb(m:bI)(a b c d:Int)(u:cm): (Instr.build 144 #[(0,cg ⟨m.row⟩),(1,cg #[a,b,c,d])]).run cB u=.ok (cg ⟨DF (m,⟨a,b,c,d⟩)⟩) u:=lB
theorem afE{k:kD}{r:List cq}(C:k.Row r)(w:cm): iK k (w.alloc (cj ⟨r⟩ k.e)) w.heap.size (cf (ck ⟨w,0,cl⟩) 1 1) [r]:=
 ⟨λx b=>by rw [aN.1 b];exact C,by simp [C.len],.inr ⟨_,_,_,_,rfl,aQ _,cr _ _,aQ _,by unfold maxLen;omega,by simp [C.len],λj u a=>by simpa using a⟩⟩
theorem iK.rowsAt{k:kD}{w:cm}{base:Nat}{A:Option cx}{n c:Nat}{b:List (List cq)}(h:iK k w base (cf A n c) b): kw k w A b/\n=b.length:=by
 rcases h.form with ⟨e,d⟩|⟨g,o,f,e,i,_,_,C⟩
 .injection e with l z N;rw [d];exact⟨λj r a=>tP,by rw [z];rfl⟩
 injection e with l z N;exact⟨λj r a=>⟨g,o,l,C j r a⟩,z⟩
theorem aeF{k:kD}{t:cw}(o:prog.underlying t=ck (.slice k.e))(n:Nat)(G:n<=1000)(w:cm): ∃w',(Instr.makeSlice t (0:Int) n).run cB w=.ok (cf (ck ⟨w,0,cl⟩) 0 n) w'/\iK k w' w.heap.size (cf (ck ⟨w,0,cl⟩) 0 n) []/\bH [] w w':=by obtain⟨i,b,D,B,y⟩:=k.info;obtain⟨w',a,f,g⟩:=run_make_own (P:=cB) (w:=w) w.heap.size t k.e i k.Z k.size o b D B .i64 .i64 n (by rw [y];have:=k.hc;have:k.bytes*n<=4096*1000:=Nat.mul_le_mul this G;omega) (by unfold maxLen;omega) (aQ _);exact⟨w',a,⟨λr C=>by simp at C,by simpa using qJ.of_own f⟩,CJ (v:=cf cl 0 0) g⟩
inductive wV:List (bI×Rc)->List (bI×Rc)->Prop where
 |nil:wV [] []
 |cons {l m:bI} {q:Rc} {xs ys:List (bI×Rc)} (h:l.Like m) (t:wV xs ys):wV ((l,q)::xs) ((m,q)::ys)
theorem wV.len{xs m:List (bI×Rc)}(h:wV xs m): xs.length=m.length:=by
 induction h with
 |nil=>rfl
 |cons _ _ ih=>simp [ih]
theorem wV.get{xs m:List (bI×Rc)}(h:wV xs m): ∀(j:Nat) (y:bI×Rc),m[j]?=ck y->∃l,xs[j]?=ck (l,y.2)/\l.Like y.1:=by
 induction h with
 |nil=>intro j y d;simp at d
 |cons h t ih=>
  intro j y d;obtain _|j:=j
  .simp only [List.getElem?_cons_zero,Option.some.injEq]at d;subst d;exact⟨_,rfl,h⟩
  simp only [List.getElem?_cons_succ]at d;simpa using ih j y d
structure VP(w wr:cm)(dv:Array cq)(q:Rc): Prop where
 t:bH [] w wr
 h0:wr.heap[w.heap.size]?=ck (cj dv 94 (0,0))
 h1:wr.heap[w.heap.size+1]?=ck (cj (We q) 59 (0,0))
theorem VP.u{w wr u:cm}{f:Array cq}{q:Rc}(P:VP w wr f q)(T:bH [] wr u): VP w u f q:=by have e:=(ae.1 P.h1).1;exact⟨P.t.t T,(T.old _ gn lz).t P.h0,(T.old _ gn lz).t P.h1⟩
theorem VP.set{w wr:cm}{f:Array cq}{q:Rc}(P:VP w wr f q)(r:Rc): VP w ((((wr.setCell ⟨w+1,0,cl⟩ r.x0).setCell ⟨w+1,1,cl⟩ r.y0).setCell ⟨w+1,2,cl⟩ r.x1).setCell ⟨w+1,3,cl⟩ r.y1) f r:=
 ⟨(((P.t.sc).sc).sc).sc,(iT _ _ _ _ _ _ _ gn).t P.h0,set4 P.h1⟩
theorem df.At.keepD{d:df}{w u:cm}(h:d.At w)(b:∀q,q<w.heap.size->u.heap[q]?=w.heap[q]?): d.At u:=by
 refine⟨⟨h.ag2.1,λj s n=>?_⟩,⟨h.agY.1,λj l f=>?_⟩,h.small⟩
 .obtain⟨a,g,o,e,C⟩:=h.ag2.2 j s n;exact⟨⟨a.h1,a.h2,a.l0.keep b,a.l1.keep b,a.l2.keep b⟩,g,o,e,λi v c=>nC b (C i v c)⟩
 obtain⟨a,g,o,e,C⟩:=h.agY.2 j l f;exact⟨a.keep b,g,o,e,λi v c=>nC b (C i v c)⟩
theorem adL{P:Program}{o:Oper}{a:Act}{w w':cm}{t:cw}{l c:Operand}{p q v:cq}(e:o.op=.makeSlice t l c)(i:a.eval l=p)(b:a.eval c=q)(C:(Instr.makeSlice t p q).run P w=.ok v w'): (cy a.eval o).run P w=.ok (.value v) w':=by simp only [cy,e,i,b,Sem.run_bind,C,Result.andThen];rfl
def KA(w:cm)(base:Nat)(v:cq)(ds:List (bI×Rc)): Prop:=iK Wh w base v (ds.map DF)
theorem G5{l m:bI}(h:l.Like m): m.ag3=l.ag3/\m.ag1=l.ag1/\m.id=l.id/\m.wide=l.wide:=by unfold bI.Like at h;rw [h];refine⟨rfl,rfl,rfl,?_⟩;funext r;rfl
theorem KA.set4{w:cm}{b base:Nat}{v:cq}{ds:List (bI×Rc)}(h:KA w base v ds)(r:Rc)(a:b<base): KA ((((w.setCell ⟨b,0,cl⟩ r.x0).setCell ⟨b,1,cl⟩ r.y0).setCell ⟨b,2,cl⟩ r.x1).setCell ⟨b,3,cl⟩ r.y1) base v ds:=
 iK.kept h (((((bH.refl [b] w).setCell _ (.inl lz)).setCell _ (.inl lz)).setCell _ (.inl lz)).setCell _ (.inl lz)) (λg d e=>sP)
def gz(b:List Nat)(w:cm)(ds:List (bI×Rc)): Prop:=∀x∈ds,gG b w λu=>x.1.At u
theorem gz.u{b:List Nat}{w u:cm}{ds:List (bI×Rc)}(h:gz b w ds)(T:bH [] w u): gz b u ds:=λx a=>(h x a).u T
theorem gz.set4{w:cm}{b:Nat}{ds:List (bI×Rc)}(h:gz [b] w ds)(x0 y0 x1 y1:cq): gz [b] ((((w.setCell ⟨b,0,cl⟩ x0).setCell ⟨b,1,cl⟩ y0).setCell ⟨b,2,cl⟩ x1).setCell ⟨b,3,cl⟩ y1) ds:=
 λx a=>((((h x a).setCell lz).setCell lz).setCell lz).setCell lz
theorem gz.cons{b:List Nat}{w:cm}{ds:List (bI×Rc)}{m:bI}{q:Rc}(h:gz b w ds)(e:gG b w λu=>m.At u): gz b w ((m,q)::ds):=λx a=>by
 rcases aS.1 a with rfl|a
 .exact e
 exact h x a
theorem ZP(d:df)(ag0:List Int)(z:List bI)(br:z.length=ag0.length)(bq:∀j l,z[j]?=ck l->dh d.agY (ag0.getD j 0)=ck l)(A:Option cx)(n cap:Nat)(hn:n<=50)(r:Rc)(hr:r.InC)(w:cm)(h:d.At w)(bA:∀l∈d.agY,l.Thin)(O:dn w A n ag0)
  (bp:∀(j:Nat) (l:bI),z[j]?=ck l->l.ag3=cE->l.ag1=3->jC l.Xg l.ks l.cs=cF) :
  cv cB 71 #[d.v,cf A n cap,r.v] w λe w'=>(∃v f,e=cz v/\KA w' w.heap.size v f/\wV (Ye z r) f/\gz [w.heap.size+1] w' f)/\bH [] w w':=by
 have bw:=O.1;have hR:=λh1=>O.cell h1;have hL:=λ(j:Nat) l (R:z[j]?=ck l) u (t:bH [] w u) bs (bX:∀b∈bs,b<u.heap.size) (c0:∀b∈bs,w.heap.size<=b)=>wM d (ag0.getD j 0) l (bq j l R) u bs bX (AC t c0 λv hv=>(h.keepD hv)) bA;clear h O bq bA;obtain⟨sA,sn,sc,ag2,a5,next,lA,ln,lc,agY⟩:=d;simp only [df.v]at *;obtain⟨W,hW⟩:=eX ((w.alloc (cj #[cf sA sn sc,a5,next,cf lA ln lc] 94)).alloc (cj (We r) 59));have T0:bH [] w W:=hW▸((tR w).a _).a _;have cb:w.heap.size+2<=W.heap.size:=od
 have P0:VP w W #[cf sA sn sc,a5,next,cf lA ln lc] r:=by
  refine⟨T0,?_,?_⟩
  .rw [hW];simp only [yV,aI];rw [aF gn,aG lL]
  rw [hW];simp only [yV,aI];rw [aG lL]
 obtain⟨W2,bv,be,bh⟩:=aeF (k:=Wh) (t:=141) underlying141 n gn W;have P1:=P0.u bh;obtain⟨HR,HL,HI,aa,bF,bL⟩:=lh6 hR hL hr (bg br bw) bp bv;have bM:Hid (KA W2 (w.heap.size+2) (cf (ck ⟨W,0,cl⟩) 0 n) []):=lh (iK.base be gn);clear hR hL hr br bw T0 P0 bh bv be bp;generalize W.heap.size=m0 at *;unfold Rc.v We at *;go_enter func71,ntmps71;go_upto_region 1 with (fail)
 rw [<-hW];clear hW;try simp only [aI]
 go_wp2_with (refine yR 12 (adL (l:=.const (0:Int)) (c:=.tmp 11) rfl rfl rfl bL.o) ?_)
 go_loopw [7,8] (λs7 s8 wr=>∃(j:Nat) (L:cx) (U N:Nat) (f:List (bI×Rc)) (q:Rc),j<=n/\s7=cf (ck L) U N/\s8=.int .i64 ((j:Int)-1)/\KA wr (w.heap.size+2) (cf (ck L) U N) f/\(wV (Ye (z.drop j) r) f/\gz [w.heap.size+1] wr f)/\q=Zh (z.drop j) r/\VP w wr #[cf sA sn sc,a5,next,cf lA ln lc] q) (λ_ s8 _=>(intOf s8+1).toNat);case atStart=>exact⟨n,_,_,_,[],r,aQ _,rfl,rfl,bM.o,⟨by rw [List.drop_of_length_le tf];exact .nil,λx hx=>absurd hx aW⟩,by rw [List.drop_of_length_le tf];rfl,P1⟩
 clear P1;obtain⟨j,L,U,N,f,q,hj,rfl,rfl,hO,aq,hq,P⟩:=hrel;obtain⟨HQ,HO,af,aR⟩:=lh4 hq hO aq.1 aq.2;have q0:=cO 0 (cf sA sn sc) P.h0;have q1:=cO 1 a5 P.h0;have q2:=cO 2 next P.h0;have q3:=cO 3 (cf lA ln lc) P.h0;have G:=lh P;clear hq hO aq P;by_cases cc:0<j
 .obtain⟨i,rfl⟩:∃i,j=i+1:=⟨j-1,gn⟩;obtain⟨g,o,rfl,hR⟩:=HR.o gn;obtain⟨l,R⟩:∃l,z[i]?=ck l:=⟨z[i]'(by have:=aa.o;omega),by rw [aB]⟩;have bx:q.InC:=by rw [HQ.o];exact aaN _ HI.o
  have aL:=abQ R r;rw [<-HQ.o]at aL;have a2:Ye (z.drop i) r=if l.ag3=cF then Ye (z.drop (i+1)) r else (l,q)::Ye (z.drop (i+1)) r:=by obtain⟨h1,h2⟩:=ah.1 R;rw [List.drop_eq_getElem_cons h1,h2,HQ.o];rfl
  obtain⟨ac,b8,bS,b7,HG,HK⟩:=lh6 aL a2 bx (λu t bs h1 h2=>HL.o i l R u t bs h1 h2) (bF.o i l R) (λu t=>hR u t i gn);clear aL a2 bx R hR;generalize ag0.getD i 0=ca at *;have b0:(0:Int)<=(i:Int):=gn
  have b1:(i:Int)<(n:Int):=gn
  have b2:(i:Int)<=50:=gn
  rw [show (((i+1:Nat):Int)-1)=(i:Int) by omega];go_upto_region 5 with (fail)
  go_cut [9] (λs9 wx=>∃c m,s9=ch (ck ⟨c,0,cl⟩)/\l.Like m/\wx.heap[c]?=ck (cj ⟨m.row⟩ 51 (0,0))/\gG [w.heap.size+1] wx (λu=>m.At u)/\bH [] wr wx);case first=>
   refine sN 7 (tR wr) λV hS=>?_;refine fE 0 (cg #[cf sA sn sc,a5,next,cf lA ln lc]) ?_ (j:=λw' hw=>by have e0:=((bY hw).1 _ _ (ai q0)).t q0;have e1:=((bY hw).1 _ _ (ai q1)).t q1;have e2:=((bY hw).1 _ _ (ai q2)).t q2;have e3:=((bY hw).1 _ _ (ai q3)).t q3;go_simp);refine fE 1 (cf (ck ⟨g,o,cl⟩) n cap) ?_;refine fE 2 i ?_;refine fK 3 ?_;refine Xy 4 ca (λw' hw=>HK.o _ (G.o.t.t hw)) ?_;refine tj 5 6 (λK s=>?_) (λK s=>?_)
   .go_simp;(with_reducible refine (b7.o _ (G.o.t.t hS) [w.heap.size+1] (λb F=>by rw [aN.1 F];have:=(ae.1 G.o.h1).1;have:=hS.size;omega) (λb F=>by rw [aN.1 F];omega)).mono ?_);rintro e B ⟨⟨m,S,O,rfl⟩,aw⟩;have Y:=hS.t aw;refine gK s Y ?_;clear s K;refine eH 6 λK s=>?_;have aE:wr.heap.size<=B.heap.size:=Y.size;refine bZ (d:=ck 9) rfl (di rfl (gI B)) ?_;have C:=cr B (cj ⟨dF.row⟩ 51);have tz:=(tR B).alloc (cj ⟨dF.row⟩ 51);have Q:=Y.t tz;have bo:B.heap.size<(B.alloc (cj ⟨dF.row⟩ 51)).heap.size:=lz;have bT:gG [w.heap.size+1] ((B.alloc (cj ⟨dF.row⟩ 51)).setRow B ⟨m.row⟩) (λu=>m.At u):=((O.new (cs:=[B.heap.size,w.heap.size+1]) tz (λb F ce=>by simp only [aS,List.mem_nil_iff,or_false]at F ⊢;omega)).setRow lz).mono lz;generalize B.alloc (cj ⟨dF.row⟩ 51)=Z,B.heap.size=H at *;refine gK s Q ?_;clear s K;have ap:=bT;refine iZ λK s=>?_;have D:=dQ (o:=0) (ty:=51) (p:=m.row) (L':=m.row) C (co dS).2 lK (row_one _) lK;refine fO (d:=cl) rfl 51 (.tmp 9) (.tmp 25) rfl rfl rfl D ?_;refine s _ _ ?_;clear s K;(try go_frame);have av:=Q.setRow (g:=H) ⟨m.row⟩ (.inr aE);have aD:=eQ (L':=m.row) C;go_wp2;go_meet;exact⟨H,m,rfl,S,aD,ap,av⟩
   have aE:wr.heap.size<=V.heap.size:=hS.size;refine bZ (d:=ck 9) rfl (di rfl (gI V)) ?_;have C:=cr V (cj ⟨dF.row⟩ 51);have tz:=(tR V).alloc (cj ⟨dF.row⟩ 51);have Q:=hS.t tz;have bo:V.heap.size<(V.alloc (cj ⟨dF.row⟩ 51)).heap.size:=lz;generalize V.alloc (cj ⟨dF.row⟩ 51)=Z,V.heap.size=H at *;refine gK s Q ?_;clear s K;refine eH 5 λK s=>?_;go_simp;(with_reducible refine (b7.o _ (G.o.t.t Q) [H,w.heap.size+1] (λb F=>by have:=(ae.1 G.o.h1).1;have:=Q.size;simp only [aS,List.mem_nil_iff,or_false]at F;omega) (λb F=>by have:=G.o.t.size;simp only [aS,List.mem_nil_iff,or_false]at F;omega)).mono ?_);rintro e B ⟨⟨m,S,O,rfl⟩,aw⟩;have Y:=Q.t aw;refine gK s Y ?_;clear s K;have C:=(aw.old H bo lz).t C;have ap:gG [w.heap.size+1] (B.setRow H ⟨m.row⟩) (λu=>m.At u):=(O.setRow lz).mono lz;refine iZ λK s=>?_;have D:=dQ (o:=0) (ty:=51) (p:=m.row) (L':=m.row) C (co dS).2 lK (row_one _) lK;refine fO (d:=cl) rfl 51 (.tmp 9) (.tmp 25) rfl rfl rfl D ?_;refine s _ _ ?_;clear s K;(try go_frame);have av:=Y.setRow (g:=H) ⟨m.row⟩ (.inr aE);have aD:=eQ (L':=m.row) C;go_wp2;go_meet;exact⟨H,m,rfl,S,aD,ap,av⟩
  obtain⟨c,m,rfl,S,C,bt,hT⟩:=hcut;obtain⟨f1,f2,f3,f4⟩:=G5 S;have P:=G.o.u hT;have y1:=cP 1 _ C;have y3:=cP 3 _ C;rw [f1]at y3;rw [f2]at y1;obtain⟨a6,HC,am,b4,HM⟩:=lh5 P C bt (aR.o.u hT) (bg S (bg f2 f4));have an:Hid (KA wc (w.heap.size+2) (cf (ck L) U N) f):=lh (iK.u HO.o hT);clear P hT q0 q1 q2 q3 C bt S f1 f2 f3 f4;cases E:l.ag3 with
  |true=>
   rw [E]at y3;have a2:=b8.o;rw [aG E]at a2;have D:Zh (z.drop i) r=q:=(by rw [ac.o];unfold bI.step;rw [aF (by rw [E];simp)]);have HF:=lh (bg a2 D);clear a2 D E y1;go_wp2;go_roundw;case rel=>exact⟨i,L,U,N,f,q,gn,rfl,rfl,an.o,⟨by rw [HF.o.1];exact af.o,b4.o⟩,HF.o.2.symm,a6.o⟩
   simp [intOf]
  |false=>
   rw [E]at y3;have a2:=b8.o;rw [aF (by rw [E];simp)]at a2;have z0:=cO 0 q.x0 a6.o.h1;have z1:=cO 1 q.y0 a6.o.h1;have z2:=cO 2 q.x1 a6.o.h1;have z3:=cO 3 q.y1 a6.o.h1;have a4:(Instr.loadAt 51 (ch (ck ⟨c,0,cl⟩))).run cB wc=.ok (cg ⟨m.row⟩) wc:=ct wc c 0 51 m.row _ (gp HC.o lz) cD rfl (co dS).2;have bk:(Instr.build 144 #[(0,cg ⟨m.row⟩),(1,cg #[q.x0,q.y0,q.x1,q.y1])]).run cB wc=.ok (cg ⟨DF (m,q)⟩) wc:=afb m q.x0 q.y0 q.x1 q.y1 wc;have bz:=nG (k:=Wh) (t:=141) underlying141 (ab5 (m,q)) wc;have T9:=(tR wc).alloc (cj ⟨DF (m,q)⟩ Wh.e);have ab:=(iK.rowsAt an.o);have c7:U=f.length:=(by rw [ab.2,aJ]);have c6:f.length<=50:=(by have:=af.o.len;have:=aai (z.drop (i+1)) r;have:=aa.o;simp at *;omega);obtain⟨v2,u2,ax,ar,bf,_⟩:=vM (k:=Wh) (t:=141) underlying141 (afE (ab5 (m,q)) wc) L N (λr hr=>by obtain⟨x,_,rfl⟩:=List.mem_map.1 hr;exact ab5 x) (ab.1.u T9) lz (by rw [aJ];simp;omega) 141;rw [<-ab.2]at ax;have a3:bH [] wc u2:=fH T9 bf (λg hg=>by rw [qj]at hg;simp at hg;omega);obtain⟨J,T,M,rfl⟩:∃J T M,v2=cf (ck J) T M:=by
    rcases ar.form with ⟨_,h0⟩|⟨g,o,cp,e,_⟩
    .cases h0
    exact⟨_,_,_,e⟩
   have a1:KA u2 (w.heap.size+2) (cf (ck J) T M) ((m,q)::f):=iK.base ar (by have:=(ae.1 a6.o.h1).1;omega);have a0:wV (Ye (z.drop i) r) ((m,q)::f)/\gz [w.heap.size+1] u2 ((m,q)::f):=⟨by rw [a2];exact .cons HM.o.1 af.o,(b4.o.u a3).cons (am.o.u a3)⟩;obtain⟨HN,a7,b6,ba,b3⟩:=lh5 (bg a1 (bg a0 a3)) a4 bk bz ax;have ay:=(a3.old c (ae.1 HC.o).1 lz).t HC.o;have x1:=cP 1 _ ay;rw [HM.o.2.1]at x1;have bE:=lh ay;clear a4 bk bz ax ab c7 c6 ar bf a3 a1 a0 T9 a2 ay y1;go_upto_region 8 with (first
    |(at_builtin;refine bQ rfl (dL (v:=cf (ck ⟨wc,0,cl⟩) 1 1) (y:=cf (ck L) U N) (.tmp 31) (.tmp 32) 141 rfl rfl rfl b3.o) ?_;try go_frame)
    |(refine lR 28 a7.o ?_)
    |(refine yR 30 (oN (x:=.tmp 28) (y:=.tmp 29) (p:=cg ⟨m.row⟩) (q:=cg #[q.x0,q.y0,q.x1,q.y1]) (v:=cg ⟨DF (m,q)⟩) rfl rfl rfl b6.o) ?_)
    |(refine yR 31 (dV (x:=.tmp 30) (y:=cg ⟨DF (m,q)⟩) rfl rfl ba.o) ?_))
   obtain⟨a1,a0,a3⟩:=HN.o;have P3:=a6.o.u a3;obtain⟨b9,ad,X,bB⟩:=lh4 a1 a0 P3 (am.o.u a3);clear a1 a0 a3 P3 z0 z1 z2 z3 HN a7 b6 ba b3 a6 an am HC;have w0:=cO 0 q.x0 X.o.h1;have w1:=cO 1 q.y0 X.o.h1;have w2:=cO 2 q.x1 X.o.h1;have B:=cO 3 q.y1 X.o.h1;by_cases b5:l.ag1=3
   .have D:Zh (z.drop i) r=m.wide q:=(by rw [ac.o,HM.o.2.2];unfold bI.step;rw [aG ⟨E,b5⟩]);have bl:=HG.o E b5;have bm:jC m.Xg m.ks m.cs=cF:=(by have:=HM.o.1;unfold bI.Like at this;rw [this];exact bl);have bj:=ZQ m bm q bS.o.bd u2 bB.o.now;have a4:(Instr.loadAt 51 (ch (ck ⟨c,0,cl⟩))).run cB u2=.ok (cg ⟨m.row⟩) u2:=ct u2 c 0 51 m.row _ (gp bE.o lz) cD rfl (co dS).2;generalize m.wide q=wq at *;obtain⟨ao,bc,a7⟩:=lh3 D bj a4;rw [b5]at x1;clear D bl bm bj a4 b5 E y3;unfold Rc.v at bc;go_wp2_with (first
     |(refine lR 37 a7.o ?_)
     |(go_at_call 130;refine mR bc.o λw5 aM=>?_;have I:=X.o.u aM;have v0:=cO 0 q.x0 I.h1;have v1:=cO 1 q.y0 I.h1;have v2:=cO 2 q.x1 I.h1;have v3:=cO 3 q.y1 I.h1;have vf:=(λi=>dm I.h1 i);have bR:=lh I;have bb:=lh aM;clear I aM))
    have bP:Hid (KA _ (w.heap.size+2) (cf (ck J) T M) ((m,q)::f)):=lh (KA.set4 (b:=w.heap.size+1) (base:=w.heap.size+2) (v:=cf (ck J) T M) (ds:=(m,q)::f) (iK.u b9.o bb.o) wq gn);go_roundw;case rel=>exact⟨i,J,T,M,_,wq,gn,rfl,rfl,bP.o,⟨ad.o.1,(ad.o.2.u bb.o).set4 _ _ _ _⟩,ao.o.symm,bR.o.set wq⟩
    simp [intOf]
   have D:Zh (z.drop i) r=q:=(by rw [ac.o];unfold bI.step;rw [aF (by rw [E];simpa using b5)]);have ao:=lh D;have cd:(l.ag1==3)=cE:=(by simpa using b5);clear D b5 E y3;go_wp2;go_roundw;case rel=>exact⟨i,J,T,M,_,q,gn,rfl,rfl,b9.o,ad.o,ao.o.symm,X.o⟩
   simp [intOf]
 obtain rfl:j=0:=gn
 go_wp2;go_ret;exact⟨⟨_,f,rfl,iK.base HO.o gn,af.o,aR.o⟩,G.o.t⟩
theorem acd(d:df)(ag0:List Int)(a:List bI)(ao:a.length=ag0.length)(J:∀j l,a[j]?=ck l->dh d.agY (ag0.getD j 0)=ck l)(A:Option cx)(n cap:Nat)(G:n<=50)(r:Rc)(C:r.InC)(w:cm)(h:d.At w)(a5:∀l∈d.agY,l.Thin)(i:dn w A n ag0)
  (bp:∀(j:Nat) (l:bI),a[j]?=ck l->l.ag3=cE->l.ag1=3->jC l.Xg l.ks l.cs=cF) :
  cv cB 71 #[d.v,cf A n cap,r.v] w λe w'=>(∃v f,e=cz v/\KA w' w.heap.size v f/\wV (Ye a r) f)/\bH [] w w':=
 (ZP d ag0 a ao J A n cap G r C w h a5 i bp).mono λ_ _ k=>by obtain⟨⟨v,f,b,c,g,_⟩,t⟩:=k;exact⟨⟨v,f,b,c,g⟩,t⟩
structure Eb(w:cm)(p B:Nat)(ds:List ug): Prop where
 ex:∃A n c,w.heap[p]?=ck (cj #[cf A n c] 85 (0,0))/\VO w B (cf A n c) ds
 lt:p<B
 le:B<=w.heap.size
theorem Eb.u{w w':cm}{p B:Nat}{ds:List ug}(h:Eb w p B ds)(T:bH [] w w'): Eb w' p B ds:=by obtain⟨A,n,c,e,f⟩:=h.ex;exact⟨⟨A,n,c,T.ox e,iK.u f T⟩,h.lt,aK h.le T.size⟩
theorem Eb.nil{w:cm}{p:Nat}(h:w.heap[p]?=ck (cj #[cf cl 0 0] 85 (0,0))): Eb w p w.heap.size []:=
 ⟨⟨cl,0,0,h,jU _ _ _⟩,(ae.1 h).1,aQ _⟩
def Past(p B:Nat)(w w':cm): Prop:=∃a,(∀b∈a,b=p\/B<=b)/\bH a w w'
theorem Past.refl(p B:Nat)(w:cm): Past p B w w:=⟨[],λ_ h=>absurd h aW,bH.refl _ _⟩
theorem Past.of{p B:Nat}{w w':cm}(T:bH [] w w'): Past p B w w':=⟨[],λ_ h=>absurd h aW,T⟩
theorem Past.t{p B:Nat}{u v w:cm}(h:Past p B u v)(k:Past p B v w): Past p B u w:=by obtain⟨a,e,f⟩:=h;obtain⟨c,d,i⟩:=k;exact⟨a++c,λb g=>(aV.1 g).elim (e b) (d b),(f.mono te).t (i.mono te)⟩
theorem Past.new{p B:Nat}{u v w:cm}(h:bH [] u v)(k:Past p B v w)(i:u.heap.size<=p)(f:p<B): bH [] u w:=by obtain⟨d,c,a⟩:=k;exact fH h a λb g=>by rcases c b g with e|e<;>omega
theorem Past.old{p B:Nat}{w w':cm}(h:Past p B w w'){q:Nat}(g:q≠p)(i:q<B)(c:q<w.heap.size): w'.heap[q]?=w.heap[q]?:=by obtain⟨d,a,f⟩:=h;exact f.old q c λb=>by rcases a q b with e|e<;>omega
theorem Past.size{p B:Nat}{w w':cm}(h:Past p B w w'): w.heap.size<=w'.heap.size:=by obtain⟨b,e,f⟩:=h;exact f.size
theorem aat(x:ug)(p B:Nat)(ds:List ug)(hn:ds.length<=1000)(w:cm)(h:Eb w p B ds):
  cv cB 69 #[x.v,ch (ck ⟨p,0,cl⟩)] w λe w'=>e=cz (.tuple #[])/\Eb w' p B (abw ds x)/\Past p B w w':=by
 have z:=iF x.r;obtain⟨A,n,c,F,Q⟩:=h.ex;have H:p<w.heap.size:=(ae.1 F).1;have U:=h.lt;have X:=h.le;have C:=(tR w).alloc (cj ⟨x.row⟩ 138);cases l:x.r.empty with
 |true=>
  rw [l]at z;have q:abw ds x=ds:=by unfold abw;rw [l];rfl
  rw [q];have P:=lh z;have G:=lh h;clear z h l q F Q H U X;obtain⟨J,D,K,L,M,O⟩:=x;simp only [ug.v,ug.row,Rc.v]at *;go_enter func69,ntmps69;go_wp2_with (go_at_call 68;refine mR (P.o _) λV j=>?_)
  go_end0;exact⟨rfl,G.o.u (C.t j),.of (C.t j)⟩
 |false=>
  rw [l]at z;have q:abw ds x=ds++[x]:=by unfold abw;rw [l];rfl
  rw [q];obtain⟨P,G,HP,a7⟩:=lh4 z Q F (af0 x);clear z h l q F Q;obtain⟨J,D,K,L,M,O⟩:=x;simp only [ug.v,ug.row,Rc.v]at *;go_enter func69,ntmps69;go_upto_region 2 with (go_at_call 68;refine mR (P.o _) λV j=>?_;obtain⟨hc,hf⟩:=bY j)
  have d:=C.t j;have S:=(d.old p H lz).t HP.o;have y0:=cO 0 (cf A n c) S;obtain⟨v',s,W,E,N,e4⟩:=kV (k:=Wu) (t:=85) underlying85 (G.o.u d) a7.o (by have:=d.size;omega) (by rw [aJ];omega) 85;have af:=nG (k:=Wu) (t:=85) underlying85 a7.o V;obtain⟨a,i,f,rfl⟩:∃A n c,v'=cf A n c:=by rcases E.form with ⟨e,_⟩|⟨_,_,_,e,_⟩<;>exact⟨_,_,_,e⟩
  have T:∀b∈dI (cf A n c),B<=b:=λb m=>(G.o.2.lt b m).1;have I:=(N.old p (aj H d.size) (λR=>by have:=T p R;omega)).t S;have y2:=cO 0 (cf A n c) I;have yf:=dm I 0;have Y:VO (s.setCell ⟨p,0,cl⟩ (cf a i f)) B (cf a i f) (ds++[⟨J,D,K,L,M,O⟩]):=by unfold VO;rw [List.map_append];exact iK.kept E ((bH.refl [p] s).setCell _ (.inl lz)) (λg hg R=>by have:=(E.2.lt g hg).1;simp at R;omega)
  have Z:(s.setCell ⟨p,0,cl⟩ (cf a i f)).heap[p]?=ck (cj #[cf a i f] 85 (0,0)):=by simp only [World.setCell,au,if_true,I];rfl
  have HF:Hid (Eb (s.setCell ⟨p,0,cl⟩ (cf a i f)) p B (ds++[⟨J,D,K,L,M,O⟩])/\Past p B w (s.setCell ⟨p,0,cl⟩ (cf a i f))):=
   lh ⟨⟨⟨a,i,f,Z,Y⟩,U,by have:=d.size;have:=N.size;simp only [World.size_setCell];omega⟩,p::dI (cf A n c),λb m=>by rcases aS.1 m with rfl|m;exact .inl rfl;exact .inr (T b m),((d.mono lz).t (N.mono te)).setCell _ (.inl lz)⟩
  have a5:=lh W;have ba:=lh af;clear W E N e4 af d j C T S I Z Y H U X;go_wp2_with (first
   |(at_builtin;refine bQ rfl (dL (v:=cf A n c) (y:=cf (ck ⟨V,0,cl⟩) 1 1) (.tmp 7) (.tmp 9) 85 rfl rfl rfl a5.o) ?_;try go_frame)
   |(refine yR 9 (dV (x:=.tmp 8) (y:=cg #[J,ci D,K,L,M,O]) rfl rfl ba.o) ?_))
  go_end0;exact⟨rfl,HF.o⟩
