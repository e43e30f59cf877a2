import Derived.Test.YtbpklgllihhgpaaGreatA42
import Derived.Test.YtbpklgllihhgpaaGreatA50
set_option maxRecDepth 100000
set_option maxHeartbeats 16000000
namespace Go.Proofs.YtbpklgllihhgpaaGreat
open Tryz Go.RowKit Go.Den
theorem LM(m:bI)(w:World)(P:Program)(hP:P=prog)(a:Act)(x:Operand)(hx:a.eval x=.agg ⟨m.row⟩)(d:Option Tmp)(ty:TypeId)(pos:String)(af:Array Edge)(g:Option (Tmp×Bool)):
  (execOp a.eval ⟨d,.field 89 x 9,ty,pos,af,g⟩).run P w=.ok (.value (.slice m.Xi m.Xh m.Xj)) w:=by
 subst hP;simp only [execOp,hx];kernel_rfl
theorem QH:∀(ks:List Int) (x:Int) (b k:Nat),Cf ks x b=some k→k<b+ks.length∧b≤k
 | [],_,_,_,h=>by cases h
 | y :: ks,x,b,k,h=>by
  unfold Cf at h;split at h
  ·cases h;simp
  have:=QH ks x (b+1) k h;rw [List.length_cons];omega
theorem CQ:∀(ls:List bI) (x p:Int) (k:Nat),kE ls x=some (p,k)→∃q∈ls,q.id=p∧k<q.kids.length
 | [],_,_,_,h=>by cases h
 | l :: ls,x,p,k,h=>by
  have ih:=fun h=>CQ ls x p k h;unfold kE at h;split at h
  ·split at h
   ·rename_i j hj;simp only [Option.some.injEq,Prod.mk.injEq]at h;obtain⟨rfl,rfl⟩:=h;exact⟨l,List.mem_cons_self,rfl,by have:=QH _ _ _ _ hj;omega⟩
   obtain⟨q,h1,h2⟩:=ih h;exact⟨q,List.mem_cons_of_mem _ h1,h2⟩
  obtain⟨q,h1,h2⟩:=ih h;exact⟨q,List.mem_cons_of_mem _ h1,h2⟩
theorem JU(d:df)(x p:Int)(k:Nat)(q:bI)(w:World)(hd:d.At w)(hth:∀l∈d.layers,l.Thin)(hpar:kE d.layers x=some (p,k))(hq:dh d.layers p=some q)(hkq:k<q.kids.length):
  Calls prog 91 #[d.v,x] w fun e w'=>(∃v,(∃A c,v=.slice A k c∧dn w' A k (q.kids.take k))∧e=.returned v)∧bH [] w w':=by
 have hP:=fun u (t:bH [] w u)=>Ef d x u (hd.turn t);rw [hpar]at hP;have hL:=fun u (t:bH [] w u)=>uu d p q hq u [] (fun b hb=>absurd hb aW) (fun u' hs ho=>(hd.turn t).keepD fun q hq=>ho q hq (by simp)) hth;simp only [VJ,UY,Option.isSome_some,df.v]at hP hL;have HP:=lh hP;have HL:=lh hL;have HKQ:=lh hkq;clear hP hL hd hth hpar hq hkq;obtain⟨W,hW⟩:∃W,W=w.alloc (.cells #[.slice d.sA d.sn d.sc,d.root,d.next,.slice d.lA d.ln d.lc] 107):=⟨_,rfl⟩;have T0:bH [] w W:=hW ▸ (tR w).alloc _;have x0:W.heap[w.heap.size]?=some (.cells #[.slice d.sA d.sn d.sc,d.root,d.next,.slice d.lA d.ln d.lc] 107 (0,0)):=by rw [hW];exact heap_alloc_new _ _
 have HX:=lh x0;obtain⟨d0,d1,d2,d3⟩:=iw x0;clear x0;unfold df.v;go_enter func91,ntmps91;go_upto_region 1 with (fail)
 rw [←hW];clear hW;go_upto_region 2 with (go_at_call 148;(with_reducible refine (HP.o _ T0).mono ?_);rintro e w1 ⟨rfl,t1⟩;obtain⟨d0,d1,d2,d3⟩:=iw (t1.ox HX.o))
 go_upto_region 4 with fail
 have T1:=T0.trans t1;clear HP t1;go_wp2_with (first
  | (go_at_call 80;(with_reducible refine (HL.o _ T1).mono ?_);rintro e w2 ⟨⟨m,hm,hst,hkc,rfl⟩,t2⟩;have hkn:m.Xh=q.kids.length∧m.kids=q.kids:=(by have h1:=hst.now.kids.1;have h2:m.kids=q.kids:=(by unfold bI.Like at hm;rw [hm]);rw [h2]at h1;exact⟨h1,h2⟩);obtain⟨A',hs1,hs2⟩:=Lj m.Xi m.Xh m.Xj k (by have:=HKQ.o;omega);have HS1:=lh hs1;have HF:=lh (bg (hs2 w2 m.kids (by have:=HKQ.o;omega) hst.now.kids) (bg hkn.2 t2));clear hm hst hkc hkn hs1 hs2 t2)
  | (refine bQ (o:=⟨some 21,_,_,_,_,_⟩) rfl (LM m _ _ rfl _ _ rfl _ _ _ _ _) ?_;try go_frame)
  | (refine bQ (o:=⟨some 23,_,_,_,_,_⟩) rfl (FK rfl rfl rfl rfl PM (HS1.o _)) ?_;try go_frame))
 go_ret;obtain⟨h1,h2,h3⟩:=HF.o;exact⟨⟨_,⟨A',m.Xj,rfl,by rw [←h2];exact h1⟩,rfl⟩,T1.trans h3⟩
theorem BF{l m:bI}(h:l.Like m): m.kind=l.kind∧m.place=l.place∧m.Xm=l.Xm∧m.tn=l.tn∧m.pts=l.pts∧m.kids=l.kids∧m.Xh=l.Xh∧m.of=l.of∧m.id=l.id:=by unfold bI.Like at h;rw [h];exact⟨rfl,rfl,rfl,rfl,rfl,rfl,rfl,rfl,rfl⟩
theorem Oc{l m:bI}(h:l.Like m)(ls:List bI): ∀n,jG ls n m=jG ls n l
 | 0=>rfl
 | n+1=>by obtain⟨e1,e2,e3,e4,e5,e6,_,e8,_⟩:=BF h;unfold jG;rw [e1,e2,e3,e4,e5,e6,e8]
structure yA(d:df): Prop where
 tidy:d.Tidy
 ok:d.Ok
 short:oP d.layers
 kn:∀l∈d.layers,l.Xh=l.kids.length
 thin:∀l∈d.layers,l.Thin
theorem yA.mem{d:df}{x:Int}{l:bI}(h:dh d.layers x=some l): l∈d.layers∧l.id=x∧∃k:Nat,d.layers[k]?=some l:=by obtain⟨k,_,hk,e⟩:=iD h;exact⟨aH hk,e,k,hk⟩
theorem yA.good{d:df}(D:yA d){x:Int}{l:bI}(h:dh d.layers x=some l): eu l.Xm=true∧(l.kind=3→jC l.Xg l.ks l.cs=true):=by obtain⟨_,_,k,hk⟩:=yA.mem h;have hg:=D.ok.good k l hk;unfold bI.good at hg;simp only [az,Bool.or_eq_true,decide_eq_true_eq]at hg;exact⟨hg.1.2,fun h3=>hg.2.resolve_left fun hn=>hn h3⟩
theorem yA.kid{d:df}(D:yA d){x:Int}{l:bI}(h:dh d.layers x=some l)(h2:l.kind=2): ∀y∈l.kids,(∃m,dh d.layers y=some m)∧d.rk y<d.rk x:=by obtain⟨_,rfl,k,hk⟩:=yA.mem h;intro y hy;have hkm:=D.ok.kids k l hk;unfold pM at hkm;rw [az,aZ]at hkm;refine⟨QP (hkm.1 y hy),KO D.tidy D.short D.ok D.kn ?_⟩;rw [rE h];unfold fZ;rw [aF (by omega)];exact hy
theorem yA.cl{d:df}(D:yA d){x:Int}{l:bI}(h:dh d.layers x=some l)(h4:l.kind=4): ∃m,dh d.layers l.of=some m∧m.kind≠3∧d.rk l.of<d.rk x:=by obtain⟨_,rfl,k,hk⟩:=yA.mem h;obtain⟨m,hm,h3⟩:=D.ok.clone k l hk h4;refine⟨m,hm,h3,KO D.tidy D.short D.ok D.kn ?_⟩;rw [rE h];unfold fZ;rw [aG h4];exact aN.2 rfl
theorem sV{d:df}(D:yA d): ∀(n:Nat) (x:Int) (l:bI),dh d.layers x=some l→l.kind≠3→d.rk x<n→∀m,l.Like m→∀u,d.At u→m.At u→
  Calls prog 52 #[d.v,m.v] u fun e w'=>e=.returned (jG d.layers n l).v∧bH [] u w'
 | 0,_,_,_,_,h,_,_,_,_,_=>absurd h (aU _)
 | n+1,x,l,hl,h3,hr,m,hm,u,hd,hat=>by
  obtain⟨hmem,_,_⟩:=yA.mem hl;have ht:=D.tidy.lay l hmem;obtain⟨hg1,_⟩:=D.good hl;obtain⟨e1,e2,e3,e4,e5,e6,e7,e8,_⟩:=BF hm;rw [←Oc hm];have hkb:=ht.kind;unfold jG;by_cases k1:m.kind=1
  ·rw [aG k1];exact Vd d m u k1 (by rw [e2];exact ht.place (.inl (e1 ▸ k1))) (by rw [e3];exact hg1) hat
  rw [aF k1];by_cases k5:m.kind=5
  ·rw [aG k5];exact Vp d m u k5 (by rw [e5];exact ht.path (e1 ▸ k5)) hat
  rw [aF k5];by_cases k4:m.kind=4
  ·rw [aG k4];obtain⟨l2,hl2,h32,hrk⟩:=D.cl hl (e1 ▸ k4);rw [e8,hl2];simp only;refine Vu d m u k4 (by rw [e2];exact ht.place (.inr (e1 ▸ k4))) (jG d.layers n l2) (lZ _ _ _) l2 (fun v t=>?_) (fun m2 v hlk t ha=>sV D n l.of l2 hl2 h32 (by omega) m2 hlk v (hd.turn t) ha);rw [e8];exact wM d l.of l2 hl2 v [] (fun b hb=>absurd hb aW) (fun u' hs ho=>(hd.turn t).keepD fun q hq=>ho q hq (by simp)) D.thin
  rw [aF k4];have k2:l.kind=2:=by omega
  have hZ:=oD (f:=jG d.layers n) (ls:=d.layers) m.kids Rc.zero (fun _ _ m _=>lZ _ _ m) qB;have h2:=VH d m u (e1.trans k2) (iW (jG d.layers n) d.layers m.kids Rc.zero) fun v t=>yJ d (jG d.layers n) m.kids m.Xi m.Xh m.Xj (by have:=hat.Xk;omega) v (hat.kids.turn t) (hd.turn t) D.thin (fun y hy=>(D.kid hl k2 y (e6 ▸ hy)).1) (fun y _ l' hl'=>(D.good hl').2) (fun l'=>lZ _ _ l') (fun y hy l' hl' hn3 m' hlk u' t' ha=>sV D n y l' hl' hn3 (by have:=(D.kid hl k2 y (e6 ▸ hy)).2;omega) m' hlk u' ((hd.turn t).turn t') ha);rw [hZ.can]at h2;exact h2
theorem PK:(prog.info? 160).map (fun i=>(i.zero,i.size))=some (some (.agg #[(0:Int),(0:Int),(0:Int),(0:Int),(0:Int)]),5):=by kernel_rfl
theorem nP(u:World): (Instr.alloc 160 true (.tuple #[])).run prog u=.ok (.pointer (some ⟨u,0,none⟩)) (u.alloc (.cells #[(0:Int),(0:Int),(0:Int),(0:Int),(0:Int)] 160)):=by unfold Instr.alloc;rw [Sem.run_bind,(zero_of_info PK).1];rfl
def oI(q:Rc): Array Value:=#[q.x0,q.y0,q.x1,q.y1,(0:Int)]
theorem iO(q:Rc){u:World}{b:Nat}(hb:u.heap[b]?=some (.cells #[(0:Int),(0:Int),(0:Int),(0:Int),(0:Int)] 160 (0,0))): (Instr.storeAt 160 (.pointer (some ⟨b,0,none⟩)) (.agg (oI q))).run prog u=.ok () (u.setRow b (oI q))∧(u.setRow b (oI q)).heap[b]?=some (.cells (oI q) 160 (0,0)):=by refine⟨jV (ty:=160) hb (zero_of_info PK).2 rfl (by simp [oI,Value.oneCell']),?_⟩;simp only [World.setRow,au,if_true,hb];rfl
structure Ut(w wr:World)(d:df)(m:bI): Prop where
 t:bH [] w wr
 h0:wr.heap[w.heap.size]?=some (.cells #[.slice d.sA d.sn d.sc,d.root,d.next,.slice d.lA d.ln d.lc] 29 (0,0))
 hl:wr.heap[w.heap.size+1]?=some (.cells ⟨m.row⟩ 89 (0,0))
 h1:wr.heap[w.heap.size+1+1]?=some (.cells (dZ Rc.zero) 24 (0,0))
theorem Ut.turn{w wr u:World}{d:df}{m:bI}(h:Ut w wr d m)(T:bH [] wr u): Ut w u d m:=
 ⟨h.t.trans T,T.ox h.h0,T.ox h.hl,T.ox h.h1⟩
theorem Tf(d:df)(m:bI)(w:World)(hk:m.kind=1)(hp:m.place.ok=true)(hr:eu m.Xm=true)(hm:m.At w):
  Calls prog 53 #[d.v,m.v] w fun e w'=>e=.returned ((mJ m.place (kH m.Xm m.tn)).can).v∧bH [] w w':=by
 have hb:=fun u (t:bH [] w u)=>FX m.Xm hr m.tA m.tn m.tc u (hm.Xm.turn t);have hb2:=G8 m.place hp (kH m.Xm m.tn) (JH hr m.tn);have hc:=uY (mJ m.place (kH m.Xm m.tn));generalize (mJ m.place (kH m.Xm m.tn)).can=cc at *;generalize mJ m.place (kH m.Xm m.tn)=q at *;generalize kH m.Xm m.tn=q0 at *;simp only [Rc.v,Af.v]at hb hb2 hc;have HB:=lh hb;have HB2:=lh hb2;have HC:=lh hc;obtain⟨W,hW⟩:∃W,W=((w.alloc (.cells #[.slice d.sA d.sn d.sc,d.root,d.next,.slice d.lA d.ln d.lc] 29)).alloc (.cells ⟨m.row⟩ 89)).alloc (.cells #[(0:Int),(0:Int),(0:Int),(0:Int)] 24):=⟨_,rfl⟩;have T0:bH [] w W:=hW ▸ (((tR w).alloc _).alloc _).alloc _;have x0:W.heap[w.heap.size]?=some (.cells #[.slice d.sA d.sn d.sc,d.root,d.next,.slice d.lA d.ln d.lc] 29 (0,0)):=hW ▸ bO (bO bN);have xl:W.heap[w.heap.size+1]?=some (.cells ⟨m.row⟩ 89 (0,0)):=hW ▸ bO bN;have x1:W.heap[w.heap.size+1+1]?=some (.cells (dZ Rc.zero) 24 (0,0)):=hW ▸ bN;have HP:Hid (Ut w W d m):=lh ⟨T0,x0,xl,x1⟩;have y1:=bJ (i:=1) xl (v:=m.kind) rfl;rw [hk]at y1;clear T0 x0 xl x1 hk hb hb2 hc hp hr hm;unfold df.v bI.v at *;go_enter func53,ntmps53;go_upto_region 1 with (fail)
 rw [←hW];clear hW;try simp only [aI]
 go_upto_region 3 with fail
 clear y1;go_cut [5] (fun s5 wx=>∃b5,s5=.pointer (some ⟨b5,0,none⟩)∧wx.heap[b5]?=some (.cells (oI q) 160 (0,0))∧bH [] W wx);case first=>
  refine sN 7 (tR W) fun Y hS=>?_;refine tk 0 (.pointer (some ⟨w.heap.size+1,7,none⟩)) ?_;go_frame;refine tk 1 (.agg #[m.place.a,m.place.b,m.place.c,m.place.d,m.place.e,m.place.f,m.place.den]) ?_ (hy:=by intro w' hw;obtain⟨a0,a1,a2,a3,a4,a5,a6⟩:=vg (HP.o.turn hw).hl;go_simp);go_frame;refine tk 2 (.pointer (some ⟨w.heap.size+1,28,none⟩)) ?_;go_frame;refine tk 3 (.agg #[.slice m.tA m.tn m.tc]) ?_ (hy:=by intro w' hw;have y:=bJ (i:=28) (HP.o.turn hw).hl (v:=.slice m.tA m.tn m.tc) rfl;go_simp);go_frame;refine cu.two (i:=4) (j:=6) rfl rfl (by kernel_rfl) rfl rfl (fun K hK=>?_) (fun K hK=>?_)
  ·go_simp;(with_reducible refine (HB.o _ (HP.o.t.trans hS)).mono ?_);rintro e Y' ⟨rfl,ht⟩;replace hS:=hS.trans ht;refine hK _ _ (fun _=>hS) ?_;clear hK K;(try go_frame);clear ht Y;obtain⟨Y,rfl⟩:∃Y,Y=Y':=⟨_,rfl⟩;refine cu.two (i:=5) (j:=6) rfl rfl (by kernel_rfl) rfl rfl (fun K hK=>?_) (fun K hK=>?_)
   ·go_simp;(with_reducible refine (HB2.o _).mono ?_);rintro e Y' ⟨rfl,ht⟩;replace hS:=hS.trans ht;refine hK _ _ (fun _=>hS) ?_;clear hK K;(try go_frame);clear ht Y;obtain⟨Y,rfl⟩:∃Y,Y=Y':=⟨_,rfl⟩;refine eH 6 fun K hK=>?_;refine bZ (d:=some 5) rfl (di (t:=160) rfl (nP _)) ?_;have hb:=heap_alloc_new Y (.cells #[(0:Int),(0:Int),(0:Int),(0:Int),(0:Int)] 160);have hbl:Y.heap.size<(Y.alloc (.cells #[(0:Int),(0:Int),(0:Int),(0:Int),(0:Int)] 160)).heap.size:=(by simp);have hbs:=hS.size;replace hS:=hS.alloc (.cells #[(0:Int),(0:Int),(0:Int),(0:Int),(0:Int)] 160);refine hK _ _ (fun _=>hS) ?_;clear hK K;(try go_frame);generalize Y.alloc (.cells #[(0:Int),(0:Int),(0:Int),(0:Int),(0:Int)] 160)=Y' at *;generalize Y.heap.size=b5 at *;clear Y;obtain⟨Y,rfl⟩:∃Y,Y=Y':=⟨_,rfl⟩;refine iZ fun K hK=>?_;refine fO (d:=none) rfl 160 (.tmp 5) (.tmp 17) rfl rfl rfl (iO q hb).1 ?_;refine hK _ _ ?_;clear hK K;(try go_frame);have hF:=(iO q hb).2;have hT:=hS.setRow (g:=b5) (oI q) (.inr hbs);(go_wp2_with fail);go_meet;exact⟨b5,rfl,hF,hT⟩
   refine bZ (d:=some 5) rfl (di (t:=160) rfl (nP _)) ?_;have hb:=heap_alloc_new Y (.cells #[(0:Int),(0:Int),(0:Int),(0:Int),(0:Int)] 160);have hbl:Y.heap.size<(Y.alloc (.cells #[(0:Int),(0:Int),(0:Int),(0:Int),(0:Int)] 160)).heap.size:=(by simp);have hbs:=hS.size;replace hS:=hS.alloc (.cells #[(0:Int),(0:Int),(0:Int),(0:Int),(0:Int)] 160);refine hK _ _ (fun _=>hS) ?_;clear hK K;(try go_frame);generalize Y.alloc (.cells #[(0:Int),(0:Int),(0:Int),(0:Int),(0:Int)] 160)=Y' at *;generalize Y.heap.size=b5 at *;clear Y;obtain⟨Y,rfl⟩:∃Y,Y=Y':=⟨_,rfl⟩;refine eH 5 fun K hK=>?_;go_simp;(with_reducible refine (HB2.o _).mono ?_);rintro e Y' ⟨rfl,ht⟩;replace hS:=hS.trans ht;refine hK _ _ (fun _=>hS) ?_;clear hK K;(try go_frame);replace hb:=(ht.old b5 hbl (by simp)).trans hb;replace hbl:=aj hbl ht.size;clear ht Y;obtain⟨Y,rfl⟩:∃Y,Y=Y':=⟨_,rfl⟩;refine iZ fun K hK=>?_;refine fO (d:=none) rfl 160 (.tmp 5) (.tmp 17) rfl rfl rfl (iO q hb).1 ?_;refine hK _ _ ?_;clear hK K;(try go_frame);have hF:=(iO q hb).2;have hT:=hS.setRow (g:=b5) (oI q) (.inr hbs);(go_wp2_with fail);go_meet;exact⟨b5,rfl,hF,hT⟩
  refine bZ (d:=some 5) rfl (di (t:=160) rfl (nP _)) ?_;have hb:=heap_alloc_new Y (.cells #[(0:Int),(0:Int),(0:Int),(0:Int),(0:Int)] 160);have hbl:Y.heap.size<(Y.alloc (.cells #[(0:Int),(0:Int),(0:Int),(0:Int),(0:Int)] 160)).heap.size:=by simp
  have hbs:=hS.size;replace hS:=hS.alloc (.cells #[(0:Int),(0:Int),(0:Int),(0:Int),(0:Int)] 160);refine hK _ _ (fun _=>hS) ?_;clear hK K;try go_frame
  generalize Y.alloc (.cells #[(0:Int),(0:Int),(0:Int),(0:Int),(0:Int)] 160)=Y' at *;generalize Y.heap.size=b5 at *;clear Y;obtain⟨Y,rfl⟩:∃Y,Y=Y':=⟨_,rfl⟩;refine eH 4 fun K hK=>?_;go_simp;(with_reducible refine (HB.o _ (HP.o.t.trans hS)).mono ?_);rintro e Y' ⟨rfl,ht⟩;replace hS:=hS.trans ht;refine hK _ _ (fun _=>hS) ?_;clear hK K;try go_frame
  replace hb:=(ht.old b5 hbl (by simp)).trans hb;replace hbl:=aj hbl ht.size;clear ht Y;obtain⟨Y,rfl⟩:∃Y,Y=Y':=⟨_,rfl⟩;refine eH 5 fun K hK=>?_;go_simp;(with_reducible refine (HB2.o _).mono ?_);rintro e Y' ⟨rfl,ht⟩;replace hS:=hS.trans ht;refine hK _ _ (fun _=>hS) ?_;clear hK K;try go_frame
  replace hb:=(ht.old b5 hbl (by simp)).trans hb;replace hbl:=aj hbl ht.size;clear ht Y;obtain⟨Y,rfl⟩:∃Y,Y=Y':=⟨_,rfl⟩;refine iZ fun K hK=>?_;refine fO (d:=none) rfl 160 (.tmp 5) (.tmp 17) rfl rfl rfl (iO q hb).1 ?_;refine hK _ _ ?_;clear hK K;try go_frame
  have hF:=(iO q hb).2;have hT:=hS.setRow (g:=b5) (oI q) (.inr hbs);go_wp2_with fail
  go_meet;exact⟨b5,rfl,hF,hT⟩
 obtain⟨b5,rfl,h5,ht⟩:=hcut;have hP:=HP.o.turn ht;have e0:=bK h5 (i:=0) (v:=q.x0) rfl;have e1:=bK h5 (i:=1) (v:=q.y0) rfl;have e2:=bK h5 (i:=2) (v:=q.x1) rfl;have e3:=bK h5 (i:=3) (v:=q.y1) rfl;have HP2:=lh hP;clear hP ht h5;go_wp2_with (go_at_call 19;(with_reducible refine (HC.o _).mono ?_);rintro e w9 ⟨rfl,ht9⟩;have hP9:=HP2.o.turn ht9;obtain⟨z0,z1,z2,z3⟩:=eG hP9.h1;have zf:=(fun i=>dm hP9.h1 i);have HT9:=lh hP9.t;clear hP9)
 exact ag (v:=.agg #[cc.x0,cc.y0,cc.x1,cc.y1]) (by simp [results,results53,go_sem,z0,z1,z2,z3]) rfl ⟨rfl,(((HT9.o.sc).sc).sc).sc⟩
theorem TB(d:df)(m:bI)(w:World)(hk:m.kind=4)(hp:m.place.ok=true)(a:Rc)(ha:a.Z)(l2:bI)(hly:∀u,bH [] w u→Calls prog 47 #[d.v,m.of] u fun e w'=>e=.returned l2.v∧bH [] u w')(har:∀u,bH [] w u→Calls prog 53 #[d.v,l2.v] u fun e w'=>e=.returned a.v∧bH [] u w'):
  Calls prog 53 #[d.v,m.v] w fun e w'=>e=.returned ((mJ m.place a).can).v∧bH [] w w':=by
 have hb2:=G8 m.place hp a ha;have hc:=uY (mJ m.place a);generalize (mJ m.place a).can=cc at *;generalize mJ m.place a=q at *;simp only [Rc.v,Af.v,df.v,bI.v]at hb2 hc hly har;have HLY:=lh hly;have HAR:=lh har;have HB2:=lh hb2;have HC:=lh hc;obtain⟨W,hW⟩:∃W,W=((w.alloc (.cells #[.slice d.sA d.sn d.sc,d.root,d.next,.slice d.lA d.ln d.lc] 29)).alloc (.cells ⟨m.row⟩ 89)).alloc (.cells #[(0:Int),(0:Int),(0:Int),(0:Int)] 24):=⟨_,rfl⟩;have T0:bH [] w W:=hW ▸ (((tR w).alloc _).alloc _).alloc _;have x0:W.heap[w.heap.size]?=some (.cells #[.slice d.sA d.sn d.sc,d.root,d.next,.slice d.lA d.ln d.lc] 29 (0,0)):=hW ▸ bO (bO bN);have xl:W.heap[w.heap.size+1]?=some (.cells ⟨m.row⟩ 89 (0,0)):=hW ▸ bO bN;have x1:W.heap[w.heap.size+1+1]?=some (.cells (dZ Rc.zero) 24 (0,0)):=hW ▸ bN;have HP:Hid (Ut w W d m):=lh ⟨T0,x0,xl,x1⟩;have y1:=bJ (i:=1) xl (v:=m.kind) rfl;rw [hk]at y1;clear T0 x0 xl x1 hk hb2 hc hp ha hly har;unfold df.v bI.v at *;go_enter func53,ntmps53;go_upto_region 1 with (fail)
 rw [←hW];clear hW;try simp only [aI]
 go_upto_region 8 with fail
 clear y1;go_cut [6] (fun s6 wx=>∃b5,s6=.pointer (some ⟨b5,0,none⟩)∧wx.heap[b5]?=some (.cells (oI q) 160 (0,0))∧bH [] W wx);case first=>
  refine sN 10 (tR W) fun Y hS=>?_;refine tk 0 (.pointer (some ⟨w.heap.size+1,7,none⟩)) ?_;go_frame;refine tk 1 (.agg #[m.place.a,m.place.b,m.place.c,m.place.d,m.place.e,m.place.f,m.place.den]) ?_ (hy:=by intro w' hw;obtain⟨a0,a1,a2,a3,a4,a5,a6⟩:=vg (HP.o.turn hw).hl;go_simp);go_frame;refine tk 2 (.agg #[.slice d.sA d.sn d.sc,d.root,d.next,.slice d.lA d.ln d.lc]) ?_ (hy:=by intro w' hw;obtain⟨d0,d1,d2,d3⟩:=iw (HP.o.turn hw).h0;go_simp);go_frame;refine tk 3 (.agg #[.slice d.sA d.sn d.sc,d.root,d.next,.slice d.lA d.ln d.lc]) ?_ (hy:=by intro w' hw;obtain⟨d0,d1,d2,d3⟩:=iw (HP.o.turn hw).h0;go_simp);go_frame;refine tk 4 (.pointer (some ⟨w.heap.size+1,16,none⟩)) ?_;go_frame;refine tk 5 m.of ?_ (hy:=by intro w' hw;have y:=bJ (i:=16) (HP.o.turn hw).hl (v:=m.of) rfl;go_simp);go_frame;refine cu.two (i:=6) (j:=9) rfl rfl (by kernel_rfl) rfl rfl (fun K hK=>?_) (fun K hK=>?_)
  ·go_simp;(with_reducible refine (HLY.o _ (HP.o.t.trans hS)).mono ?_);rintro e Y' ⟨rfl,ht⟩;replace hS:=hS.trans ht;refine hK _ _ (fun _=>hS) ?_;clear hK K;(try go_frame);clear ht Y;obtain⟨Y,rfl⟩:∃Y,Y=Y':=⟨_,rfl⟩;refine cu.two (i:=7) (j:=9) rfl rfl (by kernel_rfl) rfl rfl (fun K hK=>?_) (fun K hK=>?_)
   ·go_simp;(with_reducible refine (HAR.o _ (HP.o.t.trans hS)).mono ?_);rintro e Y' ⟨rfl,ht⟩;replace hS:=hS.trans ht;refine hK _ _ (fun _=>hS) ?_;clear hK K;(try go_frame);clear ht Y;obtain⟨Y,rfl⟩:∃Y,Y=Y':=⟨_,rfl⟩;refine cu.two (i:=8) (j:=9) rfl rfl (by kernel_rfl) rfl rfl (fun K hK=>?_) (fun K hK=>?_)
    ·go_simp;(with_reducible refine (HB2.o _).mono ?_);rintro e Y' ⟨rfl,ht⟩;replace hS:=hS.trans ht;refine hK _ _ (fun _=>hS) ?_;clear hK K;(try go_frame);clear ht Y;obtain⟨Y,rfl⟩:∃Y,Y=Y':=⟨_,rfl⟩;refine eH 9 fun K hK=>?_;refine bZ (d:=some 6) rfl (di (t:=160) rfl (nP _)) ?_;have hb:=heap_alloc_new Y (.cells #[(0:Int),(0:Int),(0:Int),(0:Int),(0:Int)] 160);have hbl:Y.heap.size<(Y.alloc (.cells #[(0:Int),(0:Int),(0:Int),(0:Int),(0:Int)] 160)).heap.size:=(by simp);have hbs:=hS.size;replace hS:=hS.alloc (.cells #[(0:Int),(0:Int),(0:Int),(0:Int),(0:Int)] 160);refine hK _ _ (fun _=>hS) ?_;clear hK K;(try go_frame);generalize Y.alloc (.cells #[(0:Int),(0:Int),(0:Int),(0:Int),(0:Int)] 160)=Y' at *;generalize Y.heap.size=b5 at *;clear Y;obtain⟨Y,rfl⟩:∃Y,Y=Y':=⟨_,rfl⟩;refine iZ fun K hK=>?_;refine fO (d:=none) rfl 160 (.tmp 6) (.tmp 37) rfl rfl rfl (iO q hb).1 ?_;refine hK _ _ ?_;clear hK K;(try go_frame);have hF:=(iO q hb).2;have hT:=hS.setRow (g:=b5) (oI q) (.inr hbs);(go_wp2_with fail);go_meet;exact⟨b5,rfl,hF,hT⟩
    refine bZ (d:=some 6) rfl (di (t:=160) rfl (nP _)) ?_;have hb:=heap_alloc_new Y (.cells #[(0:Int),(0:Int),(0:Int),(0:Int),(0:Int)] 160);have hbl:Y.heap.size<(Y.alloc (.cells #[(0:Int),(0:Int),(0:Int),(0:Int),(0:Int)] 160)).heap.size:=(by simp);have hbs:=hS.size;replace hS:=hS.alloc (.cells #[(0:Int),(0:Int),(0:Int),(0:Int),(0:Int)] 160);refine hK _ _ (fun _=>hS) ?_;clear hK K;(try go_frame);generalize Y.alloc (.cells #[(0:Int),(0:Int),(0:Int),(0:Int),(0:Int)] 160)=Y' at *;generalize Y.heap.size=b5 at *;clear Y;obtain⟨Y,rfl⟩:∃Y,Y=Y':=⟨_,rfl⟩;refine eH 8 fun K hK=>?_;go_simp;(with_reducible refine (HB2.o _).mono ?_);rintro e Y' ⟨rfl,ht⟩;replace hS:=hS.trans ht;refine hK _ _ (fun _=>hS) ?_;clear hK K;(try go_frame);replace hb:=(ht.old b5 hbl (by simp)).trans hb;replace hbl:=aj hbl ht.size;clear ht Y;obtain⟨Y,rfl⟩:∃Y,Y=Y':=⟨_,rfl⟩;refine iZ fun K hK=>?_;refine fO (d:=none) rfl 160 (.tmp 6) (.tmp 37) rfl rfl rfl (iO q hb).1 ?_;refine hK _ _ ?_;clear hK K;(try go_frame);have hF:=(iO q hb).2;have hT:=hS.setRow (g:=b5) (oI q) (.inr hbs);(go_wp2_with fail);go_meet;exact⟨b5,rfl,hF,hT⟩
   refine bZ (d:=some 6) rfl (di (t:=160) rfl (nP _)) ?_;have hb:=heap_alloc_new Y (.cells #[(0:Int),(0:Int),(0:Int),(0:Int),(0:Int)] 160);have hbl:Y.heap.size<(Y.alloc (.cells #[(0:Int),(0:Int),(0:Int),(0:Int),(0:Int)] 160)).heap.size:=(by simp);have hbs:=hS.size;replace hS:=hS.alloc (.cells #[(0:Int),(0:Int),(0:Int),(0:Int),(0:Int)] 160);refine hK _ _ (fun _=>hS) ?_;clear hK K;(try go_frame);generalize Y.alloc (.cells #[(0:Int),(0:Int),(0:Int),(0:Int),(0:Int)] 160)=Y' at *;generalize Y.heap.size=b5 at *;clear Y;obtain⟨Y,rfl⟩:∃Y,Y=Y':=⟨_,rfl⟩;refine eH 7 fun K hK=>?_;go_simp;(with_reducible refine (HAR.o _ (HP.o.t.trans hS)).mono ?_);rintro e Y' ⟨rfl,ht⟩;replace hS:=hS.trans ht;refine hK _ _ (fun _=>hS) ?_;clear hK K;(try go_frame);replace hb:=(ht.old b5 hbl (by simp)).trans hb;replace hbl:=aj hbl ht.size;clear ht Y;obtain⟨Y,rfl⟩:∃Y,Y=Y':=⟨_,rfl⟩;refine eH 8 fun K hK=>?_;go_simp;(with_reducible refine (HB2.o _).mono ?_);rintro e Y' ⟨rfl,ht⟩;replace hS:=hS.trans ht;refine hK _ _ (fun _=>hS) ?_;clear hK K;(try go_frame);replace hb:=(ht.old b5 hbl (by simp)).trans hb;replace hbl:=aj hbl ht.size;clear ht Y;obtain⟨Y,rfl⟩:∃Y,Y=Y':=⟨_,rfl⟩;refine iZ fun K hK=>?_;refine fO (d:=none) rfl 160 (.tmp 6) (.tmp 37) rfl rfl rfl (iO q hb).1 ?_;refine hK _ _ ?_;clear hK K;(try go_frame);have hF:=(iO q hb).2;have hT:=hS.setRow (g:=b5) (oI q) (.inr hbs);(go_wp2_with fail);go_meet;exact⟨b5,rfl,hF,hT⟩
  refine bZ (d:=some 6) rfl (di (t:=160) rfl (nP _)) ?_;have hb:=heap_alloc_new Y (.cells #[(0:Int),(0:Int),(0:Int),(0:Int),(0:Int)] 160);have hbl:Y.heap.size<(Y.alloc (.cells #[(0:Int),(0:Int),(0:Int),(0:Int),(0:Int)] 160)).heap.size:=by simp
  have hbs:=hS.size;replace hS:=hS.alloc (.cells #[(0:Int),(0:Int),(0:Int),(0:Int),(0:Int)] 160);refine hK _ _ (fun _=>hS) ?_;clear hK K;try go_frame
  generalize Y.alloc (.cells #[(0:Int),(0:Int),(0:Int),(0:Int),(0:Int)] 160)=Y' at *;generalize Y.heap.size=b5 at *;clear Y;obtain⟨Y,rfl⟩:∃Y,Y=Y':=⟨_,rfl⟩;refine eH 6 fun K hK=>?_;go_simp;(with_reducible refine (HLY.o _ (HP.o.t.trans hS)).mono ?_);rintro e Y' ⟨rfl,ht⟩;replace hS:=hS.trans ht;refine hK _ _ (fun _=>hS) ?_;clear hK K;try go_frame
  replace hb:=(ht.old b5 hbl (by simp)).trans hb;replace hbl:=aj hbl ht.size;clear ht Y;obtain⟨Y,rfl⟩:∃Y,Y=Y':=⟨_,rfl⟩;refine eH 7 fun K hK=>?_;go_simp;(with_reducible refine (HAR.o _ (HP.o.t.trans hS)).mono ?_);rintro e Y' ⟨rfl,ht⟩;replace hS:=hS.trans ht;refine hK _ _ (fun _=>hS) ?_;clear hK K;try go_frame
  replace hb:=(ht.old b5 hbl (by simp)).trans hb;replace hbl:=aj hbl ht.size;clear ht Y;obtain⟨Y,rfl⟩:∃Y,Y=Y':=⟨_,rfl⟩;refine eH 8 fun K hK=>?_;go_simp;(with_reducible refine (HB2.o _).mono ?_);rintro e Y' ⟨rfl,ht⟩;replace hS:=hS.trans ht;refine hK _ _ (fun _=>hS) ?_;clear hK K;try go_frame
  replace hb:=(ht.old b5 hbl (by simp)).trans hb;replace hbl:=aj hbl ht.size;clear ht Y;obtain⟨Y,rfl⟩:∃Y,Y=Y':=⟨_,rfl⟩;refine iZ fun K hK=>?_;refine fO (d:=none) rfl 160 (.tmp 6) (.tmp 37) rfl rfl rfl (iO q hb).1 ?_;refine hK _ _ ?_;clear hK K;try go_frame
  have hF:=(iO q hb).2;have hT:=hS.setRow (g:=b5) (oI q) (.inr hbs);go_wp2_with fail
  go_meet;exact⟨b5,rfl,hF,hT⟩
 obtain⟨b5,rfl,h5,ht⟩:=hcut;have hP:=HP.o.turn ht;have e0:=bK h5 (i:=0) (v:=q.x0) rfl;have e1:=bK h5 (i:=1) (v:=q.y0) rfl;have e2:=bK h5 (i:=2) (v:=q.x1) rfl;have e3:=bK h5 (i:=3) (v:=q.y1) rfl;have HP2:=lh hP;clear hP ht h5;go_wp2_with (go_at_call 19;(with_reducible refine (HC.o _).mono ?_);rintro e w9 ⟨rfl,ht9⟩;have hP9:=HP2.o.turn ht9;obtain⟨z0,z1,z2,z3⟩:=eG hP9.h1;have zf:=(fun i=>dm hP9.h1 i);have HT9:=lh hP9.t;clear hP9)
 exact ag (v:=.agg #[cc.x0,cc.y0,cc.x1,cc.y1]) (by simp [results,results53,go_sem,z0,z1,z2,z3]) rfl ⟨rfl,(((HT9.o.sc).sc).sc).sc⟩
theorem Sr(d:df)(m:bI)(w:World)(hk:m.kind=5)(hpb:jy m.pts=true)(hm:m.At w):
  Calls prog 53 #[d.v,m.v] w fun e w'=>e=.returned (((gY m.pts).meet (gY m.pts)).can).v∧bH [] w w':=by
 have hb:=fun u (t:bH [] w u)=>Hw m.pts hpb m.pA m.pn m.pc u (hm.pts.turn t);have hc:=uY ((gY m.pts).meet (gY m.pts));generalize ((gY m.pts).meet (gY m.pts)).can=cc at *;generalize (gY m.pts).meet (gY m.pts)=q at *;simp only [Rc.v]at hb hc;have HB:=lh hb;have HC:=lh hc;obtain⟨W,hW⟩:∃W,W=((w.alloc (.cells #[.slice d.sA d.sn d.sc,d.root,d.next,.slice d.lA d.ln d.lc] 29)).alloc (.cells ⟨m.row⟩ 89)).alloc (.cells #[(0:Int),(0:Int),(0:Int),(0:Int)] 24):=⟨_,rfl⟩;have T0:bH [] w W:=hW ▸ (((tR w).alloc _).alloc _).alloc _;have x0:W.heap[w.heap.size]?=some (.cells #[.slice d.sA d.sn d.sc,d.root,d.next,.slice d.lA d.ln d.lc] 29 (0,0)):=hW ▸ bO (bO bN);have xl:W.heap[w.heap.size+1]?=some (.cells ⟨m.row⟩ 89 (0,0)):=hW ▸ bO bN;have x1:W.heap[w.heap.size+1+1]?=some (.cells (dZ Rc.zero) 24 (0,0)):=hW ▸ bN;have HP:Hid (Ut w W d m):=lh ⟨T0,x0,xl,x1⟩;have y1:=bJ (i:=1) xl (v:=m.kind) rfl;rw [hk]at y1;clear T0 x0 xl x1 hk hb hc hpb hm;unfold df.v bI.v at *;go_enter func53,ntmps53;go_upto_region 1 with (fail)
 rw [←hW];clear hW;try simp only [aI]
 go_upto_region 6 with fail
 clear y1;have y27:=bJ (i:=27) HP.o.hl (v:=.slice m.pA m.pn m.pc) rfl;go_wp2_with (first
  | (go_at_call 94;(with_reducible refine (HB.o _ HP.o.t).mono ?_);rintro e Y ⟨rfl,ht⟩;have HP2:=lh (HP.o.turn ht))
  | (go_at_call 19;(with_reducible refine (HC.o _).mono ?_);rintro e w9 ⟨rfl,ht9⟩;have hP9:=HP2.o.turn ht9;obtain⟨z0,z1,z2,z3⟩:=eG hP9.h1;have zf:=(fun i=>dm hP9.h1 i);have HT9:=lh hP9.t;clear hP9))
 exact ag (v:=.agg #[cc.x0,cc.y0,cc.x1,cc.y1]) (by simp [results,results53,go_sem,z0,z1,z2,z3]) rfl ⟨rfl,(((HT9.o.sc).sc).sc).sc⟩
theorem Uj(d:df)(m:bI)(w:World)(hk:m.kind=2)(cc:Rc)(_:m.Xh≤50)(hsm:∀u,bH [] w u→Calls prog 95 #[d.v,.slice m.Xi m.Xh m.Xj,m.Xh] u fun e w'=>e=.returned cc.v∧bH [] u w'):
  Calls prog 53 #[d.v,m.v] w fun e w'=>e=.returned (cc).v∧bH [] w w':=by
 simp only [Rc.v,df.v]at hsm;have HB:=lh hsm;obtain⟨W,hW⟩:∃W,W=((w.alloc (.cells #[.slice d.sA d.sn d.sc,d.root,d.next,.slice d.lA d.ln d.lc] 29)).alloc (.cells ⟨m.row⟩ 89)).alloc (.cells #[(0:Int),(0:Int),(0:Int),(0:Int)] 24):=⟨_,rfl⟩;have T0:bH [] w W:=hW ▸ (((tR w).alloc _).alloc _).alloc _;have x0:W.heap[w.heap.size]?=some (.cells #[.slice d.sA d.sn d.sc,d.root,d.next,.slice d.lA d.ln d.lc] 29 (0,0)):=hW ▸ bO (bO bN);have xl:W.heap[w.heap.size+1]?=some (.cells ⟨m.row⟩ 89 (0,0)):=hW ▸ bO bN;have x1:W.heap[w.heap.size+1+1]?=some (.cells (dZ Rc.zero) 24 (0,0)):=hW ▸ bN;have HP:Hid (Ut w W d m):=lh ⟨T0,x0,xl,x1⟩;have y1:=bJ (i:=1) xl (v:=m.kind) rfl;rw [hk]at y1;clear T0 x0 xl x1 hk hsm;unfold df.v bI.v at *;go_enter func53,ntmps53;go_upto_region 1 with (fail)
 rw [←hW];clear hW;try simp only [aI]
 go_upto_region 11 with fail
 clear y1;have y15:=bJ (i:=15) HP.o.hl (v:=.slice m.Xi m.Xh m.Xj) rfl;obtain⟨d0,d1,d2,d3⟩:=iw HP.o.h0;go_wp2_with (go_at_call 95;(with_reducible refine (HB.o _ HP.o.t).mono ?_);rintro e w9 ⟨rfl,ht9⟩;have hP9:=HP.o.turn ht9;obtain⟨z0,z1,z2,z3⟩:=eG hP9.h1;have zf:=(fun i=>dm hP9.h1 i);have HT9:=lh hP9.t;clear hP9)
 exact ag (v:=.agg #[cc.x0,cc.y0,cc.x1,cc.y1]) (by simp [results,results53,go_sem,z0,z1,z2,z3]) rfl ⟨rfl,(((HT9.o.sc).sc).sc).sc⟩
theorem TQ(d:df)(m:bI)(w:World)(hk:m.kind=3)(a:Rc)(ha:a.Z)(hm:m.At w)(p:Int)(k:Nat)(_:k≤50)(q2:bI)(hpar:∀u,bH [] w u→Calls prog 96 #[d.v,m.id] u fun e w'=>e=.returned (.agg #[p,k,.bool true])∧bH [] u w')(hly:∀u,bH [] w u→Calls prog 47 #[d.v,p] u fun e w'=>e=.returned q2.v∧bH [] u w')(hsm:∀u,bH [] w u→Calls prog 95 #[d.v,.slice q2.Xi q2.Xh q2.Xj,k] u fun e w'=>e=.returned a.v∧bH [] u w'):
  Calls prog 53 #[d.v,m.v] w fun e w'=>e=.returned ((m.spread a).can).v∧bH [] w w':=by
 have hsp:=fun u (t:bH [] w u)=>zJ m.Xg m.ks m.cs a ha.bd u (hm.ks.turn t) (hm.cs.turn t);rw [show m.Xg.area (jC m.Xg m.ks m.cs) a 1=m.spread a from rfl]at hsp;have hc:=uY (m.spread a);generalize (m.spread a).can=cc at *;generalize m.spread a=q at *;simp only [Rc.v,Fv.v,df.v,bI.v]at hsp hc hpar hly hsm;have HPAR:=lh hpar;have HLY:=lh hly;have HSM:=lh hsm;have HSP:=lh hsp;have HC:=lh hc;obtain⟨W,hW⟩:∃W,W=((w.alloc (.cells #[.slice d.sA d.sn d.sc,d.root,d.next,.slice d.lA d.ln d.lc] 29)).alloc (.cells ⟨m.row⟩ 89)).alloc (.cells #[(0:Int),(0:Int),(0:Int),(0:Int)] 24):=⟨_,rfl⟩;have T0:bH [] w W:=hW ▸ (((tR w).alloc _).alloc _).alloc _;have x0:W.heap[w.heap.size]?=some (.cells #[.slice d.sA d.sn d.sc,d.root,d.next,.slice d.lA d.ln d.lc] 29 (0,0)):=hW ▸ bO (bO bN);have xl:W.heap[w.heap.size+1]?=some (.cells ⟨m.row⟩ 89 (0,0)):=hW ▸ bO bN;have x1:W.heap[w.heap.size+1+1]?=some (.cells (dZ Rc.zero) 24 (0,0)):=hW ▸ bN;have HP:Hid (Ut w W d m):=lh ⟨T0,x0,xl,x1⟩;have y1:=bJ (i:=1) xl (v:=m.kind) rfl;rw [hk]at y1;clear T0 x0 xl x1 hk hsp hc ha hm hpar hly hsm;unfold df.v bI.v at *;go_enter func53,ntmps53;go_upto_region 1 with (fail)
 rw [←hW];clear hW;try simp only [aI]
 go_upto_region 12 with fail
 clear y1;have y0:=bJ (i:=0) HP.o.hl (v:=m.id) rfl;obtain⟨d0,d1,d2,d3⟩:=iw HP.o.h0;go_upto_region 13 with (go_at_call 96;(with_reducible refine (HPAR.o _ HP.o.t).mono ?_);rintro e w3 ⟨rfl,ht3⟩)
 obtain⟨V,hV⟩:∃V,V=w3.alloc (.cells #[p,k,.bool true] 168):=⟨_,rfl⟩;have TV:bH [] W V:=hV ▸ ht3.alloc _;have h7:V.heap[w3.heap.size]?=some (.cells #[p,k,.bool true] 168 (0,0)):=by rw [hV];exact heap_alloc_new _ _
 rw [←hV];have hP:=HP.o.turn TV;have H7:=lh h7;clear hV TV ht3 h7 HP y0 d0 d1 d2 d3;have HP:=lh hP;clear hP;generalize w3.heap.size=b7 at *;generalize hWV:W=W0 at *;clear hWV;obtain⟨W,rfl⟩:∃W,W=V:=⟨_,rfl⟩;refine sN 13 (tR W) fun Y hS=>?_;refine tk 0 (.pointer (some ⟨w.heap.size+1,17,none⟩)) ?_;go_frame;refine tk 1 (.agg #[m.Xg.kind,m.Xg.Xf,.slice m.Xg.kA m.Xg.kn m.Xg.kc,m.Xg.div,m.Xg.value,.slice m.Xg.cA m.Xg.cn m.Xg.cc]) ?_ (hy:=by intro w' hw;obtain⟨g0,g1,g2,g3,g4,g5⟩:=ve (HP.o.turn hw).hl;go_simp);go_frame;refine tk 2 (.agg #[.slice d.sA d.sn d.sc,d.root,d.next,.slice d.lA d.ln d.lc]) ?_ (hy:=by intro w' hw;obtain⟨d0,d1,d2,d3⟩:=iw (HP.o.turn hw).h0;go_simp);go_frame;refine tk 3 (.agg #[.slice d.sA d.sn d.sc,d.root,d.next,.slice d.lA d.ln d.lc]) ?_ (hy:=by intro w' hw;obtain⟨d0,d1,d2,d3⟩:=iw (HP.o.turn hw).h0;go_simp);go_frame;refine tk 4 (.pointer (some ⟨b7,0,none⟩)) ?_;go_frame;refine tk 5 p ?_ (hy:=by intro w' hw;have y:=bK (hw.ox H7.o) (i:=0) (v:=p) rfl;go_simp);go_frame;refine tk 8 (.pointer (some ⟨b7,1,none⟩)) ?_;go_frame;refine tk 9 k ?_ (hy:=by intro w' hw;have y:=bK (hw.ox H7.o) (i:=1) (v:=k) rfl;go_simp);go_frame;refine eH 6 fun K hK=>?_;go_simp;(with_reducible refine (HLY.o _ (HP.o.t.trans hS)).mono ?_);rintro e Y' ⟨rfl,ht⟩;replace hS:=hS.trans ht;refine hK _ _ (fun _=>hS) ?_;clear hK K;try go_frame
 clear ht Y;obtain⟨Y,rfl⟩:∃Y,Y=Y':=⟨_,rfl⟩;refine tk 7 (.slice q2.Xi q2.Xh q2.Xj) ?_ rfl (hy:=fun w' hw=>LM q2 _ _ rfl _ _ rfl _ _ _ _ _);go_frame;refine eH 10 fun K hK=>?_;go_simp;(with_reducible refine (HSM.o _ (HP.o.t.trans hS)).mono ?_);rintro e Y' ⟨rfl,ht⟩;replace hS:=hS.trans ht;refine hK _ _ (fun _=>hS) ?_;clear hK K;try go_frame
 clear ht Y;obtain⟨Y,rfl⟩:∃Y,Y=Y':=⟨_,rfl⟩;refine eH 11 fun K hK=>?_;go_simp;(with_reducible refine (HSP.o _ (HP.o.t.trans hS)).mono ?_);rintro e Y' ⟨rfl,ht⟩;replace hS:=hS.trans ht;refine hK _ _ (fun _=>hS) ?_;clear hK K;try go_frame
 clear ht Y;obtain⟨Y,rfl⟩:∃Y,Y=Y':=⟨_,rfl⟩;refine eH 12 fun K hK=>?_;go_simp;(with_reducible refine (HC.o _).mono ?_);rintro e Y' ⟨rfl,ht⟩;replace hS:=hS.trans ht;refine hK _ _ (fun _=>hS) ?_;clear hK K;try go_frame
 clear ht Y;obtain⟨Y,rfl⟩:∃Y,Y=Y':=⟨_,rfl⟩;have hP9:=HP.o.turn hS;obtain⟨z0,z1,z2,z3⟩:=eG hP9.h1;have zf:=fun i=>dm hP9.h1 i;have HT9:=lh hP9.t;clear hP9;refine iZ fun K hK=>?_;go_simp;refine hK _ _ ?_;clear hK K;try go_frame
 go_wp2_with fail
 exact ag (v:=.agg #[cc.x0,cc.y0,cc.x1,cc.y1]) (by simp [results,results53,go_sem,z0,z1,z2,z3]) rfl ⟨rfl,(((HT9.o.sc).sc).sc).sc⟩
theorem sU{d:df}(D:yA d): ∀(n:Nat) (x:Int) (l:bI),dh d.layers x=some l→l.kind≠3→d.rk x<n→∀u,d.At u→
  Calls prog 53 #[d.v,l.v] u fun e w'=>e=.returned (jG d.layers n l).v∧bH [] u w'
 | 0,_,_,_,_,h,_,_=>absurd h (aU _)
 | n+1,x,m,hl,h3,hr,u,hd=>by
  have hat:=nH hl hd;obtain⟨hmem,_,_⟩:=yA.mem hl;have ht:=D.tidy.lay m hmem;obtain⟨hg1,_⟩:=D.good hl;have hkb:=ht.kind;unfold jG;by_cases k1:m.kind=1
  ·rw [aG k1];exact Tf d m u k1 (ht.place (.inl k1)) hg1 hat
  rw [aF k1];by_cases k5:m.kind=5
  ·rw [aG k5];exact Sr d m u k5 (ht.path k5) hat
  rw [aF k5];by_cases k4:m.kind=4
  ·rw [aG k4];obtain⟨l2,hl2,h32,hrk⟩:=D.cl hl k4;rw [hl2];simp only;exact TB d m u k4 (ht.place (.inr k4)) (jG d.layers n l2) (lZ _ _ _) l2 (fun v t=>zq d m.of l2 hl2 v (hd.turn t)) (fun v t=>sU D n m.of l2 hl2 h32 (by omega) v (hd.turn t))
  rw [aF k4];have k2:m.kind=2:=by omega
  have h2:=Uj d m u k2 (iW (jG d.layers n) d.layers m.kids Rc.zero) hat.Xk fun v t=>by have h4:=Hq d (jG d.layers n) m.kids m.Xi m.Xh m.Xh m.Xj hat.Xk (aQ _) v (hat.kids.turn t) (hd.turn t) (fun y hy=>(D.kid hl k2 y hy).1) (fun y _ l' hl'=>(D.good hl').2) (fun l'=>lZ _ _ l') (fun y hy l' hl' hn3 u' t'=>sU D n y l' hl' hn3 (by have:=(D.kid hl k2 y hy).2;omega) u' ((hd.turn t).turn t'));rw [aY (by have:=hat.kids.1;omega)]at h4;exact h4
  exact h2
theorem Uh{ls:List bI}(hp:(ls.map (·.id)).Pairwise (· < ·)){k:Nat}{q:bI}(h:ls[k]?=some q): dh ls q.id=some q:=by
 have hk:(ls.map (·.id))[k]?=some q.id:=by rw [aP,h];rfl
 have ha:=vS hk fun i hi e=>by obtain⟨h1,e1⟩:=ah.1 hk;obtain⟨h2,e2⟩:=ah.1 e;have:=List.pairwise_iff_getElem.1 hp i k h2 h1 hi;omega
 unfold dh;rw [ha];exact h
theorem Hr:∀(ks:List Int) (x:Int) (b:Nat),Cf ks x b=none→x∉ks
 | [],_,_,_=>aW
 | y :: ks,x,b,h=>by
  unfold Cf at h;split at h
  ·cases h
  rename_i hn;have:=Hr ks x (b+1) h;simp only [aS,not_or];exact⟨fun e=>hn e.symm,this⟩
theorem xq:∀(ls:List bI) (x:Int),kE ls x=none→∀l∈ls,l.kind=2→x∉l.kids
 | [],_,_,_,h,_=>absurd h aW
 | a :: ls,x,h,l,hl,h2=>by
  unfold kE at h;split at h
  ·rename_i ha;split at h
   ·cases h
   rename_i hi;rcases aS.1 hl with rfl | hl
   ·exact Hr _ _ _ hi
   exact xq ls x h l hl h2
  rename_i ha;rcases aS.1 hl with rfl | hl
  ·exact absurd h2 ha
  exact xq ls x h l hl h2
theorem yA.Xq{d:df}(D:yA d){l:bI}(h:l∈d.layers)(h2:l.kind≠2): l.kids=[]:=by have h0:=(D.tidy.lay l h).Xq h2;rw [D.kn l h]at h0;exact List.eq_nil_of_length_eq_zero h0
theorem yA.par{d:df}(D:yA d){x:Int}{l:bI}(h:dh d.layers x=some l)(h3:l.kind=3): ∃p k q,kE d.layers x=some (p,k)∧dh d.layers p=some q∧q.kind=2∧k<q.kids.length:=by
 obtain⟨hm,e,k0,hk0⟩:=yA.mem h;have hkm:=D.ok.kids k0 l hk0;unfold pM at hkm;rw [az,e]at hkm;have hroot:x≠d.root:=fun e2=>by obtain⟨r,hr,h2⟩:=D.tidy.root;rw [←e2,h]at hr;injection hr with hr;rw [hr]at h3;omega
 have hc:=hkm.2;rw [aF hroot,beq_iff_eq]at hc;unfold jJ at hc;rw [List.take_length]at hc;have hx:x∈((d.layers.map (·.kids)).flatten):=List.count_pos_iff.1 (by omega);obtain⟨ks,hks,hxk⟩:=List.mem_flatten.1 hx;obtain⟨q,hq,rfl⟩:=List.mem_map.1 hks;have hq2:q.kind=2:=by
  by_cases h2:q.kind=2
  ·exact h2
  rw [D.Xq hq h2]at hxk;cases hxk
 cases hp:kE d.layers x with
 | none=>exact absurd hxk (xq _ _ hp q hq hq2)
 | some pk=>
  obtain⟨p,k⟩:=pk;obtain⟨q',hq',rfl,hlt⟩:=CQ _ _ _ _ hp;obtain⟨j,hj⟩:=bu.1 hq';refine⟨_,k,q',rfl,Uh D.tidy.inc hj,?_,hlt⟩;by_cases h2:q'.kind=2
  ·exact h2
  rw [D.Xq hq' h2]at hlt;cases hlt
theorem KC(d:df)(y:Int): d.rk y<3000:=by have:=qN d.layers 2502 y;unfold df.rk;omega
theorem Ik{d:df}{x p:Int}{k:Nat}{q:bI}(h:kE d.layers x=some (p,k))(hq:dh d.layers p=some q): JW d.layers x=q.kids.take k:=by unfold JW;rw [h];simp only;rw [hq]
theorem Kt{d:df}(D:yA d)(x:Int)(l:bI)(hl:dh d.layers x=some l)(m:bI)(hm:l.Like m)(u:World)(hd:d.At u)(hat:m.At u):
  Calls prog 52 #[d.v,m.v] u fun e w'=>e=.returned (uk d.layers 3000 l).v∧bH [] u w':=by
 unfold uk;by_cases h3:l.kind=3
 ·rw [aG h3];obtain⟨p,k,q,hp,hq,hq2,hk⟩:=D.par hl h3;obtain⟨e1,_,_,_,_,_,_,_,e9⟩:=BF hm;have hx:l.id=x:=(yA.mem hl).2.1;rw [hx,Ik hp hq,←yN hm];have hqa:=nH hq hd;refine UT d m u (e1.trans h3) (iW (jG d.layers 3000) d.layers (q.kids.take k) Rc.zero) (oD _ _ (fun _ _ m _=>lZ _ _ m) qB) (BN hm ((D.good hl).2 h3)) hat (fun w' v=>∃A c,v=.slice A k c∧dn w' A k (q.kids.take k)) (fun v t=>?_) (fun v s t hs=>?_)
  ·rw [e9,hx];exact JU d x p k q v (hd.turn t) D.thin hp hq hk
  obtain⟨A,c,rfl,hi⟩:=hs;exact yJ d (jG d.layers 3000) (q.kids.take k) A k c (by have h1:=hqa.Xk;have h2:=hqa.kids.1;omega) v hi (hd.turn t) D.thin (fun y hy=>(D.kid hq hq2 y (List.mem_of_mem_take hy)).1) (fun y _ l' hl'=>(D.good hl').2) (fun l'=>lZ _ _ l') (fun y _ l' hl' hn3 m' hlk u' t' ha=>sV D 3000 y l' hl' hn3 (KC d y) m' hlk u' ((hd.turn t).turn t') ha)
 rw [aF h3];exact sV D 3000 x l hl h3 (KC d x) m hm u hd hat
theorem Ou{d:df}(D:yA d)(x:Int)(l:bI)(hl:dh d.layers x=some l)(u:World)(hd:d.At u):
  Calls prog 53 #[d.v,l.v] u fun e w'=>e=.returned (uk d.layers 3000 l).v∧bH [] u w':=by
 have hat:=nH hl hd;unfold uk;by_cases h3:l.kind=3
 ·rw [aG h3];obtain⟨p,k,q,hp,hq,hq2,hk⟩:=D.par hl h3;have hx:l.id=x:=(yA.mem hl).2.1;rw [hx,Ik hp hq];have hqa:=nH hq hd;have hk50:k≤q.Xh:=by have h2:=hqa.kids.1;omega
  refine TQ d l u h3 (iW (jG d.layers 3000) d.layers (q.kids.take k) Rc.zero) (oD _ _ (fun _ _ m _=>lZ _ _ m) qB) hat p k (by have h1:=hqa.Xk;omega) q (fun v t=>?_) (fun v t=>zq d p q hq v (hd.turn t)) (fun v t=>Hq d (jG d.layers 3000) q.kids q.Xi q.Xh k q.Xj hqa.Xk hk50 v (hqa.kids.turn t) (hd.turn t) (fun y hy=>(D.kid hq hq2 y hy).1) (fun y _ l' hl'=>(D.good hl').2) (fun l'=>lZ _ _ l') (fun y hy l' hl' hn3 u' t'=>sU D 3000 y l' hl' hn3 (KC d y) u' ((hd.turn t).turn t')));have h1:=Gq d x v (hd.turn t);rw [hp]at h1;rw [hx];exact h1
 rw [aF h3];exact sU D 3000 x l hl h3 (KC d x) u hd
def iJ(d:df)(bad:Option Nat)(id:Int): Option Rc:=match bad with
 | some _=>none
 | none=>(dh d.layers id).map (uk d.layers 3000)
theorem Oq(d:df)(bad:Option Nat)(id:Int)(w:World)(h:d.At w)(hc:E5 d bad)(hth:∀l∈d.layers,l.Thin):
  Calls prog 39 #[d.v,id] w fun e w'=>(∃(E:df) (m:bI) (b:Bool),e=.returned (.tuple #[E.v,m.v,.bool b])∧(b=true→bad=none∧E=d∧(∃l,dh d.layers id=some l∧l.Like m)∧gG [] w' fun u=>m.At u)∧(b=false→iJ d bad id=none))∧bH [] w w':=by
 have h0:gG [] w fun u=>d.At u:=fun u hs ho=>h.keepD fun q hq=>ho q hq (by simp);cases bad with
 | none=>
  refine (AA d id w [] (fun b hb=>absurd hb aW) h0 hth true 0 0 (fun e=>by cases e) (fun _=>rfl) (fun u t=>(Dc d none u (h.turn t) hc).mono fun e w' hh=>hh)).mono ?_;rintro e w' ⟨hW,hT⟩;refine⟨?_,hT⟩;unfold sD at hW;rw [aG rfl]at hW;unfold Ky at hW;cases hla:dh d.layers id with
  | none=>
   rw [hla]at hW;exact⟨d,dF,false,hW,fun hb=>(by cases hb),fun _=>(by unfold iJ;simp only;rw [hla];rfl)⟩
  | some l=>
   rw [hla]at hW;obtain⟨m,h1,h2,h3⟩:=hW;exact⟨d,m,true,h3,fun _=>⟨rfl,rfl,⟨l,rfl,h1⟩,h2⟩,fun hb=>(by cases hb)⟩
 | some i=>
  obtain⟨lb,hlb,_⟩:=hc.badl i rfl;refine (AA d id w [] (fun b hb=>absurd hb aW) h0 hth false 1 lb.id (fun _=>by decide) (fun e=>by cases e) (fun u t=>(Dc d (some i) u (h.turn t) hc).mono fun e w' hh=>⟨?_,hh.2⟩)).mono ?_
  ·obtain⟨l2,h2,h3⟩:=hh.1;obtain rfl:lb=l2:=(by rw [hlb]at h2;injection h2);exact h3
  rintro e w' ⟨hW,hT⟩;refine⟨?_,hT⟩;unfold sD at hW;rw [aF (by simp)]at hW;exact⟨⟨none,0,0,[],0,0,none,0,0,[]⟩,dF,false,hW,fun hb=>(by cases hb),fun _=>rfl⟩
theorem BQ(d:df)(bad:Option Nat)(id:Int)(w:World)(h:d.At w)(hc:E5 d bad)(hth:∀l∈d.layers,l.Thin)(hD:bad=none→yA d):
  Calls prog 16 #[d.v,id] w fun e w'=>e=.returned (.tuple #[((iJ d bad id).getD Rc.zero).v,.bool (iJ d bad id).isSome])∧bH [] w w':=by
 obtain⟨W,hW⟩:∃W,W=(w.alloc (.cells #[.slice d.sA d.sn d.sc,d.root,d.next,.slice d.lA d.ln d.lc] 29)).alloc (.cells #[(0:Int),(0:Int),(0:Int),(0:Int)] 24):=⟨_,rfl⟩;have T0:bH [] w W:=by rw [hW];exact ((tR w).alloc _).alloc _
 have x0:W.heap[w.heap.size]?=some (.cells #[.slice d.sA d.sn d.sc,d.root,d.next,.slice d.lA d.ln d.lc] 29 (0,0)):=hW ▸ bO bN;have x1:W.heap[w.heap.size+1]?=some (.cells (dZ Rc.zero) 24 (0,0)):=hW ▸ bN;have hwk:=Oq d bad id W (h.turn T0) hc hth;obtain⟨q0,q1,q2,q3⟩:=iw x0;have HWK:=lh hwk;have HX1:=lh x1;have HT0:=lh T0;have HA:=lh h;have HDD:=lh hD;have HAL:=lh gI;clear hwk x0 x1 T0 h hc hth hD;unfold df.v at *;go_enter func16,ntmps16;go_upto_region 1 with fail
 rw [←hW];clear hW;go_upto_region 2 with (first
  | (go_at_call 39;refine HWK.o.mono ?_;rintro e w1 ⟨⟨E,m,bb,rfl,hm1,hm2⟩,ht1⟩;have HM:=lh (bg hm1 hm2);have HT1:=lh ht1;clear hm1 hm2 ht1;unfold bI.v)
  | (refine bQ (o:=⟨some 7,_,_,_,_,_⟩) rfl (di (t:=89) rfl (HAL.o _)) ?_;try go_frame)
  | (refine bU rfl 89 (.tmp 7) (.tmp 14) rfl rfl rfl (WV w1 _ m _ (aI _ _)) ?_;try go_frame))
 try simp only [aI]
 obtain⟨V,hV⟩:∃V,V=(w1.alloc (.cells #[.slice E.sA E.sn E.sc,E.root,E.next,.slice E.lA E.ln E.lc] 107)).alloc (.cells ⟨m.row⟩ 89):=⟨_,rfl⟩;have TV1:bH [] w1 V:=by rw [hV];exact ((tR w1).alloc _).alloc _
 have h7:V.heap[w1.heap.size]?=some (.cells #[.slice E.sA E.sn E.sc,E.root,E.next,.slice E.lA E.ln E.lc] 107 (0,0)):=hV ▸ bO bN;have h8:V.heap[w1.heap.size+1]?=some (.cells ⟨m.row⟩ 89 (0,0)):=hV ▸ bN;have TW:=HT1.o.trans TV1;have hx1:=TW.ox HX1.o;rw [←hV];clear hV q0 q1 q2 q3 HAL HX1;have HX1:=lh hx1;have HTW:=lh (HT0.o.trans TW);cases bb with
 | false=>
  have hres:=HM.o.2 rfl;have HRES:=lh hres;obtain⟨z0,z1,z2,z3⟩:=eG hx1;have zf:=fun i=>dm hx1 i;clear hres hx1 TW TV1 h7 h8 HM HT1 HT0;go_wp2_with fail
  exact ag (v:=.tuple #[.agg #[(0:Int),(0:Int),(0:Int),(0:Int)],.bool false]) (by simp [results,results16,go_sem,z0,z1,z2,z3]) rfl ⟨by rw [HRES.o];rfl,(((HTW.o.sc).sc).sc).sc⟩
 | true=>
  obtain⟨rfl,rfl,⟨l,hl,hlk⟩,hst⟩:=HM.o.1 rfl;have hma:m.At V:=(hst.turn TV1).now;have har:=Kt (HDD.o rfl) id l hl m hlk V (HA.o.turn (HTW.o)) hma;have hres:iJ E none id=some (uk E.layers 3000 l):=by unfold iJ;simp only;rw [hl];rfl
  have HRES:=lh hres;generalize uk E.layers 3000 l=q at *;have hld:=BP h8;obtain⟨p0,p1,p2,p3⟩:=iw h7;unfold df.v bI.v Rc.v at har;have HAR:=lh har;have HLD:=lh hld;clear hres hx1 TW TV1 h7 h8 HM HT1 HT0 hma har hl hlk hst hld HDD HWK;go_wp2_with (first
   | (refine bQ (o:=⟨some 20,_,_,_,_,_⟩) rfl (dw rfl rfl HLD.o) ?_;try go_frame)
   | (go_at_call 52;(with_reducible refine HAR.o.mono ?_);rintro e w9 ⟨rfl,ht9⟩;have hx9:=ht9.ox HX1.o;obtain⟨z0,z1,z2,z3⟩:=eG hx9;have zf:=(fun i=>dm hx9 i);have HT9:=lh (HTW.o.trans ht9);clear hx9))
  exact ag (v:=.tuple #[.agg #[q.x0,q.y0,q.x1,q.y1],.bool true]) (by simp [results,results16,go_sem,z0,z1,z2,z3]) rfl ⟨by rw [HRES.o];rfl,(((HT9.o.sc).sc).sc).sc⟩
end Go.Proofs.YtbpklgllihhgpaaGreat
