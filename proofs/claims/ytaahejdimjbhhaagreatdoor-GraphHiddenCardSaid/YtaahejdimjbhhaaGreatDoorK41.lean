import Derived.RangeFuncNested
import Derived.RangeFuncBound
import Derived.RangeFuncCalls
import Derived.RangeFuncLeaves
import Derived.OrdersIn
import Derived.Shelf.Abstract
import Derived.Shelf.RegionOpen
import Derived.OwnWalkIn
import Derived.TacticsInMore
import Derived.LoopNIn
import Derived.LoopIn
import Derived.Test.YtaahejdimjbhhaaGreatDoorK33
import Derived.Test.YtaahejdimjbhhaaGreatDoorK36
set_option maxRecDepth 100000
set_option maxHeartbeats 0
set_option linter.all false
namespace Go.Proofs.YtaahejdimjbhhaaGreatDoor
open Tryz Go.RowKit Go.Den
open Option renaming some->ba,none->bc
open Go.Obj renaming cells->bd
open Go renaming World->be,heap_alloc_new->bf,run_loadAt_mid->bh,Value->bj,Addr->bk
open Bool renaming true->bl,false->bm
open Go.Value renaming string->bo,slice->bp,int->bq,pointer->br,agg->bt
def YO(d:df)(a7:Option Nat)(id x y:Int): Bs:=match a7 with
 |some _=>[]
 |none=>match dh d.agY id with
  |some l=>fM [Zj,Qz x,Qz y,Zf Jd d.agY d.ag2 3000 l (ZJ x y)]
  |none=>[]
theorem acA{d:df}{a7:Option Nat}{id:Int}(x y:Int)(h:iJ d a7 id=bc): YO d a7 id x y=[]:=by
 unfold YO;unfold iJ at h;cases a7 with
 |some _=>rfl
 |none=>
  simp only at h ⊢;cases i:dh d.agY id with
  |none=>rfl
  |some l=>rw [i]at h;cases h
theorem acP(ls:List bI)(g:List eF)(l:bI)(r:Rc): (Zf Jd ls g 3000 l r).length<=32:=by
 unfold Zf;have e:∀x:List Bs,(Jd.join x).length<=32:=λx=>Nat.le_of_eq (XN _);split
 .split
  .exact e _
  exact e _
 exact ZE ls g l r 3000
theorem YC{u:be}{b:Nat}{x y:Int}(h:u.heap[b]?=ba (bd #[x,y] 24 (0,0))): (Instr.loadAt 24 (br (ba ⟨b,0,bc⟩))).run prog u=.ok (Y8 x y) u:=
 bh u b 0 24 [x,y] _ (gp h rfl) underlying24 rfl lB
theorem YI{u:be}{b:Nat}{d:df}(h:u.heap[b]?=ba (bd #[bp d.sA d.sn d.sc,d.root,d.next,bp d.lA d.ln d.lc] 29 (0,0))): (Instr.loadAt 29 (br (ba ⟨b,0,bc⟩))).run prog u=.ok d.v u:=bh u b 0 29 [bp d.sA d.sn d.sc,d.root,d.next,bp d.lA d.ln d.lc] _ (gp h rfl) underlying29 rfl lB
theorem abz(d:df)(a7:Option Nat)(id x y:Int)(w:be)(h:d.At w)(S:E5 d a7)(a9:∀l∈d.agY,l.Thin)(Q:a7=bc->kU d)(R:YQ w):
  CR 11 #[d.v,id,Y8 x y] w (bo ⟨(YO d a7 id x y).toArray⟩):=by
 obtain⟨W,j⟩:=eX ((w.alloc (bd #[bp d.sA d.sn d.sc,d.root,d.next,bp d.lA d.ln d.lc] 29)).alloc (bd #[x,y] 24));have B:bH [] w W:=by rw [j];exact ((tR w).a _).a _
 have H:=fU j;have I:=ZH j;have cl:=Oq d a7 id W (h.u B) S a9;obtain⟨N,cD,a6,z,HA,eq,L,J⟩:=lh8 (YI H) cl I B h Q R gI;have O:=lh j;clear cl H I B h S a9 Q R j;have T:d.v=bt #[bp d.sA d.sn d.sc,d.root,d.next,bp d.lA d.ln d.lc]:=rfl;have a3:Y8 x y=bt #[x,y]:=rfl;rw [T,a3];clear T a3;go_enter func11,ntmps11;go_upto_region 1 with fail
 rw [<-O.o];clear O;go_upto_region 2 with (first
  |(refine lR 11 N.o ?_)
  |(go_at_call 31;refine cD.o.mono ?_;rintro e q ⟨⟨E,m,bb,rfl,a1,a2⟩,aR⟩;have Z:=lh (bg a1 a2);have A:=lh aR;clear a1 a2 aR;unfold bI.v df.v)
  |(refine yR 8 (di (t:=51) rfl (J.o _)) ?_)
  |(refine sR (WV q _ m _ (aI _ _)) ?_))
 try simp only [aI]
 obtain⟨V,f⟩:=eX ((q.alloc (bd #[bp E.sA E.sn E.sc,E.root,E.next,bp E.lA E.ln E.lc] 94)).alloc (bd ⟨m.row⟩ 51));have aq:bH [] q V:=by rw [f];exact ((tR q).a _).a _
 have C:=fU f;have D:=ZH f;have p:=A.o.t aq;have n:=p.ox a6.o;rw [<-f];clear f J a6 N;have a6:=lh n;have a5:=lh (z.o.t p);cases bb with
 |false=>
  have k:=acA x y (Z.o.2 rfl);have s:=lh k;clear k n p aq C D Z A z cD eq;go_wp2;go_ret;exact⟨by rw [s.o];rfl,a5.o⟩
 |true=>
  obtain⟨rfl,rfl,⟨l,F,X⟩,a8⟩:=Z.o.1 rfl;have a4:=lh (a8.u aq).now;have aa:=lh (λu (t:bH [] V u)=>ad7 (eq.o rfl) id l F m X (ZJ x y) u (HA.o.u (a5.o.t t)) (L.o.u (a5.o.t t)) (a4.o.u t));have k:YO E bc id x y=fM [Zj,Qz x,Qz y,Zf Jd E.agY E.ag2 3000 l (ZJ x y)]:=by unfold YO;simp only;rw [F]
  have af:=acP E.agY E.ag2 l (ZJ x y);have a0:(Le [Zj,Qz x,Qz y,Zf Jd E.agY E.ag2 3000 l (ZJ x y)]).length<=100000000000:=mE
  have M:=lh (λ(g:Nat) u (t:bH [] V u) (h:DR u (ba ⟨g,0,bc⟩) 4 [Zj,Qz x,Qz y,Zf Jd E.agY E.ag2 3000 l (ZJ x y)])=>abV _ _ 4 4 a0 u h (L.o.u (a5.o.t t)));have bs:Hid (∀U:be,DR (U.alloc (bd #[bo ⟨#[116,105,108,101]⟩,bo (MZ x),bo (MZ y),bo ⟨(Zf Jd E.agY E.ag2 3000 l (ZJ x y)).toArray⟩] 9)) (ba ⟨U,0,bc⟩) 4 [Zj,Qz x,Qz y,Zf Jd E.agY E.ag2 3000 l (ZJ x y)]):=lh λU=>XO [Zj,Qz x,Qz y,Zf Jd E.agY E.ag2 3000 l (ZJ x y)] U;obtain⟨s,H7,H8⟩:=lh3 k C D;have P:=cP 0 x n;have c1:=cP 1 y n;clear k af a0 n p aq C D Z A z F X a8 eq cD a4;rw [<-s.o]at M;generalize (⟨(Zf Jd E.agY E.ag2 3000 l (ZJ x y)).toArray⟩:BAr)=KB at *;have ab:=lh (λu=>acs x y u);generalize ZJ x y=rf at *;have ac:=lh (λu=>NL x u);have ad:=lh (λu=>NL y u);generalize MZ x=VX,MZ y=VY at *;go_upto_region 4 with fail
  as_aux_lemma=>
  refine sN 13 (tR V) λY i=>?_;refine fK 0 ?_;refine Xy 1 x (λw' c=>((bY c).1 _ _ (ai P)).t P) ?_;refine fK 3 ?_;refine Xy 4 y (λw' c=>((bY c).1 _ _ (ai c1)).t c1) ?_;refine Xz 6 (E.v) (λw' c=>XP (c.ox H7.o)) ?_;refine Xz 7 (m.v) (λw' c=>XU (c.ox H8.o)) ?_;refine Xz 8 (Y8 x y) (λw' c=>YC (c.ox a6.o)) ?_;refine PR 2 (ac.o _) λq1 i _=>?_
  refine PR 5 (ad.o _) λq2 i _=>?_
  refine PR 9 (ab.o _) λq3 i _=>?_
  refine PR 10 (aa.o _ i) λq4 i _=>?_
  have G:=i.alloc (bd #[bo ⟨#[116,105,108,101]⟩,bo VX,bo VY,bo KB] 9);have a8:=bs.o q4;refine ty 11 rfl (XI (t:=107) (x0:=.const (bo ⟨#[116,105,108,101]⟩)) (x1:=.tmp 21) (x2:=.tmp 24) (x3:=.tmp 29) rfl rfl rfl rfl rfl (Zr _ _ _ _ q4)) λK b=>?_;refine gK b G ?_;clear b K i
  have i:=G;clear G;refine PR 12 (M.o _ _ i a8) λq5 i _=>?_;clear a8
  refine eH 13 (λK b=>?_);go_simp;refine gZ b ?_;clear b K
  refine Wy ?_;have HT:=lh (a5.o.t i);clear i;go_wp2;go_ret;exact⟨rfl,HT.o⟩
section
def ry(e:bI->Option bk×Nat×Nat×List Int)(l:bI): bI:={ l with Xi:=(e l).1,Xh:=(e l).2.1,Xj:=(e l).2.2.1,ag0:=(e l).2.2.2 }
structure vF(e:bI->Option bk×Nat×Nat×List Int)(la lb:List bI)(x:bI)(i:Int): Prop where
 hx:dh lb i=ba x
 hid:x.ag3=bl
 at_:∀k,k≠i->dh lb k=(dh la k).map (ry e)
 ks:∀l,(e l).2.2.2=l.ag0\/(e l).2.2.2=l.ag0++[i]
 ag0:∀k l,dh la k=ba l->i∉l.ag0/\(l.ag1=4->l.of≠i)
section
variable {e:bI->Option bk×Nat×Nat×List Int} {la lb:List bI} {x:bI} {i:Int}
theorem vF.sF(S:vF e la lb x i){f g:bI->Rc}(b:∀k l,dh la k=ba l->g (ry e l)=f l): ∀(ks:List Int) (a:Rc),i∉ks->iW g lb ks a=iW f la ks a
 | [],_,_=>rfl
 |k::ks,a,h=>by
  simp only [aS,not_or]at h;unfold iW;rw [S.at_ k (λe=>h.1 e.symm)];cases d:dh la k with
  |none=>exact S.sF b ks a h.2
  |some l=>
   have c:jP g (ry e l) a=jP f l a:=(by unfold jP;rw [b k l d];rfl);show iW g lb ks (jP g (ry e l) a)=iW f la ks (jP f l a);rw [c];exact S.sF b ks _ h.2
theorem vF.area(S:vF e la lb x i)(n:Nat): ∀k l,dh la k=ba l->jG lb n (ry e l)=jG la n l:=by
 induction n with
 |zero=>exact λ_ _ _=>rfl
 |succ n ih=>
  intro k l h;have d:=S.ag0 k l h;have f:iW (jG lb n) lb (ry e l).ag0 Rc.zero=iW (jG la n) la l.ag0 Rc.zero:=by
   show iW (jG lb n) lb (e l).2.2.2 Rc.zero=_;rcases S.ks l with a|a
   .rw [a];exact S.sF ih _ _ d.1
   rw [a,sZ _ _ _ _ x _ S.hx,aaM _ S.hid];exact S.sF ih _ _ d.1
  unfold jG;by_cases a:l.ag1=1
  .rw [aG (show (ry e l).ag1=1 from a),aG a];rfl
  rw [aF (show ¬(ry e l).ag1=1 from a),aF a];by_cases c:l.ag1=5
  .rw [aG (show (ry e l).ag1=5 from c),aG c];rfl
  rw [aF (show ¬(ry e l).ag1=5 from c),aF c];by_cases b:l.ag1=4
  .rw [aG (show (ry e l).ag1=4 from b),aG b,show (ry e l).of=l.of from rfl,S.at_ _ (d.2 b)];cases g:dh la l.of with
   |none=>rfl
   |some m=>
    show (mJ l.agZ (jG lb n (ry e m))).can=_;rw [ih _ m g]
  rw [aF (show ¬(ry e l).ag1=4 from b),aF b];exact f
theorem vF.kL(S:vF e la lb x i): ∀b:List Int,i∉b->Yc lb b=(Yc la b).map (ry e)
 | [],_=>rfl
 |k::b,h=>by
  simp only [aS,not_or]at h;have E:=S.kL b h.2;unfold Yc at E ⊢;have a:=S.at_ k (λe=>h.1 e.symm);cases c:dh la k with
  |none=>
   rw [c]at a;rw [List.filterMap_cons_none a,List.filterMap_cons_none c];exact E
  |some l=>
   rw [c]at a;rw [List.filterMap_cons_some a,List.filterMap_cons_some c,E];rfl
theorem wG(r:Rc): ∀b:List bI,Zh (b.map (ry e)) r=Zh b r
 | []=>rfl
 |l::b=>by show (ry e l).step (Zh (b.map (ry e)) r)=l.step (Zh b r);rw [wG r b];rfl
theorem wo(h:x.ag3=bl)(r:Rc): ∀b:List bI,Zh (b++[x]) r=Zh b r
 | []=>by show x.step r=r;unfold bI.step;rw [h];simp
 |l::b=>by show l.step (Zh (b++[x]) r)=l.step (Zh b r);rw [wo h r b]
theorem uX(J:afw)(kf:bI->Rc->Bs)(af:bI->Rc)(r:Rc)(h:x.ag3=bl): ∀a b:List bI,YS J kf af r b (a++[x])=YS J kf af r b a
 | [],b=>by show YX J kf af b x r++[]=[];unfold YX;rw [aG h];rfl
 |l::a,b=>by show YX J kf af b l (Zh (a++[x]) r)++YS J kf af r (l::b) (a++[x])=YX J kf af b l (Zh a r)++YS J kf af r (l::b) a;rw [wo h,uX J kf af r h a]
section
variable (J:afw) {kf kg:bI->Rc->Bs} {af ag:bI->Rc} {P:bI->Prop}
theorem vH(d:∀l,P l->∀r,kg (ry e l) r=kf l r)(w:Rc): ∀a:List bI,(∀l∈a,P l)->YL J kg w (a.map (ry e))=YL J kf w a
 | [],_=>rfl
 |b::bs,h=>by have E:=vH d w bs λl f=>h l (List.mem_cons_of_mem _ f);have c:=d b (h b List.mem_cons_self) w;show (if (ry e b).ag3=bm/\(ry e b).clip=bm/\(ry e b).ag1≠3 then J.join [Zg,J.join (agE J (ry e b) w),kg (ry e b) w] else YL J kg w (bs.map (ry e)))=_;rw [c,E];rfl
theorem vJ(C:∀l,P l->ag (ry e l)=af l): ∀(ks:List bI) (a:Rc),(∀l∈ks,P l)->(ks.map (ry e)).foldl (λa l=>jP ag l a) a=ks.foldl (λa l=>jP af l a) a
 | [],_,_=>rfl
 |b::bs,a,h=>by
  have c:jP ag (ry e b) a=jP af b a:=by unfold jP;rw [C b (h b List.mem_cons_self)];rfl
  show (bs.map (ry e)).foldl _ (jP ag (ry e b) a)=bs.foldl _ (jP af b a);rw [c];exact vJ C bs _ λl d=>h l (List.mem_cons_of_mem _ d)
theorem vw(f:∀l,P l->∀r,kg (ry e l) r=kf l r)(C:∀l,P l->ag (ry e l)=af l)(r:Rc): ∀a b:List bI,(∀l∈a,P l)->(∀l∈b,P l)->YS J kg ag r (b.map (ry e)) (a.map (ry e))=YS J kf af r b a
 | [],_,_,_=>rfl
 |l::a,b,h,c=>by
  have U:=h l List.mem_cons_self;have E:=vw f C r a (l::b) (λl c=>h l (List.mem_cons_of_mem _ c)) (λm d=>by
   rcases aS.1 d with rfl|d
   .exact U
   exact c m d)
  show YX J kg ag (b.map (ry e)) (ry e l) (Zh (a.map (ry e)) r)++YS J kg ag r ((l::b).map (ry e)) (a.map (ry e))=_;rw [E,wG];have g:YX J kg ag (b.map (ry e)) (ry e l) (Zh a r)=YX J kf af b l (Zh a r):=by unfold YX aay ZR;rw [vH J f _ b c,<-List.map_reverse,vJ C _ _ (λm d=>c m (List.mem_reverse.1 d)),C l U,f l U];rfl
  rw [g];rfl
end
theorem xe{la:List bI}{ks:List Int}: ∀l∈Yc la ks,∃k,dh la k=ba l:=λl h=>by unfold Yc at h;obtain⟨k,_,d⟩:=List.mem_filterMap.1 h;exact⟨k,d⟩
theorem vF.key(S:vF e la lb x i)(J:afw)(g:List eF)(n:Nat): ∀k l,dh la k=ba l->∀r,YU J lb g n (ry e l) r=YU J la g n l r:=by
 induction n with
 |zero=>exact λ_ _ _ _=>rfl
 |succ n ih=>
  intro k l h r;have j:=S.ag0 k l h;have q:∀m,(∃k,dh la k=ba m)->jG lb n (ry e m)=jG la n m:=λm ⟨k,d⟩=>S.area n k m d;have s:∀m,(∃k,dh la k=ba m)->∀r,YU J lb g n (ry e m) r=YU J la g n m r:=λm ⟨k,d⟩=>ih k m d;have d:YS J (YU J lb g n) (jG lb n) r.can [] (Yc lb (ry e l).ag0)=YS J (YU J la g n) (jG la n) r.can [] (Yc la l.ag0):=by
   show YS J (YU J lb g n) (jG lb n) r.can [] (Yc lb (e l).2.2.2)=_;have o:=vw J s q r.can (Yc la l.ag0) [] xe lz;rcases S.ks l with a|a
   .rw [a,S.kL _ j.1];exact o
   have p:Yc lb (l.ag0++[i])=Yc lb l.ag0++[x]:=(by unfold Yc;rw [List.filterMap_append,List.filterMap_cons_some S.hx];rfl);rw [a,p,uX _ _ _ _ S.hid,S.kL _ j.1];exact o
  unfold YU;rw [S.area (n+1) k l h];by_cases b:XD (jG la (n+1) l) r.can=bm
  .rw [aG b,aG b]
  rw [aF b,aF b];by_cases a:l.ag1=1
  .rw [aG (show (ry e l).ag1=1 from a),aG a];rfl
  rw [aF (show ¬(ry e l).ag1=1 from a),aF a];by_cases f:l.ag1=5
  .rw [aG (show (ry e l).ag1=5 from f),aG f];rfl
  rw [aF (show ¬(ry e l).ag1=5 from f),aF f];by_cases c:l.ag1=4
  .rw [aG (show (ry e l).ag1=4 from c),aG c,show (ry e l).of=l.of from rfl,S.at_ _ (j.2 c)];cases b:dh la l.of with
   |none=>rfl
   |some m=>
    show J.join [Yy,H6 l.agZ.ns,YU J lb g n (ry e m) _]=_;rw [ih _ m b];rfl
  rw [aF (show ¬(ry e l).ag1=4 from c),aF c,d]
theorem xI{a b:df}(S:vF e a.agY b.agY x i)(C:b.root=a.root)(n:b.ag2=a.ag2){l:bI}(c:dh a.agY a.root=ba l)(h:l.ag1=2)(m:a.root≠i):
  (∀r,Zf Jd b.agY b.ag2 3000 (ry e l) r=Zf Jd a.agY a.ag2 3000 l r)/\(∀u v,YO b bc b.root u v=YO a bc a.root u v)/\iJ b bc b.root=iJ a bc a.root:=by
 have f:dh b.agY b.root=ba (ry e l):=by rw [C,S.at_ _ m,c];rfl
 have g:¬l.ag1=3:=gn
 have d:∀r,Zf Jd b.agY b.ag2 3000 (ry e l) r=Zf Jd a.agY a.ag2 3000 l r:=λr=>by unfold Zf;rw [aF (show ¬(ry e l).ag1=3 from g),aF g,n];exact S.key Jd _ 3000 _ l c r
 refine⟨d,λu v=>?_,?_⟩
 .unfold YO;rw [f,c];show fM [_,_,_,Zf Jd b.agY b.ag2 3000 (ry e l) _]=_;rw [d]
 unfold iJ;rw [f,c];show ba (uk b.agY 3000 (ry e l))=ba (uk a.agY 3000 l);unfold uk;rw [aF (show ¬(ry e l).ag1=3 from g),aF g,S.area 3000 _ l c]
end
end
theorem uT(e:bI->Option bk×Nat×Nat×List Int)(a:List bI)(k:Int): dh (a.map (ry e)) k=(dh a k).map (ry e):=by
 unfold dh;rw [List.map_map,show ((λl:bI=>l.id) ∘ ry e)=λl=>l.id from rfl];cases mW (a.map λl=>l.id) k with
 |none=>rfl
 |some j=>exact aP ..
theorem uV(a:List bI)(x:bI)(k:Int): dh (a++[x]) k=match dh a k with|some l=>ba l|none=>if x.id=k then ba x else bc:=by
 unfold dh mW;rw [List.map_append,List.findIdx?_append];cases h:(a.map λl=>l.id).findIdx? (· == k)with
 |some j=>
  have b:j<a.length:=by have:=(bi.1 h).1;simpa using this
  simp [bD b,aB b]
 |none=>
  by_cases e:x.id=k
  .simp [e]
  simp [e]
theorem vO{a:List bI}{k:Int}(h:∀l∈a,l.id≠k): dh a k=bc:=by
 unfold dh mW;rw [List.findIdx?_eq_none_iff.2 (λy d=>by
  obtain⟨l,i,rfl⟩:=List.mem_map.1 d;simpa using h l i)]
theorem wK{d:df}{k:Nat}(h:Ny d k): ∃x b,d.agY=x::b/\x.id=1/\x.ag1=2/\∀m∈b,m.id≠1:=by
 obtain⟨r,C,l⟩:=h.tidy.root;rw [h.root]at C;have c:=h.tidy.inc;have g:=h.tidy.pos;unfold df.ids at c g;obtain⟨q,_,a,e⟩:=iD C;cases j:d.agY with
 |nil=>rw [j]at a;cases a
 |cons x b=>
  rw [j]at c g a;rw [List.map_cons,List.pairwise_cons]at c;have n:=(g x.id lz).1;have i:∀m∈b,x.id<m.id:=λm f=>c.1 m.id (List.mem_map_of_mem f);cases q with
  |zero=>
   cases a;exact⟨r,b,rfl,e,l,λm f=>by have:=i m f;omega⟩
  |succ q=>
   have:=i r (aH a);omega
theorem xh{d:df}(z:d.Tidy)(I:d.Ok)(A f:Option bk)(c n kc:Nat){x l:bI}(t:d.agY[0]?=ba x)(B:x.id=d.root)(F:l.id=d.next)(L:l.ag3=bl):
  ∃y,y=x.Xn f n kc (x.ag0++[d.next])/\dh d.agY d.root=ba x/\dh (d.grow A c (d.next+1) 0 y l).agY d.root=ba y/\
   (∀r,Zf Jd (d.grow A c (d.next+1) 0 y l).agY (d.grow A c (d.next+1) 0 y l).ag2 3000 y r=Zf Jd d.agY d.ag2 3000 x r)/\(∀u v,YO (d.grow A c (d.next+1) 0 y l) bc d.root u v=YO d bc d.root u v)/\iJ (d.grow A c (d.next+1) 0 y l) bc d.root=iJ d bc d.root:=by
 obtain⟨r,P,w⟩:=z.root;have N:∀m∈d.agY,m.id≠d.next:=λm o e=>by have:=(z.pos m.id (List.mem_map_of_mem o)).2;omega
 obtain⟨D,b9⟩:∃D,d.agY=x::D:=by
  cases h:d.agY with
  |nil=>rw [h]at t;cases t
  |cons y ys=>rw [h]at t;cases t;exact⟨ys,rfl⟩
 have p:dh d.agY d.root=ba x:=by rw [b9];unfold dh mW;simp [List.findIdx?_cons,B]
 have Q:r=x:=by rw [P]at p;exact Option.some.inj p
 subst Q;have G:=vO N;have aE:d.root≠d.next:=λe=>by rw [e,G]at p;cases p
 have O:∀m∈D,m.id≠d.root:=λm o e=>by have i:=z.inc;unfold df.ids at i;rw [b9,List.map_cons,List.pairwise_cons]at i;have:=i.1 m.id (List.mem_map_of_mem o);omega
 refine⟨_,rfl,p,?_⟩;have E:d.agY.set 0 (r.Xn f n kc (r.ag0++[d.next]))=d.agY.map (ry λm=>if m.id=d.root then (f,n,kc,m.ag0++[d.next]) else (m.Xi,m.Xh,m.Xj,m.ag0)):=by
  rw [b9,List.set_cons_zero,List.map_cons];have i:ry (λm=>if m.id=d.root then (f,n,kc,m.ag0++[d.next]) else (m.Xi,m.Xh,m.Xj,m.ag0)) r=r.Xn f n kc (r.ag0++[d.next]):=by unfold ry bI.Xn;simp only [B,if_true]
  rw [i,List.map_congr_left (g:=id) (λm o=>by
   unfold ry;simp only [O m o,if_false];rfl),List.map_id]
 have J:ry (λm=>if m.id=d.root then (f,n,kc,m.ag0++[d.next]) else (m.Xi,m.Xh,m.Xj,m.ag0)) r=r.Xn f n kc (r.ag0++[d.next]):=by unfold ry bI.Xn;simp only [B,if_true]
 have S:vF (λm=>if m.id=d.root then (f,n,kc,m.ag0++[d.next]) else (m.Xi,m.Xh,m.Xj,m.ag0)) d.agY (d.grow A c (d.next+1) 0 (r.Xn f n kc (r.ag0++[d.next])) l).agY l d.next:=by
  refine⟨?_,L,λk w=>?_,λm=>?_,λk m o=>?_⟩
  .show dh (d.agY.set 0 _++[l]) d.next=_;rw [uV,E,uT,G];simp [F]
  .show dh (d.agY.set 0 _++[l]) k=_;rw [uV,E,uT];cases dh d.agY k with
   |some m=>rfl
   |none=>simp [F,Ne.symm w]
  .by_cases h:m.id=d.root
   .exact .inr sr
   exact .inl sr
  obtain⟨j,_,H,_⟩:=iD o;have i:=I.ag0 j m H;unfold pM at i;rw [az,aZ]at i;refine⟨λM=>?_,λK e=>?_⟩
  .have s:=i.1 _ M;unfold dh at G;cases C:mW (d.agY.map (·.id)) d.next with
   |none=>rw [C]at s;cases s
   |some q=>
    rw [C]at G;have:=(bi.1 C).1;rw [aJ]at this;simp only [aB this]at G;cases G
  obtain⟨q,s,_⟩:=I.clone j m H K;rw [e,G]at s;cases s
 have h:=xI (a:=d) (b:=d.grow A c (d.next+1) 0 (r.Xn f n kc (r.ag0++[d.next])) l) S rfl rfl p w aE;rw [J]at h;refine⟨?_,h⟩;rw [S.at_ _ aE,p,<-J];rfl
theorem acX:(prog.info? 24).map (·.size)=ba 2:=lB
theorem wR(x y:Int)(q:-1099511627776<=x)(s:x<=1099511627776)(hy:-1099511627776<=y)(z:y<=1099511627776)(w:be):
  CR 110 #[bt #[x,y]] w (Y8 (iq x 8) (iq y 8)):=by
 obtain⟨W,m⟩:=eX ((w.alloc (bd #[x,y] 123)).alloc (bd #[(0:Int),(0:Int)] 24));have k:bH [] w W:=m▸((tR w).a _).a _;have h:W.heap[w.heap.size]?=ba (bd #[x,y] 123 (0,0)):=by rw [m];exact (((bH.refl [] (w.alloc (bd #[x,y] 123))).a _).old _ lz lz).t (bf _ _)
 have l:W.heap[w.heap.size+1]?=ba (bd #[(0:Int),(0:Int)] 24 (0,0)):=by rw [m,show w.heap.size+1=(w.alloc (bd #[x,y] 123)).heap.size by simp];exact bf _ _
 have B:W.cell? ⟨w,0,bc⟩=ba (bq .i64 x):=by rw [aA _ _ _ _ _ _ h];rfl
 have c1:W.cell? ⟨w,1,bc⟩=ba (bq .i64 y):=by rw [aA _ _ _ _ _ _ h];rfl
 have aM:=lh (λu=>J3 x 8 gn gn u);have aR:=lh (λu=>J3 y 8 gn gn u);generalize iq x 8=b,iq y 8=e at *;have j:=lh m;clear m q s hy z;go_enter func110,ntmps110;go_upto_region 1 with fail
 rw [<-j.o];refine sN 7 (tR W) λV i=>?_;refine fK 0 ?_;refine Xy 1 x (λw' f=>((bY f).1 _ _ (ai B)).t B) ?_;refine fK 3 ?_;refine Xy 4 y (λw' f=>((bY f).1 _ _ (ai c1)).t c1) ?_;refine eH 2 (λK c=>?_);go_simp;refine mS (aM.o _) ?_;refine gK c i ?_;clear c K
 refine eH 5 (λK c=>?_);go_simp;refine mS (aR.o _) ?_;refine gK c i ?_;clear c K
 refine fE 6 (bt #[b,e]) ?_ rfl (j:=λw' f=>oN rfl rfl rfl lB);have n:V.heap[w.heap.size+1]?=ba (bd #[(0:Int),(0:Int)] 24 (0,0)):=i.ox l;have a8:=jV (ty:=24) (cells:=#[b,e]) n acX rfl lW;refine eH 7 (λK c=>?_);refine fO (d:=bc) rfl 24 (.tmp 2) (.tmp 9) rfl rfl rfl a8 ?_;refine gZ c ?_;clear c K a8
 refine Wy ?_;have p:=(k.t i).setRow (g:=w.heap.size+1) #[b,e] (.inr gn);have a1:=eQ (L':=[b,e]) n;clear B c1 h l j k i;go_wp2;have U:=run_loadVar_row (P:=prog) _ (w.heap.size+1) 24 24 #[b,e] (0,0) _ a1 underlying24 rfl lB;refine ag (v:=Y8 b e) ?_ rfl ⟨rfl,p⟩;simp [results,results110,asAddr,U];rfl
section
section
variable {P:Program} {ops:Array Oper} {Q:Exit->Act->be->Prop} {n l:Nat}
theorem xP(R:¬LetsOut Q)(E:∀(i:Nat) (o:Oper),ops[i]?=ba o->∀c,o.op≠.defer c){i:Nat}{K k:Act->be->Prop}(b:∀a w,K a w->k a w){a:Act}{w:be}(h:wpOp P ops Q i K a w): wpOpIn (Fence.wide.inRound l) n P ops Q i k a w:=by
 unfold wpOp at h;unfold wpOpIn;cases g:ops[i]? with
 |none=>
  rw [g]at h;exact b _ _ h
 |some o=>
  rw [g]at h;simp only at h ⊢;split at h
  .rename_i j;rw [aG j];rcases h with h|⟨_,h⟩
   .refine⟨λ_ _=>trivial,?_⟩;rw [Oper.semAt_eq _ _ _ (E i o g)];unfold Oper.wp at h;revert h;generalize (execOp a.eval o).run P w=r;intro h;match r,h with
    |.ok (.value v) w',h=>exact b _ _ h
    |.ok .skip w',h=>exact b _ _ h
    |.ok (.defer d) w',h=>exact b _ _ h
    |.ok (.enter f args) w',h=>
     refine⟨(λh=>by simp [Fence.wide]at h),CallsIn.inRound l (callsIn_wide.2 (Calls.mono h λe T h=>?_))⟩;cases e with
     |returned v=>exact b _ _ h
     |panicked c=>exact h
     |outgrown=>exact h
    |.ok (.row row args) w',h=>exact⟨(λh=>by simp [Fence.wide]at h),λc m _=>let ⟨v,T,r,s⟩:=h c m;⟨v,T,b _ _ r,stepsIn_wide.2 s⟩⟩
    |.halt (.panic v) w',h=>exact h
   exact absurd h R
  rename_i j;rw [aF j];exact⟨λ_ _=>trivial,b _ _ h⟩
theorem xM(R:¬LetsOut Q)(E:∀(i:Nat) (o:Oper),ops[i]?=ba o->∀c,o.op≠.defer c){b:Region.Mode}: ∀(m:Nat) (done:Array Bool) (a:Act) (w:be),wpAny P b ops Q m done a w->wpAnyIn (Fence.wide.inRound l) n P b ops Q m done a w
 |0,_,_,_,h=>h
 |m+1,_,_,_,h=>⟨h.1,λi d=>xP R E (λa w h=>xM R E m _ a w h) (h.2 i d)⟩
def xO(ops:Array Oper): Bool:=ops.toList.all λo=>match o.op with | .defer _=>bm|_=>bl
theorem cu.round(S:be->Prop)(z:Nat){id:Nat}{a:Act}{w:be}(R:¬LetsOut Q)(d:P.follows .mixedOrders=bl)(E:xO ops=bl)
  (h:cu P .any ops Q S z ops.size (Array.replicate ops.size bm) a w.drew):(Code.region id ops bl).wpIn (Fence.wide.inRound l) n P Q a w:=
 wpIn_region_any d (xM R (λi o f c e=>by
  have b:=aZ.1 E o (Array.mem_toList_iff.2 (Array.mem_of_getElem? f));rw [e]at b;cases b) _ _ _ _ h.any)
end
end
section
open Go.RowKit Go.Den Go.Shelf
attribute [local go_sem] Oper.semAt_some
theorem aa5: AL 24 #[(0:Int),(0:Int)]:=λu=>lB
structure Kc(W W':be): Prop where
 size:W.heap.size<=W'.heap.size
 old:∀(k:Nat) (o:Obj),W.heap[k]?=ba o->o.isCells=bl->W'.heap[k]?=ba o
theorem Kc.refl(W:be): Kc W W:=⟨aQ _,λ_ _ h _=>h⟩
theorem xR{A B C:be}(h:Kc A B)(k:Kc B C): Kc A C:=⟨aK h.size k.size,λi o m e=>k.old i o (h.old i o m e) e⟩
structure wS(X:be)(c:Nat)(A B:Bool)(g b:Nat)(Y:be): Prop where
 h:bH [] X Y
 ha:A=bl->Y.heap[g]?=ba (bd #[(0:Int),(0:Int)] 24 (0,0))/\X.heap.size<=g
 hb:B=bl->Y.heap[b]?=ba (bd #[(0:Int),(0:Int)] 24 (0,0))/\X.heap.size<=b
 ne:A=bl->B=bl->g≠b
section
variable {X Y Z:be} {c:Nat} {A B:Bool} {g b:Nat}
theorem wS.u(H:wS X c A B g b Y)(T:bH [] Y Z): wS X (c+1) A B g b Z:=
 ⟨H.h.t T,λe=>⟨T.ox (H.ha e).1,(H.ha e).2⟩,λe=>⟨T.ox (H.hb e).1,(H.hb e).2⟩,H.ne⟩
theorem wS.sa(H:wS X c A B g b Y): wS X c bl B Y.heap.size b (Y.alloc (bd #[(0:Int),(0:Int)] 24)):=
 have T:=(tR Y).alloc (bd #[(0:Int),(0:Int)] 24)
 ⟨H.h.t T,λ_=>⟨bf _ _,H.h.size⟩,λe=>⟨T.ox (H.hb e).1,(H.hb e).2⟩,λ_ e h=>by have:=(ae.1 (H.hb e).1).1;omega⟩
theorem wS.sb(H:wS X c A B g b Y): wS X c A bl g Y.heap.size (Y.alloc (bd #[(0:Int),(0:Int)] 24)):=
 have T:=(tR Y).alloc (bd #[(0:Int),(0:Int)] 24)
 ⟨H.h.t T,λe=>⟨T.ox (H.ha e).1,(H.ha e).2⟩,λ_=>⟨bf _ _,H.h.size⟩,λe _ h=>by have:=(ae.1 (H.ha e).1).1;omega⟩
theorem uP(c:Nat)(A B:Bool){p:Nat->Nat->be->Prop}{q:Prop}(k:(∀g b Y,wS X c A B g b Y->p g b Y)->q)(h:∀g b Y,wS X c A B g b Y->p g b Y): q:=k h
end
theorem vV(n:Nat)(r:Rc)(he:r.empty=bm)(q0:-1048576<=r.x0/\r.x0<=1048576)(q1:-1048576<=r.y0/\r.y0<=1048576)(q2:-1048576<=r.x1/\r.x1<=1048576)(q3:-1048576<=r.y1/\r.y1<=1048576)
  (c:Nat) (w:be) (hc:w.heap[c]?=ba (bd #[r.x0,r.y0,r.x1,r.y1] 59 (0,0))) :
  SeqStopsK Fence.wide n prog 109 #[br (ba ⟨c,0,bc⟩)] (λp:Int×Int=>#[Y8 p.1 p.2]) Kc (λ_=>True) (λ_=>True) 10000000000000 w:=by
 intro l J Jx W hW hJ aD hY h0;refine callsIn_wide.2 ?_;show Calls _ _ #[.func (.yield l) #[] #[],br (ba ⟨c,0,bc⟩)] _ _;have a3:W.heap[c]?=ba (bd #[r.x0,r.y0,r.x1,r.y1] 59 (0,0)):=(hW.block _ (ae.1 hc).1).t hc;have S:=lh (λu=>iF r u);rw [he]at S;have F:r.v=bt #[r.x0,r.y0,r.x1,r.y1]:=rfl;rw [F]at S;clear F he;generalize r.x0=G,r.y0=I,r.x1=D,r.y1=E at *;have ex:IntKind.i64.wrap (D-1)=D-1:=(ZM _).t (fC _ gn gn);have ey:IntKind.i64.wrap (E-1)=E-1:=(ZM _).t (fC _ gn gn);have HA:=lh (λu=>wR G I gn gn gn gn u);have HB:=lh (λu=>wR (D-1) (E-1) gn gn gn gn u);have O:∀z:Int,-1048577<=z/\z<=1048577->-1048579<=iq z 8/\iq z 8<=1048579:=λz hz=>by have h1:=Int.mul_tdiv_add_tmod z 8;have h2:=Int.tmod_lt_of_pos z (b:=8) lG;have h3:=Int.lt_tmod_of_pos z (b:=8) lG;unfold iq;split<;>omega
 have f0:=O G gn;have f1:=O I gn;have f2:=O (D-1) gn;have f3:=O (E-1) gn;clear O q0 q1 q2 q3;generalize aR:D-1=xm,b0:E-1=ym,iq G 8=f,iq I 8=q at *;generalize iq xm 8=c1,iq ym 8=c2 at *;have a5:Hid (∀u,bH [] W u->(Instr.loadAt 59 (br (ba ⟨c,0,bc⟩))).run prog u=.ok (bt #[G,I,D,E]) u):=lh λu t=>bh u c 0 59 [G,I,D,E] _ (gp (t.ox a3) rfl) underlying59 rfl lB;have HC:=lh a3;clear a3 hc;go_enter func109,ntmps109;go_upto_region 1 with (first
  |(refine lR 7 (a5.o _ (tR W)) ?_)
  |(go_at_call 68;refine mR (S.o _) λm t1=>?_))
 simp only [Y8]at HA HB;apply uP (X:=m) 2 bl bl;intro aw;apply uP (X:=m) 1 bl bl;intro ao;apply uP (X:=m) 2 bm bl;intro aq;apply uP (X:=m) 2 bl bm;intro ar;apply uP (X:=m) 0 bl bl;intro ad;apply uP (X:=m) 1 bm bl;intro am;apply uP (X:=m) 1 bl bm;intro an;apply uP (X:=m) 2 bm bm;intro ap;apply uP (X:=m) 0 bm bl;intro ab;apply uP (X:=m) 0 bl bm;intro ac;apply uP (X:=m) 1 bm bm;intro af;refine cu.start (λw'=>bH [] m w') 17 lB ?_;obtain⟨g,b,H⟩:∃(g b:Nat),wS m 0 bm bm g b m.drew:=⟨0,0,(tR m).drawn 1,nofun,nofun,nofun⟩;generalize m.drew=Y at *;have P:=H.h;have R:∀(i:Nat) (v:bj),(#[G,I,D,E]:Array bj)[i]?=ba v->∀u,bH [] m u->u.cell? ⟨c,i,bc⟩=ba v:=λi v F u t=>bK ((t1.t t).ox HC.o) F;obtain⟨K0,K1,K2,K3⟩:=lh4 (R 0 _ rfl) (R 1 _ rfl) (R 2 _ rfl) (R 3 _ rfl);clear R;refine fK 0 ?_;refine Xy 1 G (λw' C=>K0.out w' C) ?_;refine fK 2 ?_;refine Xy 3 I (λw' C=>K1.out w' C) ?_;refine fE 4 (bt #[G,I]) ?_ rfl (j:=λw' C=>oN rfl rfl rfl lB);refine fK 6 ?_;refine Xy 7 D (λw' C=>K2.out w' C) ?_;refine fE 8 xm ?_;refine fK 9 ?_;refine Xy 10 E (λw' C=>K3.out w' C) ?_;refine fE 11 ym ?_;refine fE 12 (bt #[xm,ym]) ?_ rfl (j:=λw' C=>oN rfl rfl rfl lB);clear P;refine cu.three (i:=5) (j:=14) (k:=15) rfl rfl rfl lB rfl rfl rfl (λK a=>?_) (λK a=>?_) (λK a=>?_);iterate 30
  first
  |((revert a;intro a);(first
    |(refine bZ (d:=ba 3) rfl (di rfl (aa5 _)) ?_;replace H:=H.sa;generalize Y.alloc (bd #[(0:Int),(0:Int)] 24)=Z,Y.heap.size=y at H ⊢)
    |(refine bZ (d:=ba 4) rfl (di rfl (aa5 _)) ?_;replace H:=H.sb;generalize Y.alloc (bd #[(0:Int),(0:Int)] 24)=Z,Y.heap.size=y at H ⊢)
    |(go_simp;with_reducible refine mR (HA.o _) λZ u=>?_;replace H:=H.u u;clear u)
    |(go_simp;with_reducible refine mR (HB.o _) λZ u=>?_;replace H:=H.u u;clear u));refine a _ _ (λ_=>H.h) ?_;clear a K;(try go_frame);first
   |exact (af _ _ _ H :)
   |exact (ac _ _ _ H :)
   |exact (ab _ _ _ H :)
   |exact (ap _ _ _ H :)
   |exact (an _ _ _ H :)
   |exact (am _ _ _ H :)
   |exact (ad _ _ _ H :)
   |exact (ar _ _ _ H :)
   |exact (aq _ _ _ H :)
   |exact (ao _ _ _ H :)
   |exact (aw _ _ _ H :))
  |(intro g b Y H;first
   |refine cu.three (i:=13) (j:=14) (k:=15) rfl rfl rfl (by decide +kernel) rfl rfl rfl (λK a=>?_) (λK a=>?_) (λK a=>?_)
   |refine cu.two (i:=5) (j:=15) rfl rfl (by decide +kernel) rfl rfl (λK a=>?_) (λK a=>?_)
   |refine cu.two (i:=5) (j:=14) rfl rfl (by decide +kernel) rfl rfl (λK a=>?_) (λK a=>?_)
   |refine cu.two (i:=14) (j:=15) rfl rfl (by decide +kernel) rfl rfl (λK a=>?_) (λK a=>?_)
   |refine cu.two (i:=13) (j:=15) rfl rfl (by decide +kernel) rfl rfl (λK a=>?_) (λK a=>?_)
   |refine cu.two (i:=13) (j:=14) rfl rfl (by decide +kernel) rfl rfl (λK a=>?_) (λK a=>?_)
   |refine cu.one (i:=5) rfl (by decide +kernel) rfl (λK a=>?_)
   |refine cu.one (i:=15) rfl (by decide +kernel) rfl (λK a=>?_)
   |refine cu.one (i:=14) rfl (by decide +kernel) rfl (λK a=>?_)
   |refine cu.one (i:=13) rfl (by decide +kernel) rfl (λK a=>?_))
 intro g b Y H;obtain⟨hg,aa⟩:=H.ha rfl;obtain⟨hb,a9⟩:=H.hb rfl;have a4:=H.ne rfl rfl;have a8:=jV (ty:=24) (cells:=#[f,q]) hg acX rfl lW;have P:=H.h.setRow (g:=g) #[f,q] (.inr aa);refine eH 16 (λK a=>?_);refine fO (d:=bc) rfl 24 (.tmp 3) (.tmp 14) rfl rfl rfl a8 ?_;refine gK a P ?_;clear a K a8 H
 have av:=eQ (L':=[f,q]) hg;have a0:=(fQ Y g #[f,q] b (Ne.symm a4)).t hb;clear hg hb;generalize Y.setRow g #[f,q]=Y1 at *;have a8:=jV (ty:=24) (cells:=#[c1,c2]) a0 acX rfl lW;have a6:=P.setRow (g:=b) #[c1,c2] (.inr a9);refine eH 17 (λK a=>?_);refine fO (d:=bc) rfl 24 (.tmp 4) (.tmp 22) rfl rfl rfl a8 ?_;refine gZ a ?_;clear a K a8
 refine Wy ?_;have ax:=(fQ Y1 b #[c1,c2] g a4).t av;have a7:=eQ (L':=[c1,c2]) a0;generalize Y1.setRow b #[c1,c2]=V at *;have N:=t1.t a6;have i0:J [] V:=hJ [] W V bc h0 ⟨N.os,N.tape,N.output,N.size,λk s _=>N.old k s lz⟩ (λr e=>by cases e);obtain⟨M,L,HY,b8⟩:=lh4 (λ(i:Nat) (v:bj) (F:(#[f,q]:Array bj)[i]?=ba v) u (t:Kc V u)=>bK (t.old _ _ ax rfl) F) (λ(i:Nat) (v:bj) (F:(#[c1,c2]:Array bj)[i]?=ba v) u (t:Kc V u)=>bK (t.old _ _ a7 rfl) F) hY i0;have d0:IntKind.i64.wrap (c2-q)=c2-q:=(ZM _).t (fC _ gn gn);have d1:IntKind.i64.wrap (c2-q+1)=c2-q+1:=(ZM _).t (fC _ gn gn);have d2:IntKind.i64.wrap (c1-f)=c1-f:=(ZM _).t (fC _ gn gn);have d3:IntKind.i64.wrap (c1-f+1)=c1-f+1:=(ZM _).t (fC _ gn gn);have n0:c2-q+1<=2097180:=by omega
 have n1:c1-f+1<=2097180:=gn
 clear f0 f1 f2 f3 ax a7 i0 P a6 N t1 av a0 aa a9 a4 hY hJ aD hW h0 HC a5 HA HB S ex ey aR b0;have T:V.cell? ⟨g,0,bc⟩=ba (bq .i64 f):=M.o 0 _ rfl V (Kc.refl V);have U:V.cell? ⟨g,1,bc⟩=ba (bq .i64 q):=M.o 1 _ rfl V (Kc.refl V);have e2:V.cell? ⟨b,0,bc⟩=ba (bq .i64 c1):=L.o 0 _ rfl V (Kc.refl V);have e3:V.cell? ⟨b,1,bc⟩=ba (bq .i64 c2):=L.o 1 _ rfl V (Kc.refl V);generalize hd:c2-q=dy at *;generalize b4:dy+1=ny at *;go_wp2_with fail
 go_loopw [29] (λs29 wr=>∃(y:Nat) (pre:List (Int×Int)),s29=(y:Int)/\(y:Int)<=max ny 0/\pre.length=y*(c1-f+1).toNat/\J pre wr/\Kc V wr) (λs29 _=>(ny-intOf s29).toNat);case atStart=>exact⟨0,[],rfl,gn,lz,b8.o,Kc.refl V⟩
 obtain⟨y,pre,rfl,hy,b5,Q,s⟩:=hrel;clear T U e2 e3;have T:wr.cell? ⟨g,0,bc⟩=ba (bq .i64 f):=M.o 0 _ rfl wr s;have U:wr.cell? ⟨g,1,bc⟩=ba (bq .i64 q):=M.o 1 _ rfl wr s;have e2:wr.cell? ⟨b,0,bc⟩=ba (bq .i64 c1):=L.o 0 _ rfl wr s;have e3:wr.cell? ⟨b,1,bc⟩=ba (bq .i64 c2):=L.o 1 _ rfl wr s;by_cases b2:(y:Int)<ny
 .go_wp2_with fail
  go_loopw [38] (λs38 wx=>∃(x:Nat) (pre:List (Int×Int)),s38=(x:Int)/\(x:Int)<=max (c1-f+1) 0/\pre.length=y*(c1-f+1).toNat+x/\J pre wx/\Kc V wx) (λs38 _=>(c1-f+1-intOf s38).toNat);case atStart=>exact⟨0,pre,rfl,gn,gn,Q,s⟩
  obtain⟨x,pre,rfl,hx,b6,Q,s⟩:=hrel;clear T U e2 e3;have T:wr.cell? ⟨g,0,bc⟩=ba (bq .i64 f):=M.o 0 _ rfl wr s;have U:wr.cell? ⟨g,1,bc⟩=ba (bq .i64 q):=M.o 1 _ rfl wr s;have e2:wr.cell? ⟨b,0,bc⟩=ba (bq .i64 c1):=L.o 0 _ rfl wr s;have e3:wr.cell? ⟨b,1,bc⟩=ba (bq .i64 c2):=L.o 1 _ rfl wr s;by_cases b3:(x:Int)<c1-f+1
  .have aM:pre.length<10000000000000:=(by have h1:y*(c1-f+1).toNat<=2097180*2097180:=Nat.mul_le_mul gn gn;omega);obtain⟨fn,b9,assign,body,b1,hR⟩:=HY.o pre (wrap64 (f+(x:Int)),wrap64 (q+(y:Int))) wr Q aM;dsimp only [Y8]at b1;(go_upto_region 8 with fail);refine (wpIn_wide (n:=n)).1 ?_;gi_wp2;refine⟨λh=>by simp [Fence.wide]at h,hR.mono ?_⟩;rintro e W2 (⟨rfl,ay,aL⟩|⟨rfl,aE⟩)
   .gi_wp2;(go_wp2_with fail);exact⟨⟨x+1,_,lz,gn,by simp only [aO,List.length_cons,List.length_nil];omega,ay,xR s aL⟩,by simp only [intOf];omega⟩
   gi_wp2;(go_wp2_with fail);refine ag (results_none rfl _ _ _) rfl ?_;exact⟨⟨_,rfl⟩,.inr ⟨_,trivial,aE⟩⟩
  go_wp2_with fail
  have b7:x=(c1-f+1).toNat:=gn
  exact⟨⟨y+1,pre,lz,gn,by rw [Nat.succ_mul];omega,Q,s⟩,by simp only [intOf];omega⟩
 go_wp2;go_end0;exact⟨⟨_,rfl⟩,.inl ⟨pre,Q⟩⟩
end
