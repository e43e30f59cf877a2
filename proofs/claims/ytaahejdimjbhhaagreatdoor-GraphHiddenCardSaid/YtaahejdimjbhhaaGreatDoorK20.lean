import Derived.Test.YtaahejdimjbhhaaGreatDoorK17
import Derived.Test.YtaahejdimjbhhaaGreatDoorK19
set_option maxRecDepth 100000
set_option maxHeartbeats 0
set_option linter.all false
namespace Go.Proofs.YtaahejdimjbhhaaGreatDoor
open Tryz Go.RowKit Go.Den
open Option renaming some->bX,none->b4
open Go.Value renaming slice->ca,pointer->cb,agg->cc
open Go.Obj renaming cells->cd
structure E5(d:df)(bad:Option Nat): Prop where
 spc:∀s∈d.ag2,s.Good
 sn:d.sn<=8
 ln:d.ln<=40
 next:1<=d.next/\d.next<=1048576
 inc:d.ids.Pairwise (· < ·)
 pos:∀x∈d.ids,1<=x/\x<d.next
 root:∃l,dh d.agY d.root=bX l/\l.ag1=2
 lay:∀(i:Nat) (l:bI),d.agY[i]?=bX l->bad≠bX i->l.Tidy d.sn/\l.good=true/\l.Thin
 badl:∀i,bad=bX i->∃l,d.agY[i]?=bX l/\l.Bad
 ag0:bad=b4->∀(k:Nat) (l:bI),d.agY[k]?=bX l->pM d.agY d.root l=true
 clone:bad=b4->∀(k:Nat) (l:bI),d.agY[k]?=bX l->tK d.agY l
 acy:bad=b4->∀x,¬iY d.agY x x
 depth:bad=b4->dP d.agY 2501 d.root<=6
def VK(d:df)(a7:Option Nat)(e:Ending): Prop:=match a7 with
 |none=>∃t:Nat,e=.returned (cb (bX ⟨t,0,b4⟩))
 |some i=>∃l,d.agY[i]?=bX l/\e=.panicked [{ v:=xQ 1 l.id,recovered:=false }]
def df.row(d:df): List Value:=[ca d.sA d.sn d.sc,d.root,d.next,ca d.lA d.ln d.lc]
structure FW(w wr:World)(d:df)(b0 mb t:Nat)(D:Int->Option Value): Prop where
 tu:bH [] w wr
 h0:wr.heap[b0]?=bX (cd ⟨d.row⟩ 29 (0,0))
 ht:wr.heap[t]?=bX (cd #[ca d.sA d.sn d.sc,d.root,d.next,ca d.lA d.ln d.lc,.map (bX mb)] 254 (0,0))
 hm:lq wr mb D
 dat:d.At wr
 lt:w.heap.size<=b0/\b0<mb/\mb<t
theorem FW.u{w wr u:World}{d:df}{p a t:Nat}{D:Int->Option Value}(P:FW w wr d p a t D)(T:bH [] wr u): FW w u d p a t D:=
 ⟨P.tu.t T,T.ox P.h0,T.ox P.ht,P.hm.u T lz,P.dat.u T,P.lt⟩
theorem FW.tree{w wr:World}{d:df}{p a t:Nat}(P:FW w wr d p a t (BG d.ids)): qI wr t a d:=⟨P.ht,P.hm⟩
theorem FW.put{w wr u:World}{d:df}{p a t:Nat}{D b:Int->Option Value}(P:FW w wr d p a t D)(h:d.At w)(T:bH [a] wr u)(M:lq u a b): FW w u d p a t b:=by have a5:=P.lt;have c:bH [] w u:=P.tu.fresh T lO;exact⟨c,(T.old _ (ae.1 P.h0).1 lO).t P.h0,(T.old _ (ae.1 P.ht).1 lO).t P.ht,M,h.u c,P.lt⟩
def BD(a:List Int)(k:Nat): Int:=if k=0 then 0 else a.getD (k-1) 0
theorem Qx{a:List Int}(m:a.Pairwise (· < ·))(b:∀x∈a,1<=x){k:Nat}{x:Int}(d:a[k]?=bX x): BD a k<x:=by
 obtain⟨a5,rfl⟩:=ah.1 d;unfold BD;by_cases h:k=0
 .rw [aG h];have:=b _ (List.getElem_mem a5);omega
 rw [aF h];simp only [List.getD,aB (show k-1<a.length by omega),Option.getD_some];exact List.pairwise_iff_getElem.1 m (k-1) k gn a5 gn
theorem JF{a:List Int}{k:Nat}{x:Int}(d:a[k]?=bX x): BD a (k+1)=x:=by unfold BD;simp [List.getD,d]
theorem Qk{a:List Int}(n:a.Pairwise (· < ·)){k:Nat}{x:Int}(e:a[k]?=bX x): BG (a.take k) x=b4/\BG (a.take (k+1))=o6 (BG (a.take k)) x (k:Int):=by
 obtain⟨a5,g⟩:=ah.1 e;have f:∀i,i<k->a[i]?≠bX x:=λi b c=>by have m:=List.pairwise_iff_getElem.1 n i k gn a5 b;rw [aB gn]at c;injection c with c;rw [c,g]at m;omega
 have G:mW (a.take k) x=b4:=Bg λi b=>by rw [List.length_take]at b;rw [List.getElem?_take,aG gn];exact f i gn
 refine⟨by unfold BG;rw [G];rfl,?_⟩;funext q;unfold o6;by_cases d:q=x
 .subst d;rw [aG rfl];have:mW (a.take (k+1)) q=bX k:=vS (by rw [List.getElem?_take,aG gn];exact e) (λi b=>by rw [List.getElem?_take,aG gn];exact f i b);unfold BG;rw [this];rfl
 rw [aF d];unfold BG mW;rw [aT a5,List.findIdx?_append];cases o:(a.take k).findIdx? (· == q)with
 |some j=>rfl
 |none=>
  have:([a[k]]:List Int).findIdx? (· == q)=b4:=by rw [List.findIdx?_eq_none_iff];intro y l;rw [aN]at l;subst l;rw [g];simpa using λh=>d h.symm
  rw [this];rfl
theorem MF(d:df)(a7:Option Nat)(w:World)(h:d.At w)(C:E5 d a7):
  Calls prog 133 #[d.v] w λe w'=>VK d a7 e/\bH [] w w':=by
 have bc:oP d.agY:=h.agY.short (by have:=C.ln;omega);have bv:=λu:World=>run_makeMap (P:=prog) 252 u;have IX:∀(fn:Fn) (first av:Array Value) (w:World),(Instr.makeFunc fn first av).run prog w=.ok (.func fn first av) w:=λ_ _ _ _=>rfl;have b3:=h.agY.1;have n8:=C.sn;have bT:=C.ln;have e1:decide ((d.sn:Int)<=8)=true:=aC gn;have e2:decide ((d.ln:Int)<=40)=true:=aC gn;have e3:decide (1<=d.next)=true:=aC C.next.1;have e4:decide (d.next<=1048576)=true:=aC C.next.2;have bb:=λu (t:bH [] w u)=>Fh d.ag2 C.spc d.sA d.sn d.sc gn u (h.u t).ag2;obtain⟨ap,HA,n,aq,bt,a0,bL,bo⟩:=lh8 bb h C bc b3 gI bv IX;clear bb h C bc b3 IX;unfold df.v;obtain⟨W,I⟩:=eX (((w.alloc (cd ⟨d.row⟩ 29)).alloc (.map #[] 0)).alloc (cd #[ca d.sA d.sn d.sc,d.root,d.next,ca d.lA d.ln d.lc,.map (bX (w.heap.size+1))] 254));have T0:bH [] w W:=by rw [I];exact (((tR w).a _).a _).a _
 have x0:=dJ I;have x1:=Z5 I;have x2:=Zi I;have P0:FW w W d w.heap.size (w.heap.size+1) (w.heap.size+1+1) (BG (d.ids.take 0)):=⟨T0,x0,x2,by
  have:BG (d.ids.take 0)=λ_=>b4:=by funext q;rfl
  rw [this];exact uS x1,HA.o.u T0,gn⟩
 have br:=lh P0;clear P0 T0 x0 x1 x2;unfold df.row at I;go_enter func133,ntmps133;go_upto_region 2 with fail
 rw [<-I];clear I bL bv;generalize bR:w.heap.size=z at *;generalize bx:z+1=b at *;generalize bz:b+1=t at *;clear bx bz;have q0:=cO 0 (ca d.sA d.sn d.sc) br.o.h0;have q1:=cO 1 d.root br.o.h0;have q2:=cO 2 d.next br.o.h0;have L:=cO 3 (ca d.lA d.ln d.lc) br.o.h0;go_upto_region 3 with (go_at_call 197;refine (dX _ _ _).mono ?_;rintro e w3 ⟨rfl,rfl⟩)
 go_upto_region 5 with (first
  |(go_at_call 200;refine mR (ap.o _ br.o.tu) λw1 bd=>?_)
  |(go_at_call 197;refine (dX _ _ _).mono ?_;rintro e w3 ⟨rfl,rfl⟩))
 have ao:=lh (br.o.u bd);clear q0 q1 q2 L br bd ap e1 e2 e3 e4;have L:=cO 3 (ca d.lA d.ln d.lc) ao.o.h0;go_upto_region 7 with fail
 clear L;go_loopw [5,48] (λs5 s48 wr=>∃i:Nat,i<=d.ln/\s5=.int .i64 (BD d.ids i)/\s48=i/\FW w wr d z b t (BG (d.ids.take i))) (λ_ s48 _=>d.ln-(intOf s48).toNat);case atStart=>exact⟨0,gn,rfl,rfl,ao.o⟩
 obtain⟨i,hi,rfl,rfl,U⟩:=hrel;by_cases a5:i<d.ln
 .obtain⟨Q,Z,l,E,b9,D,bf⟩:=U.dat.load a5;obtain⟨bs,ar,a1,X,a4⟩:=lh5 (λu=>gX u l) bf U b9 D;have O:(0:Int)<=(i:Int):=by omega
  have c1:(i:Int)<(d.ln:Int):=gn
  clear bf U b9 D;rw [E];clear E;go_upto_region 9 with (first
   |(refine yR 52 (dw (p:=cb (bX ⟨Q,Z+i*31,b4⟩)) (v:=cc ⟨l.row⟩) rfl rfl ar.o) ?_)
   |(refine yR 7 (di (t:=51) rfl (a0.o _)) ?_)
   |(refine sR (bs.o _) ?_))
  obtain⟨V,f⟩:=eX (wr.alloc (cd ⟨l.row⟩ 51));have B:bH [] wr V:=rh
  have y:=YE f
  rw [<-f];clear f ar bs O c1;generalize wr.heap.size=A at *;have c:=lh (a1.o.u B);clear B a1;have J:d.ids[i]?=bX l.id:=ul
  have b5:l.id∈d.ids:=aH J;have b2:=Qx n.o.inc (λx hx=>(n.o.pos x hx).1) J;have b7:=(n.o.pos _ b5).2;have e1:decide (BD d.ids i<l.id)=true:=aC b2;have e2:decide (l.id<d.next)=true:=aC b7;have y0:=cP 0 _ y;have q2:=cO 2 d.next c.o.h0;have q4:=cO 4 (.map (bX b)) c.o.ht;have aL:=Qk n.o.inc J;have b6:=JF J;obtain⟨ac,bp,a8⟩:=lh3 aL b6 y;clear J b5 b2 b7 aL b6 y;generalize bB:BD d.ids i=bS at *;clear bB;go_upto_region 10 with (go_at_call 197;refine (dX _ _ _).mono ?_;rintro e w3 ⟨rfl,rfl⟩)
  obtain⟨sx,u,u2,ad,aE,a3,hM,hT⟩:∃s u w',(Instr.mapEntry 252 (.map (bX b)) l.id).run prog V.drew=.ok (.tuple #[(0:Int),s]) u/\bH [b] V.drew u/\(Instr.entryStore 252 (.map (bX b)) s (i:Int)).run prog u=.ok () w'/\lq w' b (o6 (BG (d.ids.take i)) l.id (i:Int))/\bH [b] V.drew w':=
   (c.o.u ((tR V).drawn 1)).hm.entry underlying252 underlying3 (KQ _) ac.o.1 (i:Int)
  obtain⟨HE,bm,HM,bw⟩:=lh4 ad a3 (bg hM hT) aE;clear ad a3 hM hT aE;refine cu.start (λu=>bH [b] V u) 12 lB ?_;have k:bH [b] V V.drew:=(bH.refl [b] V).drawn 1;have bA:A≠b:=λe=>by obtain⟨es,cl,h1,_⟩:=c.o.hm.ex;rw [<-e,a8.o]at h1;cases h1
  have F:Hid (∀w',bH [b] V w'->w'.cell? ⟨A,0,b4⟩=bX (.int .i64 l.id)/\w'.cell? ⟨t,4,b4⟩=bX (.map (bX b))):=lh λw' g=>⟨cP 0 _ ((g.old _ (ae.1 a8.o).1 (by simpa using bA)).t a8.o),cO 4 (.map (bX b)) ((g.old _ (ae.1 c.o.ht).1 (by have:=c.o.lt;simp;omega)).t c.o.ht)⟩;generalize hY:V.drew=Y at *;refine fK 0 ?_;refine fK 1 ?_;refine fK 2 ?_;refine fE 3 (.map (bX b)) ?_ (j:=λw' g=>by obtain⟨f0,f4⟩:=F.o _ g;go_simp);refine fK 4 ?_;refine fE 5 l.id ?_ (j:=λw' g=>by obtain⟨f0,f4⟩:=F.o _ g;go_simp);refine fE 6 ((i:Int)) ?_;refine fK 7 ?_;refine fE 8 l.id ?_ (j:=λw' g=>by obtain⟨f0,f4⟩:=F.o _ g;go_simp);have ad:=HE.o;refine eH 9 λK m=>?_;go_simp;have ay:bH [b] V u:=k.t bw.o;refine gK m ay ?_;clear m K ad
  refine cu.take (i:=10) (N:=99) (v:=sx) (d:=bX 77) rfl rfl lB (λ_ _ _ h=>h) rfl (λw' g=>nJ) ay ?_;try go_frame
  have a3:=bm.o;refine eH 11 λK m=>?_;go_simp;have aD:bH [b] V u2:=k.t HM.o.2;refine gK m aD ?_;clear m K a3
  refine Yo ?_
  have H:=lh (c.o.put HA.o aD HM.o.1);go_wp2;go_roundw;case rel=>exact⟨i+1,gn,by rw [bp.o],by go_num,by rw [ac.o.2];exact H.o⟩
  simp [intOf];omega
 obtain rfl:i=d.ln:=gn
 have bM:d.ids.take d.ln=d.ids:=aY (by have:=bt.o;unfold df.ids;rw [aJ];omega);rw [bM]at U;have c:=lh U;clear U;have bE:=n.o.root;have q1:=cO 1 d.root c.o.h0;obtain⟨rl,aw,bF⟩:=bE;have aa:=ql d t b d.root wr c.o.tree c.o.dat;have ba:iC d.agY d.root=rl:=by unfold iC;rw [aw];rfl
 rw [ba,aw,Option.isSome_some]at aa;have an:=lh aa;have bs:=lh (λu=>gX u rl);clear aa ba aw;go_upto_region 13 with (first
  |(go_at_call 201;refine mR an.o λM G=>?_)
  |(refine yR 8 (di (t:=51) rfl (a0.o _)) ?_)
  |(refine sR (bs.o _) ?_))
 obtain⟨V,f⟩:=eX (M.alloc (cd ⟨rl.row⟩ 51));have B:bH [] wr V:=by rw [f];exact G.a _
 have y:=YE f
 have y1:=cP 1 _ y;rw [bF]at y1;have a6:=lh (c.o.u B);rw [<-f];clear f B y q1 G an bs c bF;generalize M.heap.size=b8 at *;have q1:=cO 1 d.root a6.o.h0;go_upto_region 14 with (go_at_call 197;refine (dX _ _ _).mono ?_;rintro e w3 ⟨rfl,rfl⟩)
 have L:=cO 3 (ca d.lA d.ln d.lc) a6.o.h0;go_upto_region 15 with fail
 clear q1 L y1;go_loopw [98] (λs98 wr=>∃i:Nat,i<=d.ln/\s98=i/\(∀j,a7=bX j->i<=j)/\FW w wr d z b t (BG d.ids)) (λs98 _=>d.ln-(intOf s98).toNat);case atStart=>exact⟨0,gn,rfl,λ_ _=>gn,a6.o⟩
 obtain⟨i,hi,rfl,R,U⟩:=hrel;by_cases a5:i<d.ln
 .obtain⟨Q,Z,l,E,b9,D,bf⟩:=U.dat.load a5;obtain⟨bs,ar,a1,X,a4⟩:=lh5 (λu=>gX u l) bf U b9 D;have O:(0:Int)<=(i:Int):=by omega
  have c1:(i:Int)<(d.ln:Int):=gn
  clear bf U b9 D;rw [E];clear E;go_upto_region 17 with (first
   |(refine yR 101 (dw (p:=cb (bX ⟨Q,Z+i*31,b4⟩)) (v:=cc ⟨l.row⟩) rfl rfl ar.o) ?_)
   |(refine yR 11 (di (t:=51) rfl (a0.o _)) ?_)
   |(refine sR (bs.o _) ?_))
  obtain⟨V,f⟩:=eX (wr.alloc (cd ⟨l.row⟩ 51));have B:bH [] wr V:=rh
  have y:=YE f
  rw [<-f];clear f ar bs O c1;generalize wr.heap.size=A at *;have c:=lh (a1.o.u B);clear B a1;have b1:=run_loadVar_row (P:=prog) _ A 51 51 ⟨l.row⟩ (0,0) _ y underlying51 rfl (zero_of_info dS).2;have af:=lh b1;clear b1 y;have ax:=a4.o;by_cases a2:a7=bX i
  .subst a2;obtain⟨l',a9,hB⟩:=n.o.badl i rfl;obtain rfl:l=l':=(by rw [X.o]at a9;injection a9);have S:=kR l t V hB;have F:=lh S;clear S a9 hB R ax;go_wp2_with (first
    |(refine yR 103 (dw (p:=cb (bX ⟨A,0,b4⟩)) (v:=cc ⟨l.row⟩) rfl rfl af.o) ?_)
    |(go_at_call 202;refine mR F.o λM G=>?_))
   exact⟨rfl,⟨l,X.o,rfl⟩,c.o.tu.t G⟩
  obtain⟨bh,aR,be⟩:=n.o.lay i l X.o a2;have S:=IA d l t b V c.o.tree ((c.o.dat.agY.2 i l X.o).1) bh aR be;obtain⟨F,bk,bj⟩:=lh3 S a2 R;clear S bh aR be a2 R ax;go_wp2_with (first
   |(refine yR 103 (dw (p:=cb (bX ⟨A,0,b4⟩)) (v:=cc ⟨l.row⟩) rfl rfl af.o) ?_)
   |(go_at_call 202;refine mR F.o λM G=>?_))
  have H:=lh (c.o.u G);go_roundw;case rel=>exact⟨i+1,gn,by go_num,λj hj=>by have h1:=bj.o j hj;have h2:j≠i:=λe=>bk.o (e▸hj);omega,H.o⟩
  simp [intOf];omega
 obtain rfl:i=d.ln:=gn
 obtain rfl:a7=b4:=by
  cases hb:a7 with
  |none=>rfl
  |some j=>
   exfalso;have:=R j hb;obtain⟨l,hl,_⟩:=n.o.badl j hb;have h1:=(ah.1 hl).1;have:=bt.o;omega
 clear R;have c:=lh U;have am:=lh (JG d t b (n.o.ag0 rfl) (n.o.clone rfl) wr U.tree U.dat);clear U;go_upto_region 20 with (go_at_call 203;refine mR am.o λM G=>?_)
 have a6:=lh (c.o.u G);clear c am G;have L:=cO 3 (ca d.lA d.ln d.lc) a6.o.h0;go_upto_region 21 with fail
 clear L;go_loopw [111] (λs111 wr=>∃i:Nat,i<=d.ln/\s111=i/\FW w wr d z b t (BG d.ids)) (λs111 _=>d.ln-(intOf s111).toNat);case atStart=>exact⟨0,gn,rfl,a6.o⟩
 obtain⟨i,hi,rfl,U⟩:=hrel;by_cases a5:i<d.ln
 .obtain⟨Q,Z,l,E,b9,D,bf⟩:=U.dat.load a5;obtain⟨bs,ar,a1,X,a4⟩:=lh5 (λu=>gX u l) bf U b9 D;have O:(0:Int)<=(i:Int):=by omega
  have c1:(i:Int)<(d.ln:Int):=gn
  clear bf U b9 D;rw [E];clear E;go_upto_region 23 with (first
   |(refine yR 114 (dw (p:=cb (bX ⟨Q,Z+i*31,b4⟩)) (v:=cc ⟨l.row⟩) rfl rfl ar.o) ?_)
   |(refine yR 13 (di (t:=51) rfl (a0.o _)) ?_)
   |(refine sR (bs.o _) ?_))
  obtain⟨V,f⟩:=eX (wr.alloc (cd ⟨l.row⟩ 51));have B:bH [] wr V:=rh
  have y:=YE f
  rw [<-f];clear f ar bs O c1;generalize wr.heap.size=A at *;have c:=lh (a1.o.u B);clear B a1;have J:d.ids[i]?=bX l.id:=ul
  have ab:=λu (T:FW w u d z b t (BG d.ids))=>EH d t b l.id l.id aq.o (n.o.acy rfl) (n.o.acy rfl l.id) u T.tree T.dat;unfold wC at ab;have bq:=lh ab;clear ab J;have IX:=bo.o;refine cu.start (λu=>FW w u d z b t (BG d.ids)/\u.cell? ⟨A,0,b4⟩=bX (.int .i64 l.id)) 11 lB ?_;have k:FW w V.drew d z b t (BG d.ids)/\V.drew.cell? ⟨A,0,b4⟩=bX (.int .i64 l.id):=⟨c.o.u ((tR V).drawn 1),bJ (i:=0) (w:=V.drew) y rfl⟩;clear y;generalize V.drew=Y at *;refine fK 0 ?_;refine fK 1 ?_;refine Xy 2 l.id (λw' g=>g.2) ?_;refine fK 3 ?_;refine Xy 4 l.id (λw' g=>g.2) ?_;refine fK 5 ?_;refine fE 6 (.func (.func 205) #[cb (bX ⟨t,0,b4⟩)] #[]) ?_;refine fK 9 ?_;refine Xy 10 l.id (λw' g=>g.2) ?_;refine eH 7 λK m=>?_;go_simp;refine mR (bq.o _ k.1) λM G=>?_;have k:=bg (k.1.u G) (((bY G).1 _ _ (ai k.2)).t k.2);refine gK m k ?_;clear m K G
  refine fE 8 (.bool true) ?_;refine iZ λK m=>?_;go_simp;refine (dX _ _ _).mono ?_;rintro e w3 ⟨rfl,rfl⟩;refine m _ _ ?_;clear m K;try go_frame
  have H:=lh k.1;clear k;go_wp2;go_roundw;case rel=>exact⟨i+1,gn,by go_num,H.o⟩
  simp [intOf];omega
 obtain rfl:i=d.ln:=gn
 have c:=lh U;have bl:=lh (λu (T:FW w u d z b t (BG d.ids))=>AO d t b 2501 d.root (zk aq.o (n.o.acy rfl) _) gn u T.tree T.dat);have aM:=n.o.depth rfl;have e6:decide (dP d.agY 2501 d.root<=6)=true:=aC aM;clear U aM;generalize dP d.agY 2501 d.root=bP at *;go_upto_region 25 with fail
 refine cu.start (λu=>FW w u d z b t (BG d.ids)) 7 lB ?_;have k:FW w wr.drew d z b t (BG d.ids):=c.o.u ((tR wr).drawn 1);generalize wr.drew=Y at *;refine fK 0 ?_;refine fK 1 ?_;refine Xy 2 d.root (λw' g=>cO 1 d.root g.h0) ?_;refine fK 5 ?_;refine Xy 6 d.root (λw' g=>cO 1 d.root g.h0) ?_;refine eH 3 λK m=>?_;go_simp;refine mR (bl.o _ k) λM G=>?_;have k:=k.u G;refine gK m k ?_;clear m K G
 refine fE 4 (.bool true) ?_;refine iZ λK m=>?_;go_simp;refine mS (dX _ _ _) ?_;refine m _ _ ?_;clear m K;try go_frame
 have H:=lh k;clear k;go_wp2;go_ret;exact⟨⟨t,rfl⟩,H.o.tu⟩
