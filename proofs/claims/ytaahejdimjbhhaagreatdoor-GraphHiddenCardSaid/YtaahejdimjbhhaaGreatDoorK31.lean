import Derived.Test.YtaahejdimjbhhaaGreatDoorK24
import Derived.Test.YtaahejdimjbhhaaGreatDoorK30
set_option maxRecDepth 100000
set_option maxHeartbeats 0
set_option linter.all false
namespace Go.Proofs.YtaahejdimjbhhaaGreatDoor
open Tryz Go.RowKit Go.Den
open Go.Value renaming string->ca,slice->cb,pointer->cd,agg->ce
open Option renaming some->cf,none->cg
open Go.Obj renaming cells->ch
open Go renaming World->ci,run_loadAt_mid->cj,zero_of_info->ck
open Go.Proofs.Tryz renaming prog->cl,underlying3->cm,underlying51->co
theorem abu(d:df)(m:bI)(r:Rc)(hr:r.InC)(hf:jC m.Xg m.ks m.cs=true)(k:Nat)(ks:List Int)(C:List (List UInt8))(ad:C.length<=90000)(a9:(Le (XF::XR m.Xg m.ks m.cs::C)).length<=100000000000)(w:ci)(G:m.At w)(a5:m.Thin)(hG:YQ w)
  (a6:∀u,bH [] w u->Calls cl 127 #[d.v,m.id] u λe w'=>(∃v,(∃A c,v=cb A k c/\dn w' A k ks)/\e=.returned v)/\bH [] u w')
  (ac:∀u A c,bH [] w u->dn u A k ks->Calls cl 145 #[d.v,cb A k c,((m.nd r).can).v] u λe w'=>(∃v,e=.returned v/\Yg w' u.heap.size v C)/\bH [] u w') :
  CR 87 #[d.v,m.v,r.v] w (ca ⟨(fM (XF::XR m.Xg m.ks m.cs::C)).toArray⟩):=by
 obtain⟨l,F,an,am,L,J,a0⟩:=lh7 (aav w d m r) ac a6 (λu (t:bH [] w u)=>JB m.Xg m.ks m.cs u (G.ks.u t) (G.cs.u t) (by have:=a5.a;omega) (by have:=a5.b;omega)) (λu (t:bH [] w u)=>aan m.Xg m.ks m.cs hf r hr.bd u (G.ks.u t) (G.cs.u t)) (λA n ax u (t:bH [] w u) (h:DR u A n (XF::XR m.Xg m.ks m.cs::C))=>XM _ A n ax a9 u h (hG.u t)) ad;obtain⟨W,hW⟩:=eX (fA w d m r);rw [<-hW]at l;have q0:W.cell? ⟨w+1,0,cg⟩=cf (.int .i64 m.id):=by rw [aA _ _ _ _ _ _ l.o.h1];rfl
 have ba:Hid (∀V:ci,bH [] W V->(Instr.buildSlice 107 2 #[(0,ca ⟨#[98,101,108,111,119]⟩),(1,ca (U8 m.Xg m.ks m.cs))]).run cl V=.ok (cb (cf ⟨V,0,cg⟩) 2 2) (V.alloc (ch #[ca ⟨#[98,101,108,111,119]⟩,ca (U8 m.Xg m.ks m.cs)] 9))/\Yg (V.alloc (ch #[ca ⟨#[98,101,108,111,119]⟩,ca (U8 m.Xg m.ks m.cs)] 9)) W.heap.size (cb (cf ⟨V,0,cg⟩) 2 2) [XF,XR m.Xg m.ks m.cs]/\bH [] V (V.alloc (ch #[ca ⟨#[98,101,108,111,119]⟩,ca (U8 m.Xg m.ks m.cs)] 9))):=lh λV T=>by rw [aaT];exact⟨Zo _ _ V,Zx [XF,XR m.Xg m.ks m.cs] W V T lz,(tR V).a _⟩
 have ab:m.Xg.area (jC m.Xg m.ks m.cs) r (-1)=m.nd r:=rfl;rw [ab]at L;generalize U8 m.Xg m.ks m.cs=FB,XR m.Xg m.ks m.cs=E at *;generalize fM (XF::E::C)=O,m.nd r=Q at *;have S:=lh hW;clear a9 hW hG ac ad G a5 a6 hf hr ab;unfold fA at S;have a7:d.v=ce #[cb d.sA d.sn d.sc,d.root,d.next,cb d.lA d.ln d.lc]:=rfl;have aa:m.v=ce ⟨m.row⟩:=rfl;have af:r.v=ce #[r.x0,r.y0,r.x1,r.y1]:=rfl;rw [a7,aa,af];clear a7 aa af;go_enter func87,ntmps87;go_upto_region 1 with fail
 rw [<-S.o];clear S;refine sN 17 (tR W) λV i=>?_;refine fK 0 ?_;refine Xz 1 m.Xg.v (λw' B=>Zp (l.o.u B).h1) ?_;refine Xz 4 d.v (λw' B=>XP (l.o.u B).h0) ?_;refine Xz 5 d.v (λw' B=>XP (l.o.u B).h0) ?_;refine fK 6 ?_;refine Xy 7 m.id (λw' B=>((bY B).1 _ _ (ai q0)).t q0) ?_;refine fK 9 ?_;refine Xz 10 m.Xg.v (λw' B=>Zp (l.o.u B).h1) ?_;refine Xz 11 r.v (λw' B=>Ob (l.o.u B).h2) ?_;clear q0;refine PR 2 (am.o _ (l.o.t.t i)) λc1 i _=>?_
 generalize c1=X at *;refine tj 3 8 (λK f=>?_) (λK f=>?_)
 .obtain⟨z,g,tv⟩:=ba.o X i;refine bZ (d:=cf 10) rfl (Xw (t:=107) (x0:=.const (ca ⟨#[98,101,108,111,119]⟩)) (x1:=.tmp 9) rfl rfl rfl z) ?_;replace i:=i.t tv;refine gK f i ?_;clear f K z tv
  generalize X.heap.size=P,X.alloc (ch #[ca ⟨#[98,101,108,111,119]⟩,ca FB] 9)=Y1 at *;refine eH 8 (λK f=>?_);go_simp;refine (an.o Y1 (l.o.t.t i)).mono ?_;rintro e Y3 ⟨⟨v,⟨A,c,rfl,j⟩,rfl⟩,u1⟩;replace g:=g.u u1;replace i:=i.t u1;refine gK f i ?_;clear f K u1
  refine PR 12 (L.o Y3 (l.o.t.t i)) λY5 i u1=>?_;replace j:=j.u u1;replace g:=g.u u1;clear u1
  refine PR 13 (pz Q Y5) λY7 i u1=>?_;replace j:=j.u u1;replace g:=g.u u1;clear u1
  refine eH 14 (λK f=>?_);go_simp;refine (F.o Y7 A c (l.o.t.t i) j).mono ?_;rintro e Y9 ⟨⟨Y,rfl,p⟩,u1⟩;replace g:=g.u u1;replace i:=i.t u1;refine gK f i ?_;clear f K u1 j
  obtain⟨R,Z,s,x,y⟩:=XJ g p i oH 107;obtain⟨q,I,c2,rfl,a8⟩:=x.strs;have a8:DR Z q I (XF::E::C):=a8;refine ty 15 rfl (dL (.tmp 10) (.tmp 21) 107 rfl rfl rfl s) λK f=>?_;refine gK f y ?_;clear f K s x i g p
  refine PR 16 (J.o q I c2 Z (l.o.t.t y) a8) λU D _=>?_
  refine eH 17 (λK f=>?_);go_simp;refine gZ f ?_;clear f K
  refine Wy ?_;go_wp2;go_ret;exact⟨rfl,l.o.t.t D⟩
 go_simp;refine (an.o X (l.o.t.t i)).mono ?_;rintro e H ⟨⟨v,⟨A,c,rfl,j⟩,rfl⟩,u1⟩;replace i:=i.t u1;refine gK f i ?_;clear f K u1
 refine tj 3 12 (λK f=>?_) (λK f=>?_)
 .obtain⟨z,g,tv⟩:=ba.o H i;refine bZ (d:=cf 10) rfl (Xw (t:=107) (x0:=.const (ca ⟨#[98,101,108,111,119]⟩)) (x1:=.tmp 9) rfl rfl rfl z) ?_;replace i:=i.t tv;replace j:=j.u tv;refine gK f i ?_;clear f K z tv
  generalize H.heap.size=P,H.alloc (ch #[ca ⟨#[98,101,108,111,119]⟩,ca FB] 9)=ao at *;refine PR 12 (L.o ao (l.o.t.t i)) λap i u1=>?_;replace j:=j.u u1;replace g:=g.u u1;clear u1
  refine PR 13 (pz Q ap) λaq i u1=>?_;replace j:=j.u u1;replace g:=g.u u1;clear u1
  refine eH 14 (λK f=>?_);go_simp;refine (F.o aq A c (l.o.t.t i) j).mono ?_;rintro e ay ⟨⟨Y,rfl,p⟩,u1⟩;replace g:=g.u u1;replace i:=i.t u1;refine gK f i ?_;clear f K u1 j
  obtain⟨R,Z,s,x,y⟩:=XJ g p i oH 107;obtain⟨q,I,c2,rfl,a8⟩:=x.strs;have a8:DR Z q I (XF::E::C):=a8;refine ty 15 rfl (dL (.tmp 10) (.tmp 21) 107 rfl rfl rfl s) λK f=>?_;refine gK f y ?_;clear f K s x i g p
  refine PR 16 (J.o q I c2 Z (l.o.t.t y) a8) λU D _=>?_
  refine eH 17 (λK f=>?_);go_simp;refine gZ f ?_;clear f K
  refine Wy ?_;go_wp2;go_ret;exact⟨rfl,l.o.t.t D⟩
 go_simp;refine mR (L.o H (l.o.t.t i)) λM u1=>?_;replace j:=j.u u1;replace i:=i.t u1;refine gK f i ?_;clear f K u1
 refine tj 3 13 (λK f=>?_) (λK f=>?_)
 .obtain⟨z,g,tv⟩:=ba.o M i;refine bZ (d:=cf 10) rfl (Xw (t:=107) (x0:=.const (ca ⟨#[98,101,108,111,119]⟩)) (x1:=.tmp 9) rfl rfl rfl z) ?_;replace i:=i.t tv;replace j:=j.u tv;refine gK f i ?_;clear f K z tv
  generalize M.heap.size=P,M.alloc (ch #[ca ⟨#[98,101,108,111,119]⟩,ca FB] 9)=ar at *;refine PR 13 (pz Q ar) λav i u1=>?_;replace j:=j.u u1;replace g:=g.u u1;clear u1
  refine eH 14 (λK f=>?_);go_simp;refine (F.o av A c (l.o.t.t i) j).mono ?_;rintro e aD ⟨⟨Y,rfl,p⟩,u1⟩;replace g:=g.u u1;replace i:=i.t u1;refine gK f i ?_;clear f K u1 j
  obtain⟨R,Z,s,x,y⟩:=XJ g p i oH 107;obtain⟨q,I,c2,rfl,a8⟩:=x.strs;have a8:DR Z q I (XF::E::C):=a8;refine ty 15 rfl (dL (.tmp 10) (.tmp 21) 107 rfl rfl rfl s) λK f=>?_;refine gK f y ?_;clear f K s x i g p
  refine PR 16 (J.o q I c2 Z (l.o.t.t y) a8) λU D _=>?_
  refine eH 17 (λK f=>?_);go_simp;refine gZ f ?_;clear f K
  refine Wy ?_;go_wp2;go_ret;exact⟨rfl,l.o.t.t D⟩
 go_simp;refine mR (pz Q M) λN u1=>?_;replace j:=j.u u1;replace i:=i.t u1;refine gK f i ?_;clear f K u1
 refine tj 3 14 (λK f=>?_) (λK f=>?_)
 .obtain⟨z,g,tv⟩:=ba.o N i;refine bZ (d:=cf 10) rfl (Xw (t:=107) (x0:=.const (ca ⟨#[98,101,108,111,119]⟩)) (x1:=.tmp 9) rfl rfl rfl z) ?_;replace i:=i.t tv;replace j:=j.u tv;refine gK f i ?_;clear f K z tv
  generalize N.heap.size=P,N.alloc (ch #[ca ⟨#[98,101,108,111,119]⟩,ca FB] 9)=aw at *;refine eH 14 (λK f=>?_);go_simp;refine (F.o aw A c (l.o.t.t i) j).mono ?_;rintro e aE ⟨⟨Y,rfl,p⟩,u1⟩;replace g:=g.u u1;replace i:=i.t u1;refine gK f i ?_;clear f K u1 j
  obtain⟨R,Z,s,x,y⟩:=XJ g p i oH 107;obtain⟨q,I,c2,rfl,a8⟩:=x.strs;have a8:DR Z q I (XF::E::C):=a8;refine ty 15 rfl (dL (.tmp 10) (.tmp 21) 107 rfl rfl rfl s) λK f=>?_;refine gK f y ?_;clear f K s x i g p
  refine PR 16 (J.o q I c2 Z (l.o.t.t y) a8) λU D _=>?_
  refine eH 17 (λK f=>?_);go_simp;refine gZ f ?_;clear f K
  refine Wy ?_;go_wp2;go_ret;exact⟨rfl,l.o.t.t D⟩
 go_simp;refine (F.o N A c (l.o.t.t i) j).mono ?_;rintro e a4 ⟨⟨Y,rfl,p⟩,u1⟩;replace i:=i.t u1;refine gK f i ?_;clear f K u1 j
 refine eH 3 (λK f=>?_);obtain⟨z,g,tv⟩:=ba.o a4 i;refine bZ (d:=cf 10) rfl (Xw (t:=107) (x0:=.const (ca ⟨#[98,101,108,111,119]⟩)) (x1:=.tmp 9) rfl rfl rfl z) ?_;replace i:=i.t tv;replace p:=p.u tv;refine gK f i ?_;clear f K z tv
 generalize a4.heap.size=P,a4.alloc (ch #[ca ⟨#[98,101,108,111,119]⟩,ca FB] 9)=aL at *;obtain⟨R,Z,s,x,y⟩:=XJ g p i oH 107;obtain⟨q,I,c2,rfl,a8⟩:=x.strs;have a8:DR Z q I (XF::E::C):=a8;refine ty 15 rfl (dL (.tmp 10) (.tmp 21) 107 rfl rfl rfl s) λK f=>?_;refine gK f y ?_;clear f K s x i g p
 refine PR 16 (J.o q I c2 Z (l.o.t.t y) a8) λU D _=>?_
 refine eH 17 (λK f=>?_);go_simp;refine gZ f ?_;clear f K
 refine Wy ?_;go_wp2;go_ret;exact⟨rfl,l.o.t.t D⟩
theorem agn{w u:ci}{d:df}{m:bI}{r:Rc}(B:Bx w d m r u)(q:Rc):
  (Instr.storeAt 59 (cd (cf ⟨w+2,0,cg⟩)) q.v).run cl u=.ok () (u.setRow (w+2) #[q.x0,q.y0,q.x1,q.y1])/\Bx w d m q (u.setRow (w+2) #[q.x0,q.y0,q.x1,q.y1]):=by
 have aq:∀(g:Nat) (c:Array Value),g≠w.heap.size+2->(u.setRow (w+2) c).heap[g]?=u.heap[g]?:=λg c a=>nu
 refine⟨jV (ty:=59) B.h2 lB rfl lW,B.t.setRow _ (.inr gn),(aq _ _ gn).t B.h0,(aq _ _ gn).t B.h1,?_⟩;simp only [World.setRow,au,if_true,B.h2];rfl
theorem afi(V:ci)(b:Nat)(h:lq V b λ_=>cg)(f1 f2 f3 N F:Value):
  ∃V1 a V3 c d,(Instr.mapUpdate 167 (.map (cf b)) (1:Int) f1).run cl V=.ok () V1/\
   (Instr.mapUpdate 167 (.map (cf b)) (5:Int) f2).run cl V1=.ok () a/\
   (Instr.mapUpdate 167 (.map (cf b)) (4:Int) f3).run cl a=.ok () V3/\
   (Instr.mapUpdate 167 (.map (cf b)) (2:Int) N).run cl V3=.ok () c/\
   (Instr.mapUpdate 167 (.map (cf b)) (3:Int) F).run cl c=.ok () d/\
   lq d b (o6 (o6 (o6 (o6 (o6 (λ_=>cg) 1 f1) 5 f2) 4 f3) 2 N) 3 F)/\bH [b] V V1/\bH [b] V a/\bH [b] V V3/\bH [b] V c/\bH [b] V d:=by
 obtain⟨V1,e,u,i⟩:=h.upd (P:=cl) (mt:=167) underlying167 cm 1 f1;obtain⟨a,j,x,m⟩:=u.upd (P:=cl) (mt:=167) underlying167 cm 5 f2;obtain⟨V3,l,y,K⟩:=x.upd (P:=cl) (mt:=167) underlying167 cm 4 f3;obtain⟨c,f,g,L⟩:=y.upd (P:=cl) (mt:=167) underlying167 cm 2 N;obtain⟨d,n,k,o⟩:=g.upd (P:=cl) (mt:=167) underlying167 cm 3 F;exact⟨V1,a,V3,c,d,e,j,l,f,n,k,i,i.t m,(i.t m).t K,((i.t m).t K).t L,(((i.t m).t K).t L).t o⟩
theorem agH(w:ci): (zeroValue 99).run cl w=.ok .nilFunc w:=lB
theorem Y4(d:df)(m:bI)(a:Rc)(r:Rc)(kb:Bs)(f:Nat)(A:(m.ag1=1/\f=83)\/(m.ag1=5/\f=84)\/(m.ag1=4/\f=85)\/(m.ag1=2/\f=86)\/(m.ag1=3/\f=87))(w:ci)(Q:YQ w)
  (S:∀u,bH [] w u->CR 64 #[d.v,m.v] u a.v)
  (a0:XD a r.can=true->∀u,bH [] w u->Calls cl f #[d.v,m.v,r.can.v] u λe w'=>e=.returned (ca ⟨kb.toArray⟩)/\bH [] u w') :
  CR 34 #[d.v,m.v,r.v] w (ca ⟨(if XD a r.can=false then Jd.join [Yf] else kb).toArray⟩):=by
 obtain⟨Z,z,a7,H⟩:=lh4 (aav w d m r) S a0 A;have a2:Jd.join [Yf]=fM [Yf]:=rfl;have G:=lh (λ(g:Nat) u (t:bH [] w u) (h:DR u (cf ⟨g,0,cg⟩) 1 [Yf])=>XM [Yf] _ 1 1 lG u h (Q.u t));have bs:Hid (∀V:ci,DR (V.alloc (ch #[ca ⟨#[101,109,112,116,121]⟩] 9)) (cf ⟨V,0,cg⟩) 1 [Yf]):=lh λV=>XO [Yf] V;obtain⟨I,E,L⟩:=lh3 (λV=>YT ⟨#[101,109,112,116,121]⟩ V) (λu=>pz r u) (λu=>Yr a r.can u);rw [a2];clear a2 S a0 A Q;generalize fM [Yf]=JE,r.can=l at *;obtain⟨mb,B⟩:=eX (XD a l);rw [<-B]at L;rw [<-B];have ac:=lh B;clear B;obtain⟨W,D⟩:=eX (fA w d m r);rw [<-D]at Z;have am:=lh (Ob Z.o.h2);have C:=lh D;clear D;unfold fA at C;have a6:d.v=ce #[cb d.sA d.sn d.sc,d.root,d.next,cb d.lA d.ln d.lc]:=rfl;have a4:m.v=ce ⟨m.row⟩:=rfl;have a5:r.v=ce #[r.x0,r.y0,r.x1,r.y1]:=rfl;rw [a6,a4,a5];clear a6 a4 a5;go_enter func34,ntmps34;go_upto_region 1 with fail
 rw [<-C.o];clear C;go_upto_region 2 with (first
  |(refine lR 8 am.o ?_)
  |(go_at_call 67;refine mR (E.o W) λw1 t1=>?_;obtain⟨ab,T⟩:=agn (Z.o.u t1) l;have b3:=lh ab;have b:=lh T;clear ab T t1)
  |(refine sR b3.o ?_))
 clear b3 Z am E;generalize w1.setRow (w+2) #[l.x0,l.y0,l.x1,l.y1]=X at *;cases mb with
 |false=>
  refine sN 5 (tR X) λY i=>?_;refine Xz 0 (d.v) (λw' c=>XP (b.o.u c).h0) ?_;refine Xz 1 (m.v) (λw' c=>XU (b.o.u c).h1) ?_;refine Xz 3 (l.v) (λw' c=>Ob (b.o.u c).h2) ?_;refine PR 2 (z.o _ (b.o.t.t i)) λc1 i _=>?_
  refine PR 4 (L.o _) λc2 i _=>?_
  refine eH 5 (λK y=>?_);go_simp;refine gZ y ?_;clear y K
  refine Wy ?_;have M:=lh (b.o.t.t i);clear i z a7 L;go_wp2_with (first
   |((with_reducible refine yA 16 (cb (cf ⟨c2,0,cg⟩) 1 1) (c2.alloc (ch #[ca ⟨#[101,109,112,116,121]⟩] 9)) ?_ ?_);(next=>exact dV (t:=107) (x:=.const (ca ⟨#[101,109,112,116,121]⟩)) rfl rfl (I.o _));try go_frame)
   |(go_at_call 82;refine mR (G.o _ _ (M.o.a _) (bs.o c2)) λc3 u3=>?_))
  go_ret;exact⟨rfl,(M.o.a _).t u3⟩
 |true=>
  have ax:=lh (a7.o ac.o.symm);refine sN 5 (tR X) λY i=>?_;refine Xz 0 (d.v) (λw' c=>XP (b.o.u c).h0) ?_;refine Xz 1 (m.v) (λw' c=>XU (b.o.u c).h1) ?_;refine Xz 3 (l.v) (λw' c=>Ob (b.o.u c).h2) ?_;refine PR 2 (z.o _ (b.o.t.t i)) λc1 i _=>?_
  refine PR 4 (L.o _) λc2 i _=>?_
  refine eH 5 (λK y=>?_);go_simp;refine gZ y ?_;clear y K
  refine Wy ?_;have p:=b.o.u i;clear i z a7 L b G bs I;have bv:=λu:ci=>run_makeMap (P:=cl) 167 u;have IX:∀(O:Fn) (first N:Array Value) (w:ci),(Instr.makeFunc O first N).run cl w=.ok (.func O first N) w:=λ_ _ _ _=>rfl;obtain⟨V1,V2,V3,V4,n,p1,p2,p3,p4,p5,R,q1,q2,q3,q4,q5⟩:=afi _ _ (ad4 c2) (.func (.func 83) #[d.v] #[]) (.func (.func 84) #[d.v] #[]) (.func (.func 85) #[d.v] #[]) (.func (.func 86) #[d.v] #[]) (.func (.func 87) #[d.v] #[]);have F:∀{u:ci},bH [c2.heap.size] (c2.alloc (.map #[] 0)) u->bH [] c2 u:=λk=>((tR c2).a _).fresh k lz;have ba:=lh (XP (p.u ((tR c2).alloc (.map #[] 0))).h0);obtain⟨aa,a9,a1,ad⟩:=lh4 (XP (p.u (F q1)).h0) (XP (p.u (F q2)).h0) (XP (p.u (F q3)).h0) (XP (p.u (F q4)).h0);have s:=p.u (F q5);obtain⟨a3,am,a8,q⟩:=lh4 (XU s.h1) (Ob s.h2) s.t (λk=>R.look (P:=cl) (mt:=167) underlying167 cm (agH n) k);have J:n.cell? ⟨w+1,1,cg⟩=cf (.int .i64 m.ag1):=by rw [aA _ _ _ _ _ _ s.h1];rfl
  clear p s R q1 q2 q3 q4 q5 F;go_upto_region 5 with (first
   |(refine lR 19 ba.o ?_)
   |(refine lR 21 aa.o ?_)
   |(refine lR 23 a9.o ?_)
   |(refine lR 25 a1.o ?_)
   |(refine lR 27 ad.o ?_))
  clear p1 p2 p3 p4 p5 ba aa a9 a1 ad bv IX;have A:=H.o;clear H;rcases A with ⟨j,rfl⟩|⟨j,rfl⟩|⟨j,rfl⟩|⟨j,rfl⟩|⟨j,rfl⟩
  .have U:=q.o 1;rw [j]at J;simp only [o6,reduceIte,Int.reduceEq,Option.getD_some]at U;go_wp2_with (first
    |(refine lR 34 a3.o ?_)
    |(refine lR 35 am.o ?_)
    |(go_at_call 83;refine mR (ax.o n a8.o) λc3 u3=>?_))
   go_ret;exact⟨rfl,a8.o.t u3⟩
  .have U:=q.o 5;rw [j]at J;simp only [o6,reduceIte,Int.reduceEq,Option.getD_some]at U;go_wp2_with (first
    |(refine lR 34 a3.o ?_)
    |(refine lR 35 am.o ?_)
    |(go_at_call 84;refine mR (ax.o n a8.o) λc3 u3=>?_))
   go_ret;exact⟨rfl,a8.o.t u3⟩
  .have U:=q.o 4;rw [j]at J;simp only [o6,reduceIte,Int.reduceEq,Option.getD_some]at U;go_wp2_with (first
    |(refine lR 34 a3.o ?_)
    |(refine lR 35 am.o ?_)
    |(go_at_call 85;refine mR (ax.o n a8.o) λc3 u3=>?_))
   go_ret;exact⟨rfl,a8.o.t u3⟩
  .have U:=q.o 2;rw [j]at J;simp only [o6,reduceIte,Int.reduceEq,Option.getD_some]at U;go_wp2_with (first
    |(refine lR 34 a3.o ?_)
    |(refine lR 35 am.o ?_)
    |(go_at_call 86;refine mR (ax.o n a8.o) λc3 u3=>?_))
   go_ret;exact⟨rfl,a8.o.t u3⟩
  have U:=q.o 3;rw [j]at J;simp only [o6,reduceIte,Int.reduceEq,Option.getD_some]at U;go_wp2_with (first
   |(refine lR 34 a3.o ?_)
   |(refine lR 35 am.o ?_)
   |(go_at_call 87;refine mR (ax.o n a8.o) λc3 u3=>?_))
  go_ret;exact⟨rfl,a8.o.t u3⟩
def YB(a:List (bI×Rc))(i:Nat): List bI:=((a.take i).map (·.1)).reverse
theorem ac3{a:List (bI×Rc)}{i:Nat}{x:bI×Rc}(h:a[i]?=cf x): YB a (i+1)=x.1::YB a i:=by obtain⟨m,rfl⟩:=ah.1 h;unfold YB;rw [aT m,List.map_append,List.reverse_append];rfl
theorem acl{l m:bI}(h:l.Like m)(r:Rc): Yh m r=Yh l r:=ud
theorem adn{l m:bI}(h:l.Like m): m.clip=l.clip/\m.ag1=l.ag1:=ru
theorem Z9(l:bI)(r:Rc): (Le (Yh l r)).length<=1000:=by
 have e:(fM (ik r l.mask)).length=32:=XN _;have f:(Qz l.Xl).length<=10:=Lib.uvarint_length64 (AZ l.Xl);unfold Yh;split
 .simp only [Le,List.flatMap_cons,List.flatMap_nil,aO,En,List.length_nil,e,YY,List.length_cons];omega
 simp only [Le,List.flatMap_cons,List.flatMap_nil,aO,En,List.length_nil];omega
theorem aaB(a:bI->Rc->Bs)(w:Rc): ∀c:List bI,(YL Jd a w c).length<=32
 | []=>by simp [YL,Ze]
 |b::bs=>by
  unfold YL;split
  .exact Nat.le_of_eq (XN _)
  exact aaB a w bs
structure acY(w:ci)(A:Option Addr)(n:Nat)(ds:List (bI×Rc)): Prop where
 len:n=ds.length
 n50:n<=50
 row:∀(j:Nat) (x:bI×Rc),ds[j]?=cf x->∃g o,A=cf ⟨g,o,cg⟩/\w.rangeAt g (o+j*35) (DF x)
 at_:∀x∈ds,x.1.At w
theorem acY.u{w u:ci}{A:Option Addr}{n:Nat}{ds:List (bI×Rc)}(h:acY w A n ds)(T:bH [] w u): acY u A n ds:=
 ⟨h.len,h.n50,λj x a=>by obtain⟨g,o,e,C⟩:=h.row j x a;exact⟨g,o,e,fJ T C⟩,λx a=>(h.at_ x a).u T⟩
theorem acY.load{w:ci}{A:Option Addr}{n:Nat}{ds:List (bI×Rc)}(h:acY w A n ds){j:Nat}{x:bI×Rc}(b:ds[j]?=cf x): ∃g o,A=cf ⟨g,o,cg⟩/\(Instr.loadAt 144 (cd (cf ⟨g,o+j*35,cg⟩))).run cl w=.ok (ce ⟨DF x⟩) w/\(Instr.loadAt 51 (cd (cf ⟨g,o+j*35,cg⟩))).run cl w=.ok (ce ⟨x.1.row⟩) w:=by obtain⟨g,o,e,C⟩:=h.row j x b;refine⟨g,o,e,cj (P:=cl) w g (o+j*35) 144 (DF x) _ C underlying144 rfl abZ,?_⟩;refine cj (P:=cl) w g (o+j*35) 51 x.1.row _ (λk u a=>C k u ?_) co rfl (ck dS).2;unfold DF;rw [bD (ah.1 a).1];exact a
structure jq(w:ci)(d:df)(m:bI)(q:Rc)(b7:Nat)(u:ci): Prop where
 t:bH [] w u
 h0:u.heap[w.heap.size]?=cf (ch #[cb d.sA d.sn d.sc,d.root,d.next,cb d.lA d.ln d.lc] 94 (0,0))
 h7:u.heap[b7]?=cf (ch ⟨DF (m,q)⟩ 144 (0,0))
theorem jq.u{w u v:ci}{d:df}{m:bI}{q:Rc}{a:Nat}(B:jq w d m q a u)(T:bH [] u v): jq w d m q a v:=
 ⟨B.t.t T,T.ox B.h0,T.ox B.h7⟩
theorem Zl{u:ci}{b:Nat}{m:bI}{q:Rc}(h:u.heap[b]?=cf (ch ⟨DF (m,q)⟩ 144 (0,0))): (Instr.loadAt 51 (cd (cf ⟨b,0,cg⟩))).run cl u=.ok m.v u:=
 cj u b 0 51 m.row _ (gp h (by simp [DF])) co rfl (ck dS).2
theorem Zb{u:ci}{b:Nat}{m:bI}{q:Rc}(h:u.heap[b]?=cf (ch ⟨DF (m,q)⟩ 144 (0,0))): (Instr.loadAt 59 (cd (cf ⟨b,31,cg⟩))).run cl u=.ok q.v u:=
 cj u b 31 59 [q.x0,q.y0,q.x1,q.y1] _ (gp h rfl) underlying59 rfl lB
theorem adh(d:df)(f:bI->Rc->Bs)(bp:∀l r,(f l r).length<=32)(D ds:List (bI×Rc))(A:Option Addr)(n c i:Nat)(l m:bI)(q:Rc)(hl:D[i]?=cf (l,q))(P:ds[i]?=cf (m,q))(av:wV D ds)(bt:∀x∈D,x.1.ag3=false)(aD:∀x∈D,x.1.Thin)(w:ci)(M:acY w A n ds)(hG:YQ w)
  (bo:∀x∈D,x.1.ag1≠3->∀s,x.1.Like s->∀u,bH [] w u->s.At u->CR 34 #[d.v,s.v,q.v] u (ca ⟨(f x.1 q).toArray⟩)) :
  CR 219 #[d.v,cb A n c,i] w (ca ⟨(aay Jd f (YB D i) l q).toArray⟩):=by
 obtain⟨g,o,rfl,bS,_⟩:=M.load P;have bk:i<n:=by rw [M.len];exact (ah.1 P).1
 have cY:=M.n50;have R:l.Like m:=by obtain⟨l',I,h2⟩:=av.get i _ P;rw [hl]at I;injection I with I;injection I with I;subst I;exact h2
 have a4:m.clip=l.clip:=by unfold bI.Like at R;rw [R]
 have be:=M.at_ _ (aH P);have br:=R.thin (aD _ (aH hl));have am:=lh (λu (t:bH [] w u)=>abO m q br.m u (be.mask.u t) (hG.u t));rw [acl R]at am;have ap:aay Jd f (YB D i) l q=fM (Yh l q++[if l.clip=true then YL Jd f q (YB D i) else []]):=rfl;obtain⟨C,B⟩:=eX (if l.clip=true then YL Jd f q (YB D i) else [])
 rw [<-B]at ap;have bM:C.length<=32:=by
  rw [B];split
  .exact aaB f q _
  simp
 have bl:(Le (Yh l q++[C])).length<=100000000000:=ob
 have bc:Hid ((Yh l q).length=2):=lh rfl;have b4:=lh (λA n ao u (t:bH [] w u) (h:DR u A n (Yh l q++[C]))=>XM _ A n ao bl u h (hG.u t));rw [ap];obtain⟨W,hW⟩:=eX (w.alloc (ch #[cb d.sA d.sn d.sc,d.root,d.next,cb d.lA d.ln d.lc] 94));have T0:bH [] w W:=hW▸(tR w).a _;have a9:=(M.u T0).load P;obtain⟨g',o',E,a9,_⟩:=a9;obtain⟨rfl,rfl⟩:g=g'/\o=o':=qA
 have h0:=YE hW
 obtain⟨ba,cn,bs⟩:=lh3 a9 abk (λu=>abd u (m,q));obtain⟨V,hV⟩:=eX (W.alloc (ch ⟨DF (m,q)⟩ 144));have TV:bH [] W V:=hV▸(tR W).a _;have h7:=YE hV
 have HC:Hid (jq w d m q W.heap.size V):=lh ⟨T0.t TV,TV.ox h0,h7⟩;have HA:=lh (M.u (T0.t TV));have Z:=cP 6 (.bool m.clip) h7;rw [a4]at Z;obtain⟨HW,HV,ad,aL,af,a6,HG,b5⟩:=lh8 hW hV bo B av (bg bt aD) hG bp;have a5:=lh (bg bk cY);have c0:(0:Int)<=(i:Int):=gn
 have c1:(i:Int)<(n:Int):=gn
 have c2:(i:Int)<=50:=gn
 have c7:Hid (∀u:ci,bH [] w u->bH [] w u):=lh λ_ t=>t;clear bS a9 E bk cY R a4 be br ap B bM bl hW hV TV T0 h0 h7 bo av bt aD hG bp M P;have aq:d.v=ce #[cb d.sA d.sn d.sc,d.root,d.next,cb d.lA d.ln d.lc]:=rfl;rw [aq];clear aq;go_enter func219,ntmps219;go_upto_region 1 with fail
 rw [<-HW.o];clear HW;go_upto_region 2 with (first
  |(refine lR 14 ba.o ?_)
  |((with_reducible refine yA 7 (cd (cf ⟨W,0,cg⟩)) (W.alloc (ch ⟨WQ⟩ 144)) ?_ ?_);(next=>exact di (t:=144) rfl (cn.o _));try go_frame)
  |(refine sR (bs.o _) ?_))
 rw [<-HV.o];clear HV ba cn bs;generalize W.heap.size=b7 at *;go_upto_region 3 with fail
 go_upto_if 17 with fail
 go_cut [8] (λs8 wx=>s8=ca ⟨C.toArray⟩/\bH [] V wx);case first=>
  clear am b4 bc;as_aux_lemma=>
  cases a4:l.clip with
  |false=>
   rw [a4]at Z;have B:=aL.o;rw [a4,aF lz]at B;subst B;clear aL;go_wp2;go_meet;exact⟨rfl,bH.refl _ _⟩
  |true=>
   rw [a4]at Z;have B:=aL.o;rw [a4,aG rfl]at B;clear aL a4;(go_upto_region 5 with fail);(go_upto_region 6 with fail);go_loopw [8,9] (λs8 s9 wr=>∃j:Nat,j<=i/\s8=ca ⟨Ze.toArray⟩/\s9=.int .i64 ((j:Int)-1)/\bH [] V wr/\C=YL Jd f q (YB D j)) (λ_ s9 _=>(intOf s9+1).toNat);case atStart=>exact⟨i,aQ _,rfl,rfl,bH.refl _ _,B⟩
   obtain⟨j,hj,rfl,rfl,G,p⟩:=hrel;have z:=lh p;clear B p;by_cases c9:0<j
   .obtain⟨k,rfl⟩:∃k,j=k+1:=⟨j-1,gn⟩;have bf:=lh (HC.o.u G);have aa:=lh (HA.o.u G);have bq:k<ds.length:=(by have:=HA.o.len;have:=a5.o.1;omega);obtain⟨⟨s,q2⟩,c6⟩:∃y,ds[k]?=cf y:=⟨_,aB bq⟩;obtain⟨b,a7,N⟩:=af.o.get k _ c6;have S:=aH a7;have aE:=a6.o.1 _ S;have ax:=N.thin (a6.o.2 _ S);have ay:=aH c6;obtain⟨g',o',E,_,aw⟩:=aa.o.load c6;obtain⟨rfl,rfl⟩:g=g'/\o=o':=qA;have p:=z.o;rw [ac3 a7]at p;unfold YL at p;simp only at a7 N S aE ax ay aw;have ar:=adn N;obtain⟨ab,b8,bs,aR⟩:=lh4 (bg N (bg ax ay)) (λJ u t a=>ad.o (b,q2) S J s N u t a) (λu=>gX u s) gI;obtain⟨X,hX⟩:=eX (wr.alloc (ch ⟨s.row⟩ 51));have TX:bH [] wr X:=hX▸(tR wr).a _;have ac:X.heap[wr.heap.size]?=cf (ch ⟨s.row⟩ 51 (0,0)):=(by rw [hX];exact heap_alloc_new _ _);have z6:=cP 6 (.bool s.clip) ac;have z1:=cP 1 s.ag1 ac;rw [ar.1]at z6;rw [ar.2]at z1;obtain⟨HX,bb,aM,b6,bB,an⟩:=lh6 hX aw ac (bf.o.u TX) (aa.o.u TX) (G.t TX);have b0:(0:Int)<=(k:Int):=gn;have b1:(k:Int)<(n:Int):=(by have:=a5.o.1;omega);have b2:(k:Int)<=50:=(by have:=a5.o.2;omega);rw [show (((k+1:Nat):Int)-1)=(k:Int) by omega];clear bf aa c6 a7 N S ax ay aw ar hX TX ac G z E bq Z;as_aux_lemma=>
    go_upto_region 9 with (first
     |(refine lR 28 bb.o ?_)
     |((with_reducible refine yA 10 (cd (cf ⟨wr,0,cg⟩)) (wr.alloc (ch ⟨dF.row⟩ 51)) ?_ ?_);(next=>exact di (t:=51) rfl (aR.o _));try go_frame)
     |(refine sR (bs.o _) ?_))
    rw [<-HX.o];clear HX bb aR bs;generalize wr.heap.size=c8 at *;by_cases a4:b.clip=true
    .rw [a4]at z6;rw [aF (by simp [a4])]at p;have z:=lh p;clear p;go_wp2;go_roundw;case rel=>exact⟨k,gn,rfl,rfl,an.o,z.o⟩
     simp [intOf]
    have a4:b.clip=false:=(by simpa using a4);rw [a4]at z6;by_cases J:b.ag1=3
    .rw [J]at z1;rw [aF (by simp [J])]at p;have z:=lh p;clear p;go_wp2;go_roundw;case rel=>exact⟨k,gn,rfl,rfl,an.o,z.o⟩
     simp [intOf]
    have k3:(b.ag1 != 3)=true:=rL;rw [aG ⟨aE,a4,J⟩]at p;have z:=lh p;have b9:=lh (b8.o J);clear p b8;(go_upto_region 10 with fail);have T:=acl ab.o.1 q;have bd:=lh (λu (t:bH [] X u)=>abO s q ab.o.2.1.m u ((bB.o.at_ _ ab.o.2.2).u t).mask (HG.o.u (b6.o.t.t t)));rw [T]at bd;have bA:=lh (λA n ao u (t:bH [] X u) (h:DR u A n (Yh b q))=>XM _ A n ao (aK (Z9 b q) lG) u h (HG.o.u (b6.o.t.t t)));have bR:=b5.o b q;have bm:(Le [Zg,fM (Yh b q),f b q]).length<=100000000000:=(by have I:(fM (Yh b q)).length=32:=XN _;simp only [Le,List.flatMap_cons,List.flatMap_nil,aO,En,List.length_nil,I,Zg,List.length_cons];omega);have bj:C=fM [Zg,fM (Yh b q),f b q]:=z.o;have b3:=lh (λ(g:Nat) u (t:bH [] X u) (h:DR u (cf ⟨g,0,cg⟩) 3 [Zg,fM (Yh b q),f b q])=>XM _ _ 3 3 bm u h (HG.o.u (b6.o.t.t t)));have bs:Hid (∀V:ci,DR (V.alloc (ch #[ca ⟨#[98,97,115,101]⟩,ca ⟨(fM (Yh b q)).toArray⟩,ca ⟨(f b q).toArray⟩] 9)) (cf ⟨V,0,cg⟩) 3 [Zg,fM (Yh b q),f b q]):=lh λV=>XO [Zg,fM (Yh b q),f b q] V;rw [<-bj]at b3;generalize Yh b q=bX at *;generalize fM bX=bT at *;have bx:=lh (λu (t:bH [] X u)=>b9.o u (b6.o.t.t t) ((bB.o.at_ _ ab.o.2.2).u t));have aq:d.v=ce #[cb d.sA d.sn d.sc,d.root,d.next,cb d.lA d.ln d.lc]:=rfl;clear z b9 bR bm bj T ad af a6 HG b5 a5 HA bB ab HC z6 z1 k3 J a4 aE;generalize (⟨(f b q).toArray⟩:BAr)=KB,(⟨bT.toArray⟩:BAr)=JB,(⟨C.toArray⟩:BAr)=CB at *;as_aux_lemma=>
    refine sN 12 (tR X) λY F=>?_;refine Xz 0 s.v (λw' H=>XU (H.ox aM.o)) ?_;refine fK 1 ?_;refine Xz 2 q.v (λw' H=>Zb (b6.o.u H).h7) ?_;refine Xz 5 d.v (λw' H=>XP (b6.o.u H).h0) ?_;refine Xz 6 s.v (λw' H=>XU (H.ox aM.o)) ?_;refine fK 7 ?_;refine Xz 8 q.v (λw' H=>Zb (b6.o.u H).h7) ?_;refine eH 3 (λK L=>?_);go_simp;refine (bd.o _ F).mono ?_;rintro e c1 ⟨⟨v1,rfl,U⟩,u1⟩;obtain⟨A1,n1,k1,rfl,a8⟩:=U.strs;replace F:=F.t u1;refine gK L F ?_;clear L K u1 U;refine PR 4 (bA.o A1 n1 k1 _ F a8) λc2 F _=>?_;clear a8;refine PR 9 (bx.o _ F) λc3 F _=>?_;have tA:=F.alloc (ch #[ca ⟨#[98,97,115,101]⟩,ca JB,ca KB] 9);have a8:=bs.o c3;refine ty 10 rfl (kY (t:=107) (x0:=.const (ca ⟨#[98,97,115,101]⟩)) (x1:=.tmp 41) (x2:=.tmp 46) rfl rfl rfl rfl (Zd _ _ _ c3)) λK L=>?_;refine gK L tA ?_;clear L K;refine PR 11 (b3.o _ _ tA a8) λc4 bL _=>?_;refine eH 12 (λK L=>?_);go_simp;refine gZ L ?_;clear L K;refine Wy ?_;go_wp2;go_meet;exact⟨rfl,an.o.t bL⟩
   obtain rfl:j=0:=gn;have bP:C=Ze:=z.o;subst bP;have Q:=lh G;clear z G;go_wp2;go_meet;exact⟨rfl,Q.o⟩
 obtain⟨rfl,G⟩:=hcut;have bf:=lh (HC.o.u G);clear G Z HC aL ad af a6 HA;as_aux_lemma=>
 have bE:=lh (Zl bf.o.h7);have bF:=lh (Zb bf.o.h7);generalize T:Yh l q=ol at *;generalize hO:fM (ol++[C])=O at *;have HE:=lh (bg T hO);clear T hO;generalize bh:(⟨C.toArray⟩:BAr)=CB at *;have bz:=lh bh;clear bh;go_wp2_with (first
  |(refine lR 50 bE.o ?_)
  |(refine lR 52 bF.o ?_)
  |(go_at_call 255;(with_reducible refine (am.o wc bf.o.t).mono ?_);rintro e w1 ⟨⟨v1,rfl,U⟩,t1⟩;obtain⟨V2,v2,w2,a0,a1,a2,a3⟩:=adk CB 107 bz.o U t1 (by have:=bc.o;omega);obtain⟨A2,n2,c3,rfl,a8⟩:=a2.strs;obtain⟨bv,bw,Q⟩:=lh3 a0 a1 (bg a8 (bf.o.t.t a3));clear U a0 a1 a2 a8)
  |((with_reducible refine yA 55 (cb (cf ⟨w1,0,cg⟩) 1 1) V2 ?_ ?_);(next=>exact dV (t:=107) (x:=.tmp 54) rfl rfl bv.o);try go_frame)
  |((with_reducible refine yA 56 (cb A2 n2 c3) w2 ?_ ?_);(next=>exact dL (.tmp 53) (.tmp 55) 107 rfl rfl rfl bw.o);try go_frame)
  |(go_at_call 82;refine mR (b4.o A2 n2 c3 w2 Q.o.2 Q.o.1) λw3 t3=>?_))
 go_ret;exact⟨rs,Q.o.2.t t3⟩
theorem aa2(J:afw)(a:bI->Rc->Bs)(k:bI->Rc)(y:bI×Rc): ∀(xs:List (bI×Rc)) (b:List bI),Yq J a k b (xs++[y])=Yq J a k b xs++YX J a k ((xs.map (·.1)).reverse++b) y.1 y.2
 | [],b=>by simp [Yq]
 |x::xs,b=>by rw [List.cons_append];unfold Yq;rw [aa2 J a k y xs (x.1::b)];simp
def pI(b:bI->Rc->Bs)(a:bI->Rc)(c:List (bI×Rc))(k:Nat): List Bs:=Yq Jd b a [] (c.take k)
theorem adu(c:bI->Rc->Bs)(b:bI->Rc){a:List (bI×Rc)}{k:Nat}{x:bI×Rc}(h:a[k]?=cf x): pI c b a (k+1)=pI c b a k++YX Jd c b (YB a k) x.1 x.2:=by obtain⟨d,rfl⟩:=ah.1 h;unfold pI;rw [aT d,aa2,List.append_nil];rfl
theorem aeA(b:bI->Rc->Bs)(k:bI->Rc)(a:List (bI×Rc)){n:Nat}(h:a.length<=n): pI b k a n=Yq Jd b k [] a:=by unfold pI;rw [aY h]
theorem aek(a:bI->Rc->Bs)(k:bI->Rc)(b:List bI)(l:bI)(w:Rc): (YX Jd a k b l w).length<=1/\(Le (YX Jd a k b l w)).length<=40:=by
 unfold YX;split
 .simp [Le]
 split
 .split
  .refine⟨lz,?_⟩;have e:(Jd.join [XT,XR l.Xg l.ks l.cs,aay Jd a b l w]).length=32:=XN _;simp only [Le,List.flatMap_cons,List.flatMap_nil,aO,En,List.length_nil,e];omega
  simp [Le]
 split
 .refine⟨lz,?_⟩;have e:(Jd.join [Zw,Qz l.mode,aay Jd a b l w,a l w]).length=32:=XN _;simp only [Le,List.flatMap_cons,List.flatMap_nil,aO,En,List.length_nil,e];omega
 simp [Le]
theorem ZV(d:bI->Rc->Bs)(k:bI->Rc): ∀(xs:List (bI×Rc)) (c:List bI),(Yq Jd d k c xs).length<=xs.length/\(Le (Yq Jd d k c xs)).length<=40*xs.length
 | [],_=>by simp [Yq,Le]
 |x::xs,c=>by
  obtain⟨h,j⟩:=aek d k c x.1 x.2;obtain⟨s,u⟩:=ZV d k xs (x.1::c);unfold Yq;have e:∀a b:List Bs,Le (a++b)=Le a++Le b:=λa b=>by simp [Le]
  rw [aO,e,aO,List.length_cons];omega
theorem aeH(c:bI->Rc->Bs)(b:bI->Rc)(a:List (bI×Rc))(k:Nat): (pI c b a k).length<=k:=by have e:=(ZV c b (a.take k) []).1;have f:=List.length_take_le k a;unfold pI;omega
theorem abE{l m:bI}(h:l.Like m): m.mode=l.mode/\m.id=l.id/\XR m.Xg m.ks m.cs=XR l.Xg l.ks l.cs/\(∀q,m.wide q=l.wide q)/\jC m.Xg m.ks m.cs=jC l.Xg l.ks l.cs:=by unfold bI.Like at h;rw [h];exact⟨rfl,rfl,rfl,λ_=>rfl,rfl⟩
theorem aaO{x:bI×Rc}(r:Rc): ∀b:List bI,x∈Ye b r->x.1∈b/\x.1.ag3=false
 | [],h=>by simp [Ye]at h
 |l::b,h=>by
  unfold Ye at h;split at h
  .obtain⟨e,f⟩:=aaO r b h;exact⟨List.mem_cons_of_mem _ e,f⟩
  rename_i g;rcases aS.1 h with rfl|h
  .exact⟨List.mem_cons_self,nK⟩
  obtain⟨e,f⟩:=aaO r b h;exact⟨List.mem_cons_of_mem _ e,f⟩
theorem Zy(f:Fv)(ks cs:List Int): (XR f ks cs).length<=60+10*ks.length+10*cs.length:=by have e:=Dn [f.ag1,f.Xf,(f.kn:Int)];have a:=Dn ks;have g:=Dn [f.div,f.value,(f.cn:Int)];have l:=Dn cs;simp only [List.length_cons,List.length_nil]at e g;unfold XR;simp only [aO];omega
theorem afZ{u:ci}{b:Nat}{m:bI}{q:Rc}(h:u.heap[b]?=cf (ch ⟨DF (m,q)⟩ 144 (0,0))): (Instr.loadAt 43 (cd (cf ⟨b,17,cg⟩))).run cl u=.ok m.Xg.v u:=
 cj u b 17 43 [m.Xg.ag1,m.Xg.Xf,cb m.Xg.kA m.Xg.kn m.Xg.kc,m.Xg.div,m.Xg.value,cb m.Xg.cA m.Xg.cn m.Xg.cc] _ (gp h rfl) underlying43 rfl lB
theorem acj(d:df)(m k:bI)(r:Rc)(H:r.InC)(z:m.agZ.ok=true)(a1:dh d.agY m.of=cf k)(a5:∀l∈d.agY,l.Thin)(I:Bs)(a3:I.length<=32)(w:ci)(E:d.At w)(p:YQ w)
  (bo:∀x,k.Like x->∀u,bH [] w u->x.At u->CR 34 #[d.v,x.v,((m.agZ.need r).can).v] u (ca ⟨I.toArray⟩)) :
  CR 85 #[d.v,m.v,r.v] w (ca ⟨(fM [Yy,H6 m.agZ.ns,I]).toArray⟩):=by
 have Z:=lh (aav w d m r);have a0:(Le [Yy,H6 m.agZ.ns,I]).length<=100000000000:=by have M:=Dn m.agZ.ns;have N:m.agZ.ns.length=7:=rfl;simp only [Le,List.flatMap_cons,List.flatMap_nil,aO,En,List.length_nil];simp only [Yy,List.length_cons,List.length_nil];omega
 obtain⟨L,aa,J⟩:=lh3 (λu=>ZU m.agZ z r H u) (λu (t:bH [] w u)=>uu d m.of k a1 u [] (λb F=>absurd F aW) (λS Q G=>(E.u t).keepD λq j=>G q j lz) a5) (λ(g:Nat) u (t:bH [] w u) (h:DR u (cf ⟨g,0,cg⟩) 3 [Yy,H6 m.agZ.ns,I])=>XM _ _ 3 3 a0 u h (p.u t));have bs:Hid (∀V:ci,DR (V.alloc (ch #[ca ⟨#[99,108,111,110,101]⟩,ca (lu m.agZ.ns),ca ⟨I.toArray⟩] 9)) (cf ⟨V,0,cg⟩) 3 [Yy,H6 m.agZ.ns,I]):=lh λV=>XO [Yy,H6 m.agZ.ns,I] V;have C:=lh bo;generalize fM [Yy,H6 m.agZ.ns,I]=O,(⟨I.toArray⟩:BAr)=D,(m.agZ.need r).can=R at *;obtain⟨W,f⟩:=eX (fA w d m r);rw [<-f]at Z;have bj:W.cell? ⟨w+1,16,cg⟩=cf (.int .i64 m.of):=mK
 have n:=lh f;clear a0 f E p z a5 bo a1 a3;unfold fA at n;have a6:d.v=ce #[cb d.sA d.sn d.sc,d.root,d.next,cb d.lA d.ln d.lc]:=rfl;have y:m.v=ce ⟨m.row⟩:=rfl;have A:r.v=ce #[r.x0,r.y0,r.x1,r.y1]:=rfl;rw [a6,y,A];clear a6 y A;go_enter func85,ntmps85;go_upto_region 1 with fail
 rw [<-n.o];refine sN 15 (tR W) λV i=>?_;refine fK 0 ?_;refine Xz 1 m.agZ.v (λw' c=>Ym (Z.o.u c).h1) ?_;refine Xz 3 d.v (λw' c=>XP (Z.o.u c).h0) ?_;refine Xz 4 d.v (λw' c=>XP (Z.o.u c).h0) ?_;refine fK 5 ?_;refine Xy 6 m.of (λw' c=>((bY c).1 _ _ (ai bj)).t bj) ?_;refine fK 8 ?_;refine Xz 9 m.agZ.v (λw' c=>Ym (Z.o.u c).h1) ?_;refine Xz 10 r.v (λw' c=>Ob (Z.o.u c).h2) ?_;refine PR 2 (ZB m.agZ _) λc1 i _=>?_
 refine eH 7 (λK a=>?_);go_simp;refine (aa.o _ (Z.o.t.t i)).mono ?_;rintro e c2 ⟨⟨x,U,am,P,rfl⟩,u2⟩;replace i:=i.t u2;have be:=lh (bg U (bg am (Z.o.t.t i)));refine gK a i ?_;clear a K u2 U am P
 refine PR 11 (L.o _) λc3 i u3=>?_;have s:x.At c3:=be.o.2.1 c3 u3.size (λq j _=>u3.old q j lz);clear u3
 refine PR 12 (C.o x be.o.1 _ (Z.o.t.t i) s) λc4 i _=>?_;clear s be
 have B:=i.alloc (ch #[ca ⟨#[99,108,111,110,101]⟩,ca (lu m.agZ.ns),ca D] 9);have a8:=bs.o c4;refine ty 13 rfl (kY (t:=107) (x0:=.const (ca ⟨#[99,108,111,110,101]⟩)) (x1:=.tmp 9) (x2:=.tmp 19) rfl rfl rfl rfl (Zd _ _ _ c4)) λK a=>?_;refine gK a B ?_;clear a K
 refine PR 14 (J.o _ _ (Z.o.t.t B) a8) λc5 a9 _=>?_
 refine eH 15 (λK a=>?_);go_simp;refine gZ a ?_;clear a K
 refine Wy ?_;go_wp2;go_ret;exact⟨rfl,Z.o.t.t a9⟩
def Zk:List bI->Rc->List (bI×Rc)
 | [],_=>[]
 |l::ks,r=>(l,Zh ks r)::Zk ks r
theorem Z7(J:afw)(a:bI->Rc->Bs)(k:bI->Rc)(r:Rc): ∀(ks b:List bI),YS J a k r b ks=Yq J a k b (Zk ks r)
 | [],_=>rfl
 |l::ks,b=>by unfold YS Zk Yq;rw [Z7 J a k r ks (l::b)]
theorem abU(r:Rc): ∀b:List bI,(Zk b r).length=b.length
 | []=>rfl
 |l::b=>by unfold Zk;rw [List.length_cons,List.length_cons,abU r b]
theorem abT(r:Rc): ∀b:List bI,(Zk b r).map (·.1)=b
 | []=>rfl
 |l::b=>by unfold Zk;rw [List.map_cons,abT r b]
theorem abH{r:Rc}{l:bI}: ∀{ks:List bI} {i:Nat},ks[i]?=cf l->(Zk ks r)[i]?=cf (l,Zh (ks.drop (i+1)) r)
 | [],i,h=>by simp at h
 |a::ks,0,h=>by simp only [List.getElem?_cons_zero,Option.some.injEq]at h;subst h;rfl
 |a::ks,i+1,h=>by rw [List.getElem?_cons_succ]at h;unfold Zk;rw [List.getElem?_cons_succ,abH h];rfl
theorem aeN(r:Rc)(ks:List bI)(i:Nat): YB (Zk ks r) i=(ks.take i).reverse:=by unfold YB;rw [List.map_take,abT]
theorem afq{ks:List bI}{i:Nat}{l:bI}(h:ks[i]?=cf l): (ks.take (i+1)).reverse=l::(ks.take i).reverse:=by obtain⟨m,rfl⟩:=ah.1 h;rw [aT m,List.reverse_append];rfl
theorem adY(l:List Bs): fM l≠Ze:=λh=>by have e:(fM l).length=32:=XN _;rw [h]at e;cases e
