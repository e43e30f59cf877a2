import Derived.Deep.CutBlock
import Derived.Test.YtaahejdimjbhhaaGreatDoorK11
set_option maxRecDepth 100000
set_option maxHeartbeats 0
set_option linter.all false
namespace Go.Proofs.YtaahejdimjbhhaaGreatDoor
open Tryz Go.RowKit Go.Den
open Go.Value renaming slice->bv,int->bw,bool->bx
open Go.RowKit renaming wrap64->bA
open Option renaming some->bP,none->bR
open Go.Obj renaming cells->bS
open Go renaming zero_of_info->bT,World->bX,Operand->b3
theorem Gm{P:Program}{o:Oper}{a:Act}{w w':bX}{t:TypeId}{x0 x1 x2 x3 x4:b3}{y0 y1 y2 y3 y4 v:Value}(c:o.op=.buildSlice t 5 #[(0,x0),(1,x1),(2,x2),(3,x3),(4,x4)])(e:a.eval x0=y0)(b:a.eval x1=y1)(f:a.eval x2=y2)(g:a.eval x3=y3)(l:a.eval x4=y4)
  (C:(Instr.buildSlice t 5 #[(0,y0),(1,y1),(2,y2),(3,y3),(4,y4)]).run P w=.ok v w'):(execOp a.eval o).run P w=.ok (.value v) w':=
 gm c (by simp [e,b,f,g,l]) C
theorem FC{P:Program}{o:Oper}{a:Act}{w w':bX}{t:TypeId}{x0 x1 x2 x3 x4 x5 x6 x7 x8 x9 x10 x11:b3}{y0 y1 y2 y3 y4 y5 y6 y7 y8 y9 y10 y11 v:Value}(m:o.op=.buildSlice t 12 #[(0,x0),(1,x1),(2,x2),(3,x3),(4,x4),(5,x5),(6,x6),(7,x7),(8,x8),(9,x9),(10,x10),(11,x11)])(e:a.eval x0=y0)(b:a.eval x1=y1)(f:a.eval x2=y2)(g:a.eval x3=y3)(l:a.eval x4=y4)(d:a.eval x5=y5)(h:a.eval x6=y6)(i:a.eval x7=y7)(j:a.eval x8=y8)(k:a.eval x9=y9)(ac:a.eval x10=y10)(c:a.eval x11=y11)
  (C:(Instr.buildSlice t 12 #[(0,y0),(1,y1),(2,y2),(3,y3),(4,y4),(5,y5),(6,y6),(7,y7),(8,y8),(9,y9),(10,y10),(11,y11)]).run P w=.ok v w'):(execOp a.eval o).run P w=.ok (.value v) w':=
 gm m (by simp [e,b,f,g,l,d,h,i,j,k,ac,c]) C
theorem U9(a b c d e:Int)(V:bX): (Instr.buildSlice 22 5 #[(0,a),(1,b),(2,c),(3,d),(4,e)]).run prog V=.ok (bv (bP ⟨V,0,bR⟩) 5 5) (V.alloc (bS #[a,b,c,d,e] 3)):=lB
theorem Sz(a b c d e f g h i j k l:Int)(V:bX): (Instr.buildSlice 22 12 #[(0,a),(1,b),(2,c),(3,d),(4,e),(5,f),(6,g),(7,h),(8,i),(9,j),(10,k),(11,l)]).run prog V=.ok (bv (bP ⟨V,0,bR⟩) 12 12) (V.alloc (bS #[a,b,c,d,e,f,g,h,i,j,k,l] 3)):=lB
theorem Nb(s0 s1 s2 s3 s4 s5 s6 s7:Int)(w:bX):
  Calls prog 20 #[.agg #[s0,s1,s2,s3,s4,s5,s6,s7]] w λe w'=>(∃l:bI,l.Tidy 0/\l.New w' w.heap.size/\(l.Xh=0/\l.ag0=[])/\e=.returned l.v)/\bH [] w w':=by
 obtain⟨m,L⟩:∃m,bits BinOp.and IntKind.i64 s0 65535=m:=⟨_,rfl⟩;have D:=dM s0 65535 gn;rw [show ((65535:Nat):Int)=65535 from rfl,L]at D;obtain⟨q,eq⟩:∃q,m.tmod 5=q:=⟨_,rfl⟩;have hq:0<=q/\q<=4:=by rw [Int.tmod_eq_emod_of_nonneg D.1]at eq;omega
 have wq:bA (1+q)=1+q:=fC _ gn gn;have an:=lh (yE (1+q) gn gn);have HK:Hid (1<=1+q/\1+q<=5):=lh gn;have a7:=lh gI;have bs:=lh (λu=>gX u (fB (1+q)));obtain⟨W,hW⟩:=eX ((w.alloc (bS #[s0,s1,s2,s3,s4,s5,s6,s7] 66)).alloc (bS ⟨dF.row⟩ 51));have T0:bH [] w W:=hW▸((tR w).a _).a _;have I:=fU hW;have A:=ZH hW;have bm:W.heap.size=w.heap.size+2:=od
 have c0:=cP 0 _ I;clear D hq;go_enter func20,ntmps20;go_upto_region 1 with (refine bQ rfl (di rfl (a7.o _)) ?_;try go_frame)
 rw [<-hW];clear hW;go_upto_region 2 with (first
  |(go_at_call 24;refine mR (an.o _) λw1 aR=>?_)
  |(refine bQ rfl (di (t:=51) rfl (a7.o _)) ?_;try go_frame)
  |(refine sR (bs.o _) ?_))
 generalize 1+q=k at *;obtain⟨W1,b7⟩:=eX (w1.alloc (bS ⟨(fB k).row⟩ 51));have T1:bH [] W W1:=b7▸aR.a _;have P:uJ w W1 w1.heap.size [s0,s1,s2,s3,s4,s5,s6,s7] k (fB k):=⟨T0.t T1,(T1.old _ gn lz).t I,(T1.old _ gn lz).t A,b7▸heap_alloc_new _ _,by have:=aR.size;omega,wu k HK.o.1 HK.o.2,rfl,Ec k,jU _ _ _,kZ _,kZ _⟩;rw [<-b7];clear b7 T0 T1 I A bm c0 aR an a7 bs wq eq L;generalize w1.heap.size=s,fB k=R at *;obtain⟨c,S⟩:∃q,bits BinOp.and IntKind.i64 s1 7=q:=⟨_,rfl⟩;have G:=dM s1 7 gn;rw [show ((7:Nat):Int)=7 from rfl,S]at G;go_cut [] (λwx=>∃l,uJ w wx s [s0,s1,s2,s3,s4,s5,s6,s7] k l);case first=>
  as_aux_lemma=>
   have c1:=cP 1 s1 P.hs;have y:=cP 2 (.string R.name) P.h3;have O:=dD P.h3 2;have n:=lh P;clear P;obtain rfl|rfl|rfl|rfl|rfl|rfl|rfl|rfl:c=0\/c=1\/c=2\/c=3\/c=4\/c=5\/c=6\/c=7:=by omega
   .go_wp2;go_meet;exact⟨_,n.o.cell { R with name:=⟨#[97]⟩ } (i:=2) rfl { n.o.ok with name:=po } n.o.kd n.o.bare n.o.own n.o.ti n.o.mk_⟩
   .go_wp2;go_meet;exact⟨_,n.o.cell { R with name:=⟨#[98]⟩ } (i:=2) rfl { n.o.ok with name:=po } n.o.kd n.o.bare n.o.own n.o.ti n.o.mk_⟩
   .go_wp2;go_meet;exact⟨_,n.o.cell { R with name:=⟨#[99]⟩ } (i:=2) rfl { n.o.ok with name:=po } n.o.kd n.o.bare n.o.own n.o.ti n.o.mk_⟩
   .go_wp2;go_meet;exact⟨_,n.o.cell { R with name:=⟨#[100]⟩ } (i:=2) rfl { n.o.ok with name:=po } n.o.kd n.o.bare n.o.own n.o.ti n.o.mk_⟩
   .go_wp2;go_meet;exact⟨_,n.o.cell { R with name:=⟨#[101]⟩ } (i:=2) rfl { n.o.ok with name:=po } n.o.kd n.o.bare n.o.own n.o.ti n.o.mk_⟩
   .go_wp2;go_meet;exact⟨_,n.o.cell { R with name:=⟨#[102]⟩ } (i:=2) rfl { n.o.ok with name:=po } n.o.kd n.o.bare n.o.own n.o.ti n.o.mk_⟩
   .go_wp2;go_meet;exact⟨_,n.o.cell { R with name:=⟨#[103]⟩ } (i:=2) rfl { n.o.ok with name:=po } n.o.kd n.o.bare n.o.own n.o.ti n.o.mk_⟩
   go_wp2;go_meet;exact⟨_,n.o.cell { R with name:=⟨#[104]⟩ } (i:=2) rfl { n.o.ok with name:=po } n.o.kd n.o.bare n.o.own n.o.ti n.o.mk_⟩
 obtain⟨l1,P⟩:=hcut;clear S G;go_upto_region 3 with (fail)
 go_cut [] (λwx=>∃l,uJ w wx s [s0,s1,s2,s3,s4,s5,s6,s7] k l);case first=>
  as_aux_lemma=>
   have c1:=cP 1 s1 P.hs;have y:=cP 3 (bx l1.ag3) P.h3;have O:=dD P.h3 3;have n:=lh P;clear P;go_wp2;go_meet;exact⟨_,n.o.cell { l1 with ag3:=(bits BinOp.and IntKind.i64 s1 127==8) } (i:=3) rfl { n.o.ok with } n.o.kd n.o.bare n.o.own n.o.ti n.o.mk_⟩
 obtain⟨l2,P⟩:=hcut;go_upto_region 4 with (fail)
 go_cut [] (λwx=>∃l,uJ w wx s [s0,s1,s2,s3,s4,s5,s6,s7] k l);case first=>
  as_aux_lemma=>
   have c1:=cP 1 s1 P.hs;have y:=cP 6 (bx l2.clip) P.h3;have O:=dD P.h3 6;have n:=lh P;clear P;go_wp2;go_meet;exact⟨_,n.o.cell { l2 with clip:=(bits BinOp.and IntKind.i64 s1 96==96) } (i:=6) rfl { n.o.ok with } n.o.kd n.o.bare n.o.own n.o.ti n.o.mk_⟩
 obtain⟨l3,P⟩:=hcut;go_upto_region 5 with (fail)
 go_cut [] (λwx=>∃l,uJ w wx s [s0,s1,s2,s3,s4,s5,s6,s7] k l);case first=>
  as_aux_lemma=>
   have y:=cP 4 l3.Xl P.h3;have O:=dD P.h3 4;have n:=lh P;clear P;go_wp2;go_meet;exact⟨_,n.o.cell { l3 with Xl:=255 } (i:=4) rfl { n.o.ok with opac:=(by show (0:Int)<=255/\(255:Int)<=255;omega) } n.o.kd n.o.bare n.o.own n.o.ti n.o.mk_⟩
 obtain⟨l4,P⟩:=hcut;obtain⟨c,S⟩:∃c,bits BinOp.and IntKind.i64 s2 1=c:=⟨_,rfl⟩;have c2:=cP 2 s2 P.hs;have n:=lh P;clear P;go_upto_if 34 with (fail)
 have P:=n.o;clear n S;go_cut [] (λwx=>∃l,uJ w wx s [s0,s1,s2,s3,s4,s5,s6,s7] k l);case first=>
  as_aux_lemma=>
   by_cases G:c=1
   .subst G;clear c2;obtain⟨z,ez⟩:∃q,bits BinOp.and IntKind.i64 (s2/2) 255=q:=⟨_,rfl⟩;have hz:=dM (s2/2) 255 gn;rw [show ((255:Nat):Int)=255 from rfl,ez]at hz;have c2:=cP 2 s2 P.hs;have y:=cP 4 l4.Xl P.h3;have O:=dD P.h3 4;have n:=lh P;clear P;go_wp2;go_meet;exact⟨_,n.o.cell { l4 with Xl:=z } (i:=4) rfl { n.o.ok with opac:=hz } n.o.kd n.o.bare n.o.own n.o.ti n.o.mk_⟩
   have b2:(c==1)=false:=(by simp [G]);have n:=lh P;clear P;go_wp2;go_meet;exact⟨_,n.o⟩
 obtain⟨l5,P⟩:=hcut;obtain⟨c,S⟩:∃c,bits BinOp.and IntKind.i64 s3 3=c:=⟨_,rfl⟩;have c3:=cP 3 s3 P.hs;have n:=lh P;clear P;go_upto_if 43 with (fail)
 have P:=n.o;clear n S;go_cut [] (λwx=>∃l,uJ w wx s [s0,s1,s2,s3,s4,s5,s6,s7] k l);case first=>
  as_aux_lemma=>
   by_cases G:c=1
   .subst G;clear c3;obtain⟨z,ez⟩:∃q,bits BinOp.and IntKind.i64 (s3/4) 15=q:=⟨_,rfl⟩;have hz:=dM (s3/4) 15 gn;rw [show ((15:Nat):Int)=15 from rfl,ez]at hz;have c3:=cP 3 s3 P.hs;have y:=cP 5 l5.mode P.h3;have O:=dD P.h3 5;have n:=lh P;clear P;go_wp2;go_meet;exact⟨_,n.o.cell { l5 with mode:=z } (i:=5) rfl { n.o.ok with mode:=hz } n.o.kd n.o.bare n.o.own n.o.ti n.o.mk_⟩
   have b2:(c==1)=false:=(by simp [G]);have n:=lh P;clear P;go_wp2;go_meet;exact⟨_,n.o⟩
 obtain⟨l6,P⟩:=hcut;obtain⟨c,S⟩:∃c,bits BinOp.and IntKind.i64 s3 192=c:=⟨_,rfl⟩;have c3:=cP 3 s3 P.hs;have n:=lh P;clear P;go_upto_if 52 with (fail)
 have P:=n.o;clear n S;go_cut [] (λwx=>∃l,uJ w wx s [s0,s1,s2,s3,s4,s5,s6,s7] k l);case first=>
  as_aux_lemma=>
   by_cases G:c=64
   .subst G;clear c3;have y:=cP 29 (bx l6.Xt) P.h3;have O:=dD P.h3 29;have n:=lh P;clear P;(go_upto_region 12 with (fail));obtain⟨l,hl⟩:∃l,l={ l6 with Xt:=true }:=⟨_,rfl⟩;have P:=n.o.cell { l6 with Xt:=true } (i:=29) (v:=bx true) rfl { n.o.ok with nomask:=(λh=>sY) } n.o.kd n.o.bare n.o.own n.o.ti n.o.mk_;rw [<-hl]at P;have D:l.Xt=true:=(by rw [hl]);have HM:=lh D;clear n y O hl D;generalize wc.setCell ⟨s,29,bR⟩ (bx true)=V at *;have hI:dn (V.alloc (bS #[s3,s4,s5] 3)) (bP ⟨V,0,bR⟩) 3 [s3,s4,s5]:=(qU V [s3,s4,s5] lz).ints';have a4:=lh (DI [s3,s4,s5] (bP ⟨V,0,bR⟩) 3 3 lG _ hI);clear hI;have c3:=cP 3 s3 P.hs;have c4:=cP 4 s4 P.hs;have c5:=cP 5 s5 P.hs;have n:=lh P;clear P;(go_wp2_with (go_at_call 52;refine a4.o.mono ?_;rintro e w2 ⟨⟨A',n',a0,a3,rfl,hT⟩,a2⟩;have C:=n.o.u (((tR V).a _).t a2);have y:=cP 30 (bv l.mA l.mn l.mc) C.h3;have O:=dD C.h3 30;have a6:=lh C;have HT:=lh hT;clear C hT a2));go_meet;exact⟨_,a6.o.cell { l with mA:=A',mn:=n',mc:=a0,mask:=a3 } (i:=30) rfl { a6.o.ok with nomask:=(λh=>absurd (HM.o.symm.t h) lz) } a6.o.kd a6.o.bare a6.o.own a6.o.ti HT.o⟩
   have b2:(c==64)=false:=(by simp [G]);have n:=lh P;clear P;go_wp2;go_meet;exact⟨_,n.o⟩
 obtain⟨B,P⟩:=hcut;go_upto_region 13 with (fail)
 go_cut [64] (λs64 wx=>s64=k/\uJ w wx s [s0,s1,s2,s3,s4,s5,s6,s7] k B);case first=>
  have y:=cP 1 B.ag1 P.h3;rw [P.kd]at y;have n:=lh P;clear P;go_wp2;go_meet;exact⟨rfl,n.o⟩
 obtain⟨rfl,P⟩:=hcut;go_upto_block 0 with (fail)
 go_cut [] (λwx=>∃l,WA w wx s l);case first=>
  have ay:=lh P.kd;have hB:=P.bare;obtain rfl|rfl|rfl|rfl|rfl:k=1\/k=2\/k=3\/k=4\/k=5:=by have:=HK.o;omega
  .as_aux_lemma=>
    have y:=cP 1 B.ag1 P.h3;rw [P.kd]at y;generalize wc=V at *;have hI:dn (V.alloc (bS #[s4,s5,s6,s7,s2] 3)) (bP ⟨V,0,bR⟩) 5 [s4,s5,s6,s7,s2]:=(qU V [s4,s5,s6,s7,s2] lz).ints';have a4:=lh (DI [s4,s5,s6,s7,s2] (bP ⟨V,0,bR⟩) 5 5 lG _ hI);clear hI;have c2:=cP 2 s2 P.hs;have c4:=cP 4 s4 P.hs;have c5:=cP 5 s5 P.hs;have c6:=cP 6 s6 P.hs;have c7:=cP 7 s7 P.hs;have n:=lh P;clear P;clear hB;have a9:=lh (U9 s4 s5 s6 s7 s2);go_upto_region 16 with (first
     |(refine yR 77 (Gm (x0:=.tmp 68) (x1:=.tmp 70) (x2:=.tmp 72) (x3:=.tmp 74) (x4:=.tmp 76) (y0:=s4) (y1:=s5) (y2:=s6) (y3:=s7) (y4:=s2) rfl rfl rfl rfl rfl rfl (a9.o _)) ?_)
     |(go_at_call 52;refine a4.o.mono ?_;rintro e w2 ⟨⟨A',n',a0,a3,rfl,hT⟩,a2⟩;have C:=n.o.u (((tR V).a _).t a2);have y:=cP 28 (bv B.tA B.tn B.tc) C.h3;have O:=dD C.h3 28;have a6:=lh C;have HT:=lh hT;clear C hT a2))
    have P:=a6.o.cell { B with tA:=A',tn:=n',tc:=a0,Xm:=a3 } (i:=28) (v:=bv A' n' a0) rfl { a6.o.ok with Xp:=(λh=>absurd ay.o h) } a6.o.kd a6.o.bare a6.o.own HT.o a6.o.mk_;clear n a6 HT a4 y O c2 c4 c5 c6 c7;generalize w2.setCell ⟨s,28,bR⟩ (bv A' n' a0)=V at *;have H:({ B with tA:=A',tn:=n',tc:=a0,Xm:=a3 }:bI).ag1=1:=ay.o;generalize ({ B with tA:=A',tn:=n',tc:=a0,Xm:=a3 }:bI)=l at *;have a1:=lh H;clear H;have c6:=cP 6 s6 P.hs;have n:=lh P;clear P;have aa:=lh (DY s6);go_wp2_with (first
     |(go_at_call 53;refine (aa.o _).mono ?_;rintro e M ⟨⟨p,E,rfl⟩,aw⟩;have P3:=n.o.u aw;have a8:=dQ (o:=7) (ty:=40) (p:=[p.a,p.b,p.c,p.d,p.e,p.f,p.den]) (L':=({ l with agZ:=p }:bI).row) P3.h3 zo lK lW rfl;have X:=lh P3;have b1:=lh E;clear P3 E aw)
     |(refine sR a8 ?_))
    go_meet;exact⟨_,(X.o.put { l with agZ:=p } { X.o.ok with agZ:=(λ_=>b1.o),noplace:=(λh=>absurd a1.o h) } X.o.kd X.o.bare X.o.own X.o.ti X.o.mk_).fin (λh=>absurd (a1.o.symm.t h) lG)⟩
  .as_aux_lemma=>
    have y:=cP 1 B.ag1 P.h3;rw [P.kd]at y;have n:=lh P;clear P hB;go_wp2;go_meet;exact⟨_,n.o.fin (λh=>absurd (ay.o.symm.t h) lG)⟩
  .as_aux_lemma=>
    have y:=cP 1 B.ag1 P.h3;rw [P.kd]at y;have H:B.ag1=3:=ay.o;generalize B=l,wc=V at *;have N:=lh (λ(I A x2 x3 x4:Int)=>EP [s4,s5,s6,s7,s2,s3,s1,I,A,x2,x3,x4] V.heap.size 0 (V.alloc (bS #[s4,s5,s6,s7,s2,s3,s1,I,A,x2,x3,x4] 3)) (qU V [s4,s5,s6,s7,s2,s3,s1,I,A,x2,x3,x4] lz).ints');have hz:=P.lt2;clear hB H ay;have c1:=cP 1 s1 P.hs;have c2:=cP 2 s2 P.hs;have c3:=cP 3 s3 P.hs;have c4:=cP 4 s4 P.hs;have c5:=cP 5 s5 P.hs;have c6:=cP 6 s6 P.hs;have c7:=cP 7 s7 P.hs;have n:=lh P;clear P;have a9:=lh (Sz s4 s5 s6 s7 s2 s3 s1);go_wp2_with (first
     |(refine yR 121 (FC (x0:=.tmp 93) (x1:=.tmp 95) (x2:=.tmp 97) (x3:=.tmp 99) (x4:=.tmp 101) (x5:=.tmp 103) (x6:=.tmp 105) (x7:=.tmp 108) (x8:=.tmp 111) (x9:=.tmp 114) (x10:=.tmp 117) (x11:=.tmp 120) (y0:=s4) (y1:=s5) (y2:=s6) (y3:=s7) (y4:=s2) (y5:=s3) (y6:=s1) (y7:=bw .i64 (bA (s5.tdiv 7))) (y8:=bw .i64 (bA (s6.tdiv 5))) (y9:=bw .i64 (bA (s7.tdiv 3))) (y10:=bw .i64 (bA (s4.tdiv 9))) (y11:=bw .i64 (bA (s2.tdiv 11))) rfl rfl rfl rfl rfl rfl rfl rfl rfl rfl rfl rfl rfl (a9.o _ _ _ _ _ _)) ?_)
     |(go_at_call 54;(with_reducible refine (N.o _ _ _ _ _).mono ?_);rintro e w2 ⟨⟨f,ks,cs,H,G⟩,Z⟩;have C:=n.o.u (((tR V).a _).t Z);have a8:=dQ (o:=17) (ty:=43) (p:=[f.ag1,f.Xf,bv f.kA f.kn f.kc,f.div,f.value,bv f.cA f.cn f.cc]) (L':=({ l with Xg:=f }:bI).row) C.h3 wQ lK lW rfl;obtain⟨a6,bh,bE⟩:=lh3 C H G;clear C H G Z)
     |(refine sR a8 ?_))
    go_meet;exact⟨_,a6.o.Xg f ks cs (bh.o.base lO) (bE.o.base lO)⟩
  .as_aux_lemma=>
    have y:=cP 1 B.ag1 P.h3;rw [P.kd]at y;have H:B.ag1=4:=ay.o;generalize B=l at *;have a1:=lh H;clear H hB ay;have c6:=cP 6 s6 P.hs;have n:=lh P;clear P;have aa:=lh (DY s6);go_wp2_with (first
     |(go_at_call 53;refine (aa.o _).mono ?_;rintro e M ⟨⟨p,E,rfl⟩,aw⟩;have P3:=n.o.u aw;have a8:=dQ (o:=7) (ty:=40) (p:=[p.a,p.b,p.c,p.d,p.e,p.f,p.den]) (L':=({ l with agZ:=p }:bI).row) P3.h3 zo lK lW rfl;have X:=lh P3;have b1:=lh E;clear P3 E aw)
     |(refine sR a8 ?_))
    go_meet;exact⟨_,(X.o.put { l with agZ:=p } { X.o.ok with agZ:=(λ_=>b1.o),noplace:=(λ_ h=>absurd a1.o h) } X.o.kd X.o.bare X.o.own X.o.ti X.o.mk_).fin (λh=>absurd (a1.o.symm.t h) lG)⟩
  as_aux_lemma=>
   have y:=cP 1 B.ag1 P.h3;rw [P.kd]at y;have H:B.ag1=5:=ay.o;generalize B=l,wc=V at *;clear hB ay;have a1:=lh H;clear H;have c4:=cP 4 s4 P.hs;have n:=lh P;clear P;have ap:=lh NY;have ao:=lh Bq;go_upto_region 23 with (first
    |(go_at_call 56;refine (ap.o _ _).mono ?_;rintro e w2 ⟨⟨r,g,b,a,rfl⟩,Z⟩;have C:=n.o.u Z;have a6:=lh C;clear C Z)
    |(go_at_call 55;refine (ao.o _ _ _ _ _).mono ?_;generalize (if a=0 then 0 else r)=r';generalize (if a=0 then 0 else g)=g';generalize (if a=0 then 0 else b)=b';generalize (if a=0 then 0 else a)=a';rintro e M ⟨rfl,Z⟩;have P3:=a6.o.u Z;have a8:=dQ (o:=23) (ty:=45) (p:=[bw .u8 r',bw .u8 g',bw .u8 b',bw .u8 a']) (L':=({ l with f0:=r',f1:=g',f2:=b',f3:=a' }:bI).row) P3.h3 Tv lK lW rfl;have X:=lh P3;clear P3 Z)
    |(refine sR a8 ?_))
   have P:=X.o.pix r' g' b' a';clear n a6 X a8 c4 ap ao;generalize M.setRow s ⟨({ l with f0:=r',f1:=g',f2:=b',f3:=a' }:bI).row⟩=V5 at *;generalize ({ l with f0:=r',f1:=g',f2:=b',f3:=a' }:bI)=l5 at *;have P0:∃bb,OE w V5 s bb [s0,s1,s2,s3,s4,s5,s6,s7] l5/\l5.pts=[]:=⟨_,P.path,P.bare.2.1⟩;obtain⟨bb,P0,am⟩:=P0;clear P;obtain⟨m,L⟩:∃m,bits BinOp.and IntKind.i64 s5 3=m:=⟨_,rfl⟩;have D:=dM s5 3 gn;rw [show ((3:Nat):Int)=3 from rfl,L]at D;have M:bA (3+m)=3+m:=fC _ gn gn;have HQ:=lh (bg L M);clear L M;(go_wp2_with fail);go_loopw [4] (λz4 wr=>∃(j:Nat) (l:bI),(j:Int)<=3+m/\z4=j/\l.pts.length=j/\(∀p∈l.pts,uG p.1 p.2=false)/\OE w wr s bb [s0,s1,s2,s3,s4,s5,s6,s7] l) (λz4 _=>7-(intOf z4).toNat);case atStart=>exact⟨0,l5,gn,rfl,by rw [am];rfl,(λp E=>by rw [am]at E;cases E),P0⟩
   clear P0 am;obtain⟨j,l,hj,rfl,b8,b5,P⟩:=hrel;have HJ:=lh (bg b8 b5);clear b8 b5;have a5:=cP 5 s5 P.hs;have n:=lh P;clear P;by_cases bp:(j:Int)<3+m
   .have bB:(j:Int)<=6:=gn;obtain⟨A9,n9,c9,bj⟩:∃A9 n9 c9,(bv l.pA l.pn l.pc:Value)=bv A9 n9 c9:=⟨_,_,_,rfl⟩;have b0:∀q∈dI (bv l.pA l.pn l.pc),bb<=q:=λq hq=>(n.o.own.2.lt q hq).1;have HB:=lh b0;have D6:Hid (∀u,bH (dI (bv l.pA l.pn l.pc)) wr u->u.cell? ⟨w,6,bR⟩=bP (bw .i64 s6)):=lh λu T=>bJ ((T.old w.heap.size sE (λD=>by have:=HB.o _ D;have:=n.o.lt;omega)).t n.o.hs) rfl;have D7:Hid (∀u,bH (dI (bv l.pA l.pn l.pc)) wr u->u.cell? ⟨w,7,bR⟩=bP (bw .i64 s7)):=lh λu T=>bJ ((T.old w.heap.size sE (λD=>by have:=HB.o _ D;have:=n.o.lt;omega)).t n.o.hs) rfl;have D0:Hid (∀u,bH (dI (bv l.pA l.pn l.pc)) wr u->u.cell? ⟨s,27,bR⟩=bP (bv l.pA l.pn l.pc)):=lh λu T=>bJ ((T.old s sE (λD=>by have:=HB.o _ D;have:=n.o.lt;omega)).t n.o.h3) rfl;have aD:0<=4*(j:Int):=gn;have aE:-1000<=4*(j:Int):=gn;have aL:4*(j:Int)<=1000:=gn;clear b0 bj;obtain⟨L,M⟩:=HQ.o;(go_upto_region 26 with (fail));clear L M a5;obtain⟨I,aq⟩:∃z,Rn s6 (4*(j:Int))=z:=⟨_,rfl⟩;have ab:=lh (λ(o:Oper) (a:Act) xt yt (x y:b3) (ho:o.op=.binOp .shr xt x y yt) (hx:a.eval x=s6) (Q:a.eval y=bw .i64 (4*(j:Int))) (w:bX)=>GG (P:=prog) ho hx Q aD w);rw [aq]at ab;obtain⟨A,ar⟩:∃z,bits BinOp.and IntKind.i64 I 15=z:=⟨_,rfl⟩;have hx:=dM I 15 gn;rw [show ((15:Nat):Int)=15 from rfl,ar]at hx;have ba:-1000<=A-4:=gn;have bd:A-4<=1000:=gn;obtain⟨y0,ax⟩:∃z,Rn s7 (4*(j:Int))=z:=⟨_,rfl⟩;have ac:=lh (λ(o:Oper) (a:Act) xt yt (x y:b3) (ho:o.op=.binOp .shr xt x y yt) (hx:a.eval x=s7) (Q:a.eval y=bw .i64 (4*(j:Int))) (w:bX)=>GG (P:=prog) ho hx Q aD w);rw [ax]at ac;obtain⟨J,b4⟩:∃z,bits BinOp.and IntKind.i64 y0 15=z:=⟨_,rfl⟩;have Q:=dM y0 15 gn;rw [show ((15:Nat):Int)=15 from rfl,b4]at Q;have bc:-1000<=J-4:=gn;have be:J-4<=1000:=gn;have bf:Hid (uG (A-4) (J-4)=false):=lh (by simp [uG];omega);have w4:bA (4*(j:Int))=4*(j:Int):=gV aE aL;have bz:=(ku _).t w4;have av:bA (A-4)=A-4:=gV ba bd;have bk:=(ku _).t av;have b6:bA (J-4)=J-4:=gV bc be;have bl:=(ku _).t b6;clear ba bd bc be hx Q aE aL;clear aq ax;refine cu.start (λu=>bH (dI (bv l.pA l.pn l.pc)) wr u) 20 lB ?_;have hS:=(bH.refl (dI (bv l.pA l.pn l.pc)) wr).drawn 1;have P1:OE w wr.drew s bb [s0,s1,s2,s3,s4,s5,s6,s7] l:=n.o.u ((tR wr).drawn 1);change bH (dI (bv l.pA l.pn l.pc)) wr wr.drew at hS;generalize wr.drew=Y at *;refine fK 0 ?_;refine Xy 1 (bv l.pA l.pn l.pc) (λw' hw=>D0.out _ hw) ?_;refine fK 2 ?_;refine Xy 3 s6 (λw' hw=>D6.out _ hw) ?_;refine fE 4 j ?_;refine fE 5 (bw .i64 (4*(j:Int))) ?_;refine fE 6 I ?_ rfl (j:=λw' hw=>ab.o _ _ _ _ _ _ rfl rfl rfl _);refine fE 7 A ?_;refine fE 8 (bw .i64 (A-4)) ?_;refine fK 9 ?_;refine Xy 10 s7 (λw' hw=>D7.out _ hw) ?_;refine fE 11 j ?_;refine fE 12 (bw .i64 (4*(j:Int))) ?_;refine fE 13 y0 ?_ rfl (j:=λw' hw=>ac.o _ _ _ _ _ _ rfl rfl rfl _);refine fE 14 J ?_;refine fE 15 (bw .i64 (J-4)) ?_;refine fE 16 (.agg ⟨jZ (A-4,J-4)⟩) ?_ rfl (j:=λw' hw=>oN rfl rfl rfl (PZ _ _ _));clear w4 bz ar bk av b4 bl b6 ab ac;have b9:kK.Row (jZ (A-4,J-4)):=PE _;obtain⟨v2,u2,bo,aM,af,_⟩:=kV (t:=46) underlying46 P1.own b9 P1.lt.2.2 (by have:=HJ.o.1;rw [aJ];omega) 46;obtain⟨A8,n8,c8,rfl⟩:∃A8 n8 c8,v2=bv A8 n8 c8:=(by rcases aM.form with ⟨e,_⟩|⟨_,_,_,e,_⟩<;>exact⟨_,_,_,e⟩);have C:=P1.step (ps:=l.pts++[(A-4,J-4)]) af HB.o (by rw [List.map_append];exact aM);have ad:=hS.t af;have z5:u2.cell? ⟨s,27,bR⟩=bP (bv l.pA l.pn l.pc):=D0.out _ ad;have bM:u2.frozen? ⟨s,27,bR⟩=false:=dD ((af.old s (by have:=P1.lt;omega) (λD=>by have:=HB.o _ D;have:=P1.lt;omega)).t P1.h3) 27;refine eH 17 λK U=>?_;refine bZ (d:=bP 156) rfl (dV (y:=.agg ⟨jZ (A-4,J-4)⟩) rfl rfl (nG (k:=kK) underlying46 b9 Y)) ?_;refine U _ _ (λ_=>hS.a _) ?_;clear U K;(try go_frame);refine eH 18 λK U=>?_;refine bZ (d:=bP 157) rfl (dL (v:=bv l.pA l.pn l.pc) (y:=bv (bP ⟨Y,0,bR⟩) 1 1) _ _ 46 rfl rfl rfl bo) ?_;refine gK U ad ?_;clear U K;refine eH 19 λK U=>?_;refine bZ (d:=bP 158) rfl (v:=.pointer (bP ⟨s,27,bR⟩)) (u:=u2) nJ ?_;refine gK U ad ?_;clear U K;refine Yo ?_;go_wp2;go_roundw;case rel=>exact⟨j+1,_,by omega,by go_num,by simp [HJ.o.1],λp E=>by
     rcases aV.1 E with E|E
     .exact HJ.o.2 p E
     rw [aN]at E;subst E;exact bf.o,C⟩
    simp [intOf];omega
   have bF:decide ((j:Int)<3+m)=false:=ak bp;obtain⟨L,M⟩:=HQ.o;(go_wp2_with fail);clear L M;go_meet;exact⟨_,n.o.fin (MP (by have:=HJ.o.1;omega) (by have:=HJ.o.1;omega) HJ.o.2)⟩
 obtain⟨l8,P⟩:=hcut;have N:=lh P;clear P;have br:(Instr.loadAt 51 (.pointer (bP ⟨s,0,bR⟩))).run prog wc=.ok (.agg ⟨l8.row⟩) wc:=run_loadAt_mid wc s 0 51 l8.row _ (gp N.o.h3 lz) underlying51 rfl (bT dS).2;have bt:=dQ (o:=0) (ty:=51) (p:=l8.row) (L':=l8.row) N.o.h2 (bT dS).2 lK (row_one _) lK;have bq:=run_loadVar_row (P:=prog) _ (w.heap.size+1) 51 51 ⟨l8.row⟩ (0,0) _ (eQ (L':=l8.row) N.o.h2) underlying51 rfl (bT dS).2;go_wp2_with (first
  |(refine bQ rfl (dw rfl rfl br) ?_;try go_frame)
  |(refine sR bt ?_))
 have bL:=N.o.lt;refine ag (v:=l8.v) ?_ rfl ⟨⟨l8,N.o.ok,(N.o.nw.off gn ⟨_,_,_,N.o.h2,lK⟩ (λq hq=>fQ _ _ _ q hq)).mono gn,N.o.kid,rfl⟩,N.o.t.setRow _ (.inr gn)⟩;simp [results,results20,asAddr,bq];rfl
