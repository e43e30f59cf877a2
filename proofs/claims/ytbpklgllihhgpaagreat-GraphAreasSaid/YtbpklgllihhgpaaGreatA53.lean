import Derived.Test.YtbpklgllihhgpaaGreatA43
import Derived.Test.YtbpklgllihhgpaaGreatA52
set_option maxRecDepth 100000
set_option maxHeartbeats 16000000
namespace Go.Proofs.YtbpklgllihhgpaaGreat
open Tryz Go.RowKit Go.Den
theorem NM(A:Option Addr)(n cap:Nat)(xs:List Int)(id:Int)(w:World)(hx:dn w A n xs):
  Calls prog 4 #[.slice A n cap,id] w fun e w'=>e=.returned (.bool true)∧bH [] w w':=by
 have HX:=lh hx;clear hx;go_enter func4,ntmps4;go_upto_region 1 with fail
 go_upto_region 2 with (go_at_call 8;refine (JS _).mono ?_;rintro e w1 ⟨rfl,hx1⟩)
 have T1:bH [] w w1:=(tR w).ext hx1;have HM:=lh ((OJ A n cap xs 8 (by decide) w1 (HX.o.turn T1)).mono fun e w' hh=>(show (∃d:df,d.At w'∧Ny d 8∧e=.returned (.agg #[.slice d.sA d.sn d.sc,d.root,d.next,.slice d.lA d.ln d.lc]))∧bH [] w1 w' from hh));have HT1:=lh T1;clear hx1 T1 HX;go_upto_region 3 with (go_at_call 9;refine HM.o.mono ?_;rintro e w2 ⟨⟨d,hd,hmd,rfl⟩,t2⟩)
 have HMD:=lh hmd;obtain⟨W3,hW3⟩:∃V,V=w2.alloc (.cells #[.slice d.sA d.sn d.sc,d.root,d.next,.slice d.lA d.ln d.lc] 29):=⟨_,rfl⟩;have t3:bH [] w2 W3:=by rw [hW3];exact (tR w2).alloc _
 have y6:W3.heap[w2.heap.size]?=some (.cells #[.slice d.sA d.sn d.sc,d.root,d.next,.slice d.lA d.ln d.lc] 29 (0,0)):=by rw [hW3];exact heap_alloc_new _ _
 rw [←hW3];clear hW3;have HF:Hid (∀u,bH [] W3 u→u.cell? ⟨w2,0,none⟩=some (.slice d.sA d.sn d.sc)∧u.cell? ⟨w2,1,none⟩=some (.int .i64 d.root)∧u.cell? ⟨w2,2,none⟩=some (.int .i64 d.next)∧u.cell? ⟨w2,3,none⟩=some (.slice d.lA d.ln d.lc)):=lh fun u t=>iw (t.ox y6);have HSO:=lh (QN d id W3 (hd.turn t3));have HT3:=lh (HT1.o.trans (t2.trans t3));have HD:=lh (hd.turn t3);clear hd hmd t2 t3 y6 HT1 HM;generalize w2.heap.size=b6 at *;obtain⟨z0,z1,z2,z3⟩:=HF.o W3 (tR W3);go_upto_region 4 with (go_at_call 10;refine HSO.o.mono ?_;rintro e w4 ⟨rfl,t4⟩)
 clear z0 z1 z2 z3 HSO;obtain⟨kk,hkk⟩:∃z,z=QE d id:=⟨_,rfl⟩;rw [←hkk];clear hkk;have hcn:=RU HD.o HMD.o.tidy HMD.o.ok;have hth:=zY HD.o HMD.o.tidy HMD.o.ok;have hsh:=HD.o.layers.short (by have:=HMD.o.ln;omega);have hkn:∀l∈d.layers,l.Xh=l.kids.length:=fun l hl=>by obtain⟨k,hk⟩:=bu.1 hl;exact (HD.o.layers.2 k l hk).1.kids.1
 have hard:yA d:=⟨HMD.o.tidy,HMD.o.ok,hsh,hkn,hth⟩;have hga:∀u,bH [] W3 u→Calls prog 16 #[.agg #[.slice d.sA d.sn d.sc,d.root,d.next,.slice d.lA d.ln d.lc],kk] u fun e w'=>e=.returned (.tuple #[((iJ d none kk).getD Rc.zero).v,.bool (iJ d none kk).isSome])∧bH [] u w':=fun u t=>BQ d none kk u (HD.o.turn t) hcn hth fun _=>hard;have hra:∀u,bH [] W3 u→Calls prog 17 #[.agg #[.slice d.sA d.sn d.sc,d.root,d.next,.slice d.lA d.ln d.lc],kk] u fun e w'=>e=.returned (.agg (xE ((iJ d none kk).getD Rc.zero) (iJ d none kk).isSome))∧bH [] u w':=fun u t=>OG d kk u (HD.o.turn t) hard;have hbr:∀u,bH [] W3 u→Calls prog 15 #[.agg #[.slice d.sA d.sn d.sc,d.root,d.next,.slice d.lA d.ln d.lc],id] u fun e w'=>(∃(sA:Option Addr) (sn sc:Nat) (x y:Int) (lA:Option Addr) (ln lc:Nat),(∀u',bH [] w' u'→Calls prog 16 #[.agg #[.slice sA sn sc,x,y,.slice lA ln lc],kk] u' fun e w''=>e=.returned (.tuple #[.agg #[(0:Int),(0:Int),(0:Int),(0:Int)],.bool false])∧bH [] u' w'')∧e=.returned (.agg #[.slice sA sn sc,x,y,.slice lA ln lc]))∧bH [] u w':=fun u t=>(IZ d id u (HD.o.turn t) HMD.o.tidy HMD.o.ok HMD.o.root).mono fun e w' hh=>by obtain⟨⟨d',k,hd',hck,hth,rfl⟩,tt⟩:=hh;exact⟨⟨d'.sA,d'.sn,d'.sc,d'.root,d'.next,d'.lA,d'.ln,d'.lc,fun u' t'=>BQ d' (some k) kk u' (hd'.turn t') hck hth (fun e=>by cases e),rfl⟩,tt⟩
 clear hcn hth hsh hkn hard;generalize (iJ d none kk).getD Rc.zero=q at *;generalize (iJ d none kk).isSome=ok at *;unfold Rc.v at hga;unfold xE at hra;have HG:=lh hga;have HR:=lh hra;have HB:=lh hbr;have HT4:=lh t4;clear hga hra hbr t4 HD HMD;obtain⟨z0,z1,z2,z3⟩:=HF.o w4 HT4.o;go_upto_region 5 with (go_at_call 16;refine (HG.o _ HT4.o).mono ?_;rintro e w5 ⟨rfl,t5⟩)
 clear z0 z1 z2 z3 HG;obtain⟨W5,hW5⟩:∃V,V=w5.alloc (.cells #[q.x0,q.y0,q.x1,q.y1] 24):=⟨_,rfl⟩;have T5:bH [] W3 W5:=by rw [hW5];exact (HT4.o.trans t5).alloc _
 have y8:W5.heap[w5.heap.size]?=some (.cells #[q.x0,q.y0,q.x1,q.y1] 24 (0,0)):=by rw [hW5];exact heap_alloc_new _ _
 rw [←hW5];clear hW5 t5 HT4;have HY8:=lh y8;have HT5:=lh T5;clear y8 T5;generalize w5.heap.size=b8 at *;obtain⟨z0,z1,z2,z3⟩:=HF.o W5 HT5.o;go_upto_region 6 with (go_at_call 17;refine (HR.o _ HT5.o).mono ?_;rintro e w6 ⟨rfl,t6⟩)
 clear z0 z1 z2 z3 HR;obtain⟨W6,hW6⟩:∃V,V=w6.alloc (.cells #[q.x0,q.y0,q.x1,q.y1,.bool ok] 42):=⟨_,rfl⟩;have T6:bH [] W5 W6:=by rw [hW6];exact t6.alloc _
 have y10:W6.heap[w6.heap.size]?=some (.cells #[q.x0,q.y0,q.x1,q.y1,.bool ok] 42 (0,0)):=by rw [hW6];exact heap_alloc_new _ _
 rw [←hW6];clear hW6 t6;have HY10:=lh y10;have HT6:=lh T6;clear y10 T6;generalize w6.heap.size=b10 at *;obtain⟨z0,z1,z2,z3⟩:=HF.o W6 (HT5.o.trans HT6.o);go_upto_region 7 with (first
  | (go_at_call 15;refine (HB.o _ (HT5.o.trans HT6.o)).mono ?_;rintro e w7 ⟨⟨sA,sn,sc,x,y,lA,ln,lc,hgb,rfl⟩,t7⟩)
  | (go_at_call 16;refine (hgb _ (tR _)).mono ?_;rintro e w8 ⟨rfl,t8⟩))
 clear z0 z1 z2 z3 HB hgb;obtain⟨W8,hW8⟩:∃V,V=w8.alloc (.cells #[(0:Int),(0:Int),(0:Int),(0:Int)] 24):=⟨_,rfl⟩;have T8:bH [] W6 W8:=by rw [hW8];exact (t7.trans t8).alloc _
 rw [←hW8];clear hW8 t7 t8;have e8:=(HT6.o.trans T8).ox HY8.o;have e10:=T8.ox HY10.o;have p0:=bK e8 (i:=0) (v:=q.x0) rfl;have p1:=bK e8 (i:=1) (v:=q.y0) rfl;have p2:=bK e8 (i:=2) (v:=q.x1) rfl;have p3:=bK e8 (i:=3) (v:=q.y1) rfl;have r0:=bK e10 (i:=0) (v:=q.x0) rfl;have r1:=bK e10 (i:=1) (v:=q.y0) rfl;have r2:=bK e10 (i:=2) (v:=q.x1) rfl;have r3:=bK e10 (i:=3) (v:=q.y1) rfl;have r4:=bK e10 (i:=4) (v:=.bool ok) rfl;have HT:=lh (HT3.o.trans (HT5.o.trans (HT6.o.trans T8)));clear e8 e10 T8 HT3 HT5 HT6 HY8 HY10 HF;go_wp2_with fail
 go_ret;exact⟨rfl,HT.o⟩
end Go.Proofs.YtbpklgllihhgpaaGreat
