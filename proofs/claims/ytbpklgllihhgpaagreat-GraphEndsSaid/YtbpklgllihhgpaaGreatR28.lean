import Derived.Test.YtbpklgllihhgpaaGreatR15
set_option maxRecDepth 100000
set_option maxHeartbeats 16000000
namespace Go.Proofs.YtbpklgllihhgpaaGreat
open Tryz Go.RowKit Go.Den
structure Rc.InC(r:Rc): Prop where
 a0:-65536≤r.x0
 a1:r.x0<r.x1
 a2:r.x1≤65536
 b0:-65536≤r.y0
 b1:r.y0<r.y1
 b2:r.y1≤65536
theorem Rc.InC.full{r:Rc}(h:r.InC): r.empty=false:=by have:=h.a1;have:=h.b1;unfold Rc.empty;simp only [Bool.or_eq_false_iff,decide_eq_false_iff_not];omega
def Rc.cv:Rc:=⟨-65536,-65536,65536,65536⟩
theorem ref_rvalid(r:Rc)(h:r.InC)(w:World): Calls prog 130 #[r.v] w fun e w'=>e=.returned (.bool true)∧Turn [] w w':=by
 have hE:=fun w=>ref_empty r w;rw [h.full]at hE;have HE:=lh hE;obtain⟨a0,a1,a2,b0,b1,b2⟩:=h;obtain⟨x0,y0,x1,y1⟩:=r;unfold Rc.v at *;simp only at *;obtain⟨W,hW⟩:∃W,W=w.alloc (.cells #[x0,y0,x1,y1] 24):=⟨_,rfl⟩;have T0:Turn [] w W:=hW ▸ (tR w).alloc _;have hWs:w.heap.size+1≤W.heap.size:=by rw [hW];simp
 obtain⟨r0,r1,r2,r3⟩:=cs4 (al1 hW);clear hE;go_enter func130,ntmps130;go_upto_region 1 with (fail)
 rw [←hW];clear hW;go_upto_region 2 with (go_at_call 46;(with_reducible refine (HE.out _).mono ?_);rintro e w1 ⟨rfl,ht1⟩)
 obtain⟨hc,hf⟩:=tcell ht1;have q0:=tq hc r0;have q1:=tq hc r1;have q2:=tq hc r2;have q3:=tq hc r3;have T1:=lh (T0.trans ht1);clear hc hf ht1 T0 r0 r1 r2 r3;go_wp2_with fail
 go_ret;exact⟨rfl,T1.out⟩
theorem rect_inside(r:Rc)(h:r.InC)(w:World): Calls prog 200 #[r.v,Rc.cv.v] w fun e w'=>e=.returned (.bool true)∧Turn [] w w':=by
 have hE:=fun w=>rect_empty r w;rw [h.full]at hE;have HE:=lh hE;obtain⟨a0,a1,a2,b0,b1,b2⟩:=h;obtain⟨x0,y0,x1,y1⟩:=r;unfold Rc.v Rc.cv at *;simp only at *;obtain⟨W,hW⟩:∃W,W=(w.alloc (.cells #[x0,y0,x1,y1] 24)).alloc (.cells #[.int .i64 (-65536),.int .i64 (-65536),(65536:Int),(65536:Int)] 24):=⟨_,rfl⟩;have T0:Turn [] w W:=hW ▸ ((tR w).alloc _).alloc _;have hWs:w.heap.size+2≤W.heap.size:=by rw [hW];simp
 obtain⟨r0,r1,r2,r3⟩:=cs4 (al2 hW).1;obtain⟨s0,s1,s2,s3⟩:=cs4 (al2 hW).2;clear hE;go_enter func200,ntmps200;go_upto_region 1 with (fail)
 rw [←hW];clear hW;go_wp2_with (go_at_call 18;(with_reducible refine (HE.out _).mono ?_);rintro e w1 ⟨rfl,ht1⟩;obtain⟨hc,hf⟩:=tcell ht1;have q0:=tq hc r0;have q1:=tq hc r1;have q2:=tq hc r2;have q3:=tq hc r3;have p0:=tq hc s0;have p1:=tq hc s1;have p2:=tq hc s2;have p3:=tq hc s3;have T1:=lh (T0.trans ht1);clear hc hf ht1 T0 r0 r1 r2 r3 s0 s1 s2 s3)
 go_ret;exact⟨rfl,T1.out⟩
theorem rect_rvalid(r:Rc)(h:r.InC)(w:World): Calls prog 176 #[r.v] w fun e w'=>e=.returned (.bool true)∧Turn [] w w':=by
 have hE:=fun w=>rect_empty r w;rw [h.full]at hE;have HE:=lh hE;have HI:=lh (rect_inside r h);clear h;obtain⟨x0,y0,x1,y1⟩:=r;unfold Rc.v Rc.cv at *;simp only at *;obtain⟨W,hW⟩:∃W,W=w.alloc (.cells #[x0,y0,x1,y1] 24):=⟨_,rfl⟩;have T0:Turn [] w W:=hW ▸ (tR w).alloc _;have hWs:w.heap.size+1≤W.heap.size:=by rw [hW];simp
 obtain⟨r0,r1,r2,r3⟩:=cs4 (al1 hW);clear hE;go_enter func176,ntmps176;go_upto_region 1 with (fail)
 rw [←hW];clear hW;go_wp2_with (first
  | (go_at_call 18;(with_reducible refine (HE.out _).mono ?_);rintro e w1 ⟨rfl,ht1⟩;obtain⟨hc,hf⟩:=tcell ht1;have q0:=tq hc r0;have q1:=tq hc r1;have q2:=tq hc r2;have q3:=tq hc r3;have T1:=lh (T0.trans ht1);clear hc hf ht1 T0 r0 r1 r2 r3)
  | (go_at_call 200;(with_reducible refine (HI.out _).mono ?_);rintro e w2 ⟨rfl,ht2⟩))
 go_ret;exact⟨rfl,T1.out.trans ht2⟩
def Rc.can(r:Rc): Rc:=r.meet Rc.cv
theorem Rc.can_cases(r:Rc): r.can=Rc.zero∨r.can.InC:=by
 unfold Rc.can Rc.meet Rc.norm;split
 ·exact .inl rfl
 rename_i h;unfold Rc.empty at h;simp only [Bool.or_eq_true,decide_eq_true_eq,not_or]at h;simp only [Rc.cv]at h;exact .inr ⟨by simp only [Rc.cv];omega,by simp only [Rc.cv];omega,by simp only [Rc.cv];omega,by simp only [Rc.cv];omega,by simp only [Rc.cv];omega,by simp only [Rc.cv];omega⟩
theorem Rc.can_in{r:Rc}(h:r.can.empty=false): r.can.InC:=by
 rcases r.can_cases with e | e
 ·rw [e]at h;simp [Rc.empty,Rc.zero]at h
 exact e
theorem Rc.InC.bd{r:Rc}(h:r.InC): r.bd:=by obtain⟨a,b,c,d,e,f⟩:=h;unfold Rc.bd;omega
theorem Rc.InC.can{r:Rc}(h:r.InC): r.can=r:=by
 obtain⟨x0,y0,x1,y1⟩:=r;obtain⟨a,b,c,d,e,f⟩:=h;simp only at *;unfold Rc.can Rc.meet Rc.cv;have h1:max x0 (-65536)=x0:=by omega
 have h2:max y0 (-65536)=y0:=by omega
 have h3:min x1 65536=x1:=by omega
 have h4:min y1 65536=y1:=by omega
 simp only [h1,h2,h3,h4];unfold Rc.norm Rc.empty;rw [if_neg];simp only [Bool.or_eq_true,decide_eq_true_eq];omega
theorem Rc.can_join{r s:Rc}(h:r.InC): (r.join s).can.InC:=by
 refine Rc.can_in ?_;have he:=h.full;obtain⟨x0,y0,x1,y1⟩:=r;obtain⟨a,b,c,d,e,f⟩:=h;simp only at *;unfold Rc.join;rw [he,if_neg (by simp)];have key:∀z:Rc,z.x0≤x0→z.y0≤y0→x1≤z.x1→y1≤z.y1→z.can.empty=false:=by
  intro z h1 h2 h3 h4;unfold Rc.can Rc.meet Rc.norm;have hz:(Rc.mk (max z.x0 Rc.cv.x0) (max z.y0 Rc.cv.y0) (min z.x1 Rc.cv.x1) (min z.y1 Rc.cv.y1)).empty=false:=by unfold Rc.empty;simp only [Bool.or_eq_false_iff,decide_eq_false_iff_not];simp only [Rc.cv];omega
  rw [hz,if_neg (by simp)];exact hz
 by_cases hs:s.empty=true
 ·rw [if_pos hs];exact key _ (by simp) (by simp) (by simp) (by simp)
 rw [if_neg hs];exact key _ (by simp only;omega) (by simp only;omega) (by simp only;omega) (by simp only;omega)
theorem ref_can(r:Rc)(w:World): Calls prog 19 #[r.v] w fun e w'=>e=.returned r.can.v∧Turn [] w w':=by
 have hn:=ref_meet r Rc.cv;rw [show r.meet Rc.cv=r.can from rfl]at hn;generalize r.can=m at *;obtain⟨x0,y0,x1,y1⟩:=r;obtain⟨m0,m1,m2,m3⟩:=m;simp only [Rc.v,Rc.cv]at *;have HN:=lh hn;clear hn;have T0:Turn [] _ _:=((tR w).alloc (.cells #[x0,y0,x1,y1] 24)).alloc (.cells #[(0:Int),(0:Int),(0:Int),(0:Int)] 24);have TT:=T0.here;go_enter func19,ntmps19;go_wp2_with (go_at_call 54;refine TT.call (HN.out _) ?_;intro w1 TT hc hf)
 have TT:=T0.trans TT;exact bodyPost_ret (v:=.agg #[m0,m1,m2,m3]) (by simp [results,results19,go_sem,hc]) rfl ⟨rfl,((((TT.sc).sc).sc).sc)⟩
theorem prog_can(r:Rc)(w:World): Calls prog 40 #[r.v] w fun e w'=>e=.returned r.can.v∧Turn [] w w':=by
 have hn:=rect_meet r Rc.cv;rw [show r.meet Rc.cv=r.can from rfl]at hn;generalize r.can=m at *;obtain⟨x0,y0,x1,y1⟩:=r;obtain⟨m0,m1,m2,m3⟩:=m;simp only [Rc.v,Rc.cv]at *;have HN:=lh hn;clear hn;have T0:Turn [] _ _:=((tR w).alloc (.cells #[x0,y0,x1,y1] 24)).alloc (.cells #[(0:Int),(0:Int),(0:Int),(0:Int)] 24);have TT:=T0.here;go_enter func40,ntmps40;go_wp2_with (go_at_call 78;refine TT.call (HN.out _) ?_;intro w1 TT hc hf)
 have TT:=T0.trans TT;exact bodyPost_ret (v:=.agg #[m0,m1,m2,m3]) (by simp [results,results40,go_sem,hc]) rfl ⟨rfl,((((TT.sc).sc).sc).sc)⟩
end Go.Proofs.YtbpklgllihhgpaaGreat
