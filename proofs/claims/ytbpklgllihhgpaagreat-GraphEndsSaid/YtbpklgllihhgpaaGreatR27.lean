import Derived.BigRegion
import Derived.Test.YtbpklgllihhgpaaGreatR15
import Derived.Test.YtbpklgllihhgpaaGreatR16
set_option maxRecDepth 100000
set_option maxHeartbeats 16000000
namespace Go.Proofs.YtbpklgllihhgpaaGreat
open Tryz Go.RowKit Go.Den
def Af.srcX(p:Af)(x y:Int): Int:=floorM (p.den*(p.e*(2*x+1) - p.b*(2*y+1))+2*(p.b*p.f - p.e*p.c)) (2*p.det)
def Af.srcY(p:Af)(x y:Int): Int:=floorM (p.den*(p.a*(2*y+1) - p.d*(2*x+1))+2*(p.d*p.c - p.a*p.f)) (2*p.det)
theorem Af.bds(p:Af)(h:p.ok=true): (((-4096≤p.a∧p.a≤4096)∧-4096≤p.b∧p.b≤4096)∧(-4096≤p.d∧p.d≤4096)∧-4096≤p.e∧p.e≤4096)∧(1≤p.den∧p.den≤4096)∧(-268435456≤p.c∧p.c≤268435456)∧-268435456≤p.f∧p.f≤268435456:=by simp only [Af.ok,Af.small,Af.shift,Bool.and_eq_true,inB_iff,decide_eq_true_eq]at h;omega
theorem Af.det_bd(p:Af)(h:p.ok=true): -33554432≤p.det∧p.det≤33554432:=by obtain⟨⟨⟨⟨a0,a1⟩,b0,b1⟩,⟨d0,d1⟩,e0,e1⟩,_⟩:=p.bds h;obtain⟨m0,m1⟩:=mul_bd a0 a1 e0 e1 (by omega) (by omega);obtain⟨n0,n1⟩:=mul_bd b0 b1 d0 d1 (by omega) (by omega);unfold Af.det;omega
theorem Af.ok_small(p:Af)(h:p.ok=true): p.small=true:=by simp only [Af.ok,Bool.and_eq_true]at h;exact h.1.1.2
theorem wrap_sm(z:Int)(h0:-4611686018427387904≤z)(h1:z≤4611686018427387904): wrap64 z=z:=by unfold wrap64;omega
theorem iwr(z:Int): IntKind.i64.wrap z=wrap64 z:=by unfold wrap64;simp [IntKind.wrap,IntKind.bits,IntKind.signed];omega
theorem prog_source(p:Af)(hp:p.ok=true)(x y:Int)(hx0:-1048576≤x)(hx1:x≤1048576)(hy0:-1048576≤y)(hy1:y≤1048576)(w:World):
  Calls prog 124 #[p.v,.agg #[x,y]] w fun e w'=>e=.returned (.agg #[.int .i64 (p.srcX x y),.int .i64 (p.srcY x y)])∧Turn [] w w':=by
 have hdet:=fun w=>aff_det p (p.ok_small hp) w;have hdb:=p.det_bd hp;obtain⟨⟨⟨⟨a0,a1⟩,b0,b1⟩,⟨d0,d1⟩,e0,e1⟩,⟨n0,n1⟩,⟨c0,c1⟩,f0,f1⟩:=p.bds hp;unfold Af.srcX Af.srcY;clear hp;obtain⟨a,b,c,d,e,f,den⟩:=p;simp only [Af.v]at *;generalize (Af.mk a b c d e f den).det=dt at *;obtain⟨u,eu⟩:∃q,2*x+1=q:=⟨_,rfl⟩;have u0:-4194304≤u:=by omega
 have u1:u≤4194304:=by omega
 obtain⟨v,ev⟩:∃q,2*y+1=q:=⟨_,rfl⟩;have v0:-4194304≤v:=by omega
 have v1:v≤4194304:=by omega
 obtain⟨p1,g1⟩:∃q,e*u=q:=⟨_,rfl⟩;obtain⟨p1a,p1b⟩:=mul_bd e0 e1 u0 u1 (by omega) (by omega);simp only [g1,Int.reduceMul,Int.reduceNeg]at p1a p1b;obtain⟨p2,g2⟩:∃q,b*v=q:=⟨_,rfl⟩;obtain⟨p2a,p2b⟩:=mul_bd b0 b1 v0 v1 (by omega) (by omega);simp only [g2,Int.reduceMul,Int.reduceNeg]at p2a p2b;obtain⟨q1,k1⟩:∃q,p1 - p2=q:=⟨_,rfl⟩;have q1a:-34359738368≤q1:=by omega
 have q1b:q1≤34359738368:=by omega
 obtain⟨p3,g3⟩:∃q,den*q1=q:=⟨_,rfl⟩;obtain⟨p3a,p3b⟩:=mul_bd (by omega:-4096≤den) n1 q1a q1b (by omega) (by omega);simp only [g3,Int.reduceMul,Int.reduceNeg]at p3a p3b;obtain⟨p4,g4⟩:∃q,b*f=q:=⟨_,rfl⟩;obtain⟨p4a,p4b⟩:=mul_bd b0 b1 f0 f1 (by omega) (by omega);simp only [g4,Int.reduceMul,Int.reduceNeg]at p4a p4b;obtain⟨p5,g5⟩:∃q,e*c=q:=⟨_,rfl⟩;obtain⟨p5a,p5b⟩:=mul_bd e0 e1 c0 c1 (by omega) (by omega);simp only [g5,Int.reduceMul,Int.reduceNeg]at p5a p5b;obtain⟨p6,g6⟩:∃q,a*v=q:=⟨_,rfl⟩;obtain⟨p6a,p6b⟩:=mul_bd a0 a1 v0 v1 (by omega) (by omega);simp only [g6,Int.reduceMul,Int.reduceNeg]at p6a p6b;obtain⟨p7,g7⟩:∃q,d*u=q:=⟨_,rfl⟩;obtain⟨p7a,p7b⟩:=mul_bd d0 d1 u0 u1 (by omega) (by omega);simp only [g7,Int.reduceMul,Int.reduceNeg]at p7a p7b;obtain⟨q2,k2⟩:∃q,p6 - p7=q:=⟨_,rfl⟩;have q2a:-34359738368≤q2:=by omega
 have q2b:q2≤34359738368:=by omega
 obtain⟨p8,g8⟩:∃q,den*q2=q:=⟨_,rfl⟩;obtain⟨p8a,p8b⟩:=mul_bd (by omega:-4096≤den) n1 q2a q2b (by omega) (by omega);simp only [g8,Int.reduceMul,Int.reduceNeg]at p8a p8b;obtain⟨p9,g9⟩:∃q,d*c=q:=⟨_,rfl⟩;obtain⟨p9a,p9b⟩:=mul_bd d0 d1 c0 c1 (by omega) (by omega);simp only [g9,Int.reduceMul,Int.reduceNeg]at p9a p9b;obtain⟨p10,g10⟩:∃q,a*f=q:=⟨_,rfl⟩;obtain⟨p10a,p10b⟩:=mul_bd a0 a1 f0 f1 (by omega) (by omega);simp only [g10,Int.reduceMul,Int.reduceNeg]at p10a p10b;obtain⟨X,eX⟩:∃q,p3+2*(p4 - p5)=q:=⟨_,rfl⟩;obtain⟨Y,eY⟩:∃q,p8+2*(p9 - p10)=q:=⟨_,rfl⟩;have X0:-4611686018427387904≤X:=by omega
 have X1:X≤4611686018427387904:=by omega
 have Y0:-4611686018427387904≤Y:=by omega
 have Y1:Y≤4611686018427387904:=by omega
 obtain⟨D,eD⟩:∃q,2*dt=q:=⟨_,rfl⟩;rw [eu,ev,g1,g2,g4,g5,g6,g7,g9,g10,k1,k2,g3,g8,eX,eY,eD];have w0:wrap64 (2*x)=2*x:=(wrap_sm _ (by omega) (by omega));have w1:wrap64 (2*x+1)=u:=(wrap_sm _ (by omega) (by omega)).trans eu;have w2:wrap64 (2*y)=2*y:=(wrap_sm _ (by omega) (by omega));have w3:wrap64 (2*y+1)=v:=(wrap_sm _ (by omega) (by omega)).trans ev;have w4:wrap64 (2*dt)=D:=(wrap_sm _ (by omega) (by omega)).trans eD;have w5:wrap64 (e*u)=p1:=(wrap_sm _ (by omega) (by omega)).trans g1;have w6:wrap64 (b*v)=p2:=(wrap_sm _ (by omega) (by omega)).trans g2;have w7:wrap64 (p1 - p2)=q1:=(wrap_sm _ (by omega) (by omega)).trans k1;have w8:wrap64 (den*q1)=p3:=(wrap_sm _ (by omega) (by omega)).trans g3;have w9:wrap64 (b*f)=p4:=(wrap_sm _ (by omega) (by omega)).trans g4;have w10:wrap64 (e*c)=p5:=(wrap_sm _ (by omega) (by omega)).trans g5;have w11:wrap64 (p4 - p5)=p4 - p5:=(wrap_sm _ (by omega) (by omega));have w12:wrap64 (2*(p4 - p5))=2*(p4 - p5):=(wrap_sm _ (by omega) (by omega));have w13:wrap64 (p3+2*(p4 - p5))=X:=(wrap_sm _ (by omega) (by omega)).trans eX;have w14:wrap64 (a*v)=p6:=(wrap_sm _ (by omega) (by omega)).trans g6;have w15:wrap64 (d*u)=p7:=(wrap_sm _ (by omega) (by omega)).trans g7;have w16:wrap64 (p6 - p7)=q2:=(wrap_sm _ (by omega) (by omega)).trans k2;have w17:wrap64 (den*q2)=p8:=(wrap_sm _ (by omega) (by omega)).trans g8;have w18:wrap64 (d*c)=p9:=(wrap_sm _ (by omega) (by omega)).trans g9;have w19:wrap64 (a*f)=p10:=(wrap_sm _ (by omega) (by omega)).trans g10;have w20:wrap64 (p9 - p10)=p9 - p10:=(wrap_sm _ (by omega) (by omega));have w21:wrap64 (2*(p9 - p10))=2*(p9 - p10):=(wrap_sm _ (by omega) (by omega));have w22:wrap64 (p8+2*(p9 - p10))=Y:=(wrap_sm _ (by omega) (by omega)).trans eY;have HFX:=lh (rect_floor X D X0 X1);have HFY:=lh (rect_floor Y D Y0 Y1);have HDT:=lh hdet;clear hdet hdb eu ev eX eY eD k1 k2 g1 p1a p1b g2 p2a p2b g3 p3a p3b g4 p4a p4b g5 p5a p5b g6 p6a p6b g7 p7a p7b g8 p8a p8b g9 p9a p9b g10 p10a p10b a0 a1 b0 b1 d0 d1 e0 e1 n0 n1 c0 c1 f0 f1 u0 u1 v0 v1 q1a q1b q2a q2b X0 X1 Y0 Y1 hx0 hx1 hy0 hy1;obtain⟨W,hW⟩:∃W,W=((w.alloc (.cells #[a,b,c,d,e,f,den] 80)).alloc (.cells #[x,y] 147)).alloc (.cells #[(0:Int),(0:Int)] 147):=⟨_,rfl⟩;have T0:Turn [] w W:=hW ▸ (((tR w).alloc _).alloc _).alloc _;have hWs:w.heap.size+3≤W.heap.size:=by rw [hW];simp
 obtain⟨r0,r1,r2,r3,r4,r5,r6⟩:=cs7 (al3 hW).1;obtain⟨s0,s1⟩:=cs2 (al3 hW).2.1;obtain⟨z0,z1⟩:=cs2 (al3 hW).2.2;have zf:∀i,W.frozen? ⟨w.heap.size+2,i,none⟩=false:=fun i=>by rw [hW];simp [go_sem]
 go_enter func124,ntmps124;go_upto_region 1 with (fail)
 rw [←hW];clear hW;have v0:=(iwr _).trans w0;have v1:=(iwr _).trans w1;have v2:=(iwr _).trans w2;have v3:=(iwr _).trans w3;have v4:=(iwr _).trans w4;refine AnyTill.start (fun w'=>Turn [] W w') 13 (by kernel_rfl) ?_;have hS:Turn [] W W.drew:=(tR W).drawn 1;generalize W.drew=V at *;refine tk 0 9 10 (.pointer (some ⟨w.heap.size+1,0,none⟩)) hS ?_;try go_frame
 refine tk 1 9 11 x hS ?_ (hy:=fun w' hw=>by have hc:=(tcell hw).1;have e0:=tq hc r0;have e1:=tq hc r1;have e2:=tq hc r2;have e3:=tq hc r3;have e4:=tq hc r4;have e5:=tq hc r5;have e6:=tq hc r6;have h0:=tq hc s0;have h1:=tq hc s1;go_simp);try go_frame
 refine tk 2 9 12 (.int .i64 (2*x)) hS ?_;try go_frame
 refine tk 3 9 13 u hS ?_;try go_frame
 refine tk 4 9 14 (.pointer (some ⟨w.heap.size+1,1,none⟩)) hS ?_;try go_frame
 refine tk 5 9 15 y hS ?_ (hy:=fun w' hw=>by have hc:=(tcell hw).1;have e0:=tq hc r0;have e1:=tq hc r1;have e2:=tq hc r2;have e3:=tq hc r3;have e4:=tq hc r4;have e5:=tq hc r5;have e6:=tq hc r6;have h0:=tq hc s0;have h1:=tq hc s1;go_simp);try go_frame
 refine tk 6 9 16 (.int .i64 (2*y)) hS ?_;try go_frame
 refine tk 7 9 17 v hS ?_;try go_frame
 refine tk 8 9 18 (.agg #[a,b,c,d,e,f,den]) hS ?_ (hy:=fun w' hw=>by have hc:=(tcell hw).1;have e0:=tq hc r0;have e1:=tq hc r1;have e2:=tq hc r2;have e3:=tq hc r3;have e4:=tq hc r4;have e5:=tq hc r5;have e6:=tq hc r6;have h0:=tq hc s0;have h1:=tq hc s1;go_simp);try go_frame
 refine tk1 9 fun K hK=>?_;go_simp;refine (HDT.out _).mono ?_;rintro e w5 ⟨rfl,ht5⟩;have hS:=hS.trans ht5;clear ht5;refine hK _ _ (fun _=>hS) ?_;clear hK K;try go_frame
 refine tk 10 9 20 D hS ?_;try go_frame
 refine tk 11 9 5 u hS ?_;try go_frame
 refine tk 12 9 6 v hS ?_;try go_frame
 refine tk1 13 fun K hK=>?_;go_simp;refine hK _ _ (fun h=>absurd rfl h) ?_;clear hK K;try go_frame
 refine tkd ?_;obtain⟨hc,hf⟩:=tcell hS;have t0:=tq hc r0;have t1:=tq hc r1;have t2:=tq hc r2;have t3:=tq hc r3;have t4:=tq hc r4;have t5:=tq hc r5;have t6:=tq hc r6;have q0:=tq hc z0;have q1:=tq hc z1;have qf:=fun i=>(hf (w.heap.size+2) i (by omega)).trans (zf i);have T1:=lh (T0.trans hS);clear hS hc hf z0 z1 zf s0 s1 T0 hWs v0 v1 v2 v3 v4 w0 w1 w2 w3 w4 r0 r1 r2 r3 r4 r5 r6;go_wp2_with (first
  | (go_at_call 139;(with_reducible refine (HFX.out _).mono ?_);rintro e1 w6 ⟨rfl,rfl⟩)
  | (go_at_call 139;(with_reducible refine (HFY.out _).mono ?_);rintro e1 w6 ⟨rfl,rfl⟩))
 refine bodyPost_ret (v:=.agg #[.int .i64 (floorM X D),.int .i64 (floorM Y D)]) (by simp [results,results124,go_sem,q0,q1]) rfl ?_;exact⟨rfl,(T1.out.sc).sc⟩
theorem ref_source(p:Af)(hp:p.ok=true)(x y:Int)(hx0:-1048576≤x)(hx1:x≤1048576)(hy0:-1048576≤y)(hy1:y≤1048576)(w:World):
  Calls prog 131 #[p.v,x,y] w fun e w'=>e=.returned (.agg #[.int .i64 (p.srcX x y),.int .i64 (p.srcY x y)])∧Turn [] w w':=by
 have hdet:=fun w=>ref_det p (p.ok_small hp) w;have hdb:=p.det_bd hp;obtain⟨⟨⟨⟨a0,a1⟩,b0,b1⟩,⟨d0,d1⟩,e0,e1⟩,⟨n0,n1⟩,⟨c0,c1⟩,f0,f1⟩:=p.bds hp;unfold Af.srcX Af.srcY;clear hp;obtain⟨a,b,c,d,e,f,den⟩:=p;simp only [Af.v]at *;generalize (Af.mk a b c d e f den).det=dt at *;obtain⟨u,eu⟩:∃q,2*x+1=q:=⟨_,rfl⟩;have u0:-4194304≤u:=by omega
 have u1:u≤4194304:=by omega
 obtain⟨v,ev⟩:∃q,2*y+1=q:=⟨_,rfl⟩;have v0:-4194304≤v:=by omega
 have v1:v≤4194304:=by omega
 obtain⟨p1,g1⟩:∃q,e*u=q:=⟨_,rfl⟩;obtain⟨p1a,p1b⟩:=mul_bd e0 e1 u0 u1 (by omega) (by omega);simp only [g1,Int.reduceMul,Int.reduceNeg]at p1a p1b;obtain⟨p2,g2⟩:∃q,b*v=q:=⟨_,rfl⟩;obtain⟨p2a,p2b⟩:=mul_bd b0 b1 v0 v1 (by omega) (by omega);simp only [g2,Int.reduceMul,Int.reduceNeg]at p2a p2b;obtain⟨q1,k1⟩:∃q,p1 - p2=q:=⟨_,rfl⟩;have q1a:-34359738368≤q1:=by omega
 have q1b:q1≤34359738368:=by omega
 obtain⟨p3,g3⟩:∃q,den*q1=q:=⟨_,rfl⟩;obtain⟨p3a,p3b⟩:=mul_bd (by omega:-4096≤den) n1 q1a q1b (by omega) (by omega);simp only [g3,Int.reduceMul,Int.reduceNeg]at p3a p3b;obtain⟨p4,g4⟩:∃q,b*f=q:=⟨_,rfl⟩;obtain⟨p4a,p4b⟩:=mul_bd b0 b1 f0 f1 (by omega) (by omega);simp only [g4,Int.reduceMul,Int.reduceNeg]at p4a p4b;obtain⟨p5,g5⟩:∃q,e*c=q:=⟨_,rfl⟩;obtain⟨p5a,p5b⟩:=mul_bd e0 e1 c0 c1 (by omega) (by omega);simp only [g5,Int.reduceMul,Int.reduceNeg]at p5a p5b;obtain⟨p6,g6⟩:∃q,a*v=q:=⟨_,rfl⟩;obtain⟨p6a,p6b⟩:=mul_bd a0 a1 v0 v1 (by omega) (by omega);simp only [g6,Int.reduceMul,Int.reduceNeg]at p6a p6b;obtain⟨p7,g7⟩:∃q,d*u=q:=⟨_,rfl⟩;obtain⟨p7a,p7b⟩:=mul_bd d0 d1 u0 u1 (by omega) (by omega);simp only [g7,Int.reduceMul,Int.reduceNeg]at p7a p7b;obtain⟨q2,k2⟩:∃q,p6 - p7=q:=⟨_,rfl⟩;have q2a:-34359738368≤q2:=by omega
 have q2b:q2≤34359738368:=by omega
 obtain⟨p8,g8⟩:∃q,den*q2=q:=⟨_,rfl⟩;obtain⟨p8a,p8b⟩:=mul_bd (by omega:-4096≤den) n1 q2a q2b (by omega) (by omega);simp only [g8,Int.reduceMul,Int.reduceNeg]at p8a p8b;obtain⟨p9,g9⟩:∃q,d*c=q:=⟨_,rfl⟩;obtain⟨p9a,p9b⟩:=mul_bd d0 d1 c0 c1 (by omega) (by omega);simp only [g9,Int.reduceMul,Int.reduceNeg]at p9a p9b;obtain⟨p10,g10⟩:∃q,a*f=q:=⟨_,rfl⟩;obtain⟨p10a,p10b⟩:=mul_bd a0 a1 f0 f1 (by omega) (by omega);simp only [g10,Int.reduceMul,Int.reduceNeg]at p10a p10b;obtain⟨X,eX⟩:∃q,p3+2*(p4 - p5)=q:=⟨_,rfl⟩;obtain⟨Y,eY⟩:∃q,p8+2*(p9 - p10)=q:=⟨_,rfl⟩;have X0:-4611686018427387904≤X:=by omega
 have X1:X≤4611686018427387904:=by omega
 have Y0:-4611686018427387904≤Y:=by omega
 have Y1:Y≤4611686018427387904:=by omega
 obtain⟨D,eD⟩:∃q,2*dt=q:=⟨_,rfl⟩;rw [eu,ev,g1,g2,g4,g5,g6,g7,g9,g10,k1,k2,g3,g8,eX,eY,eD];have w0:wrap64 (2*x)=2*x:=(wrap_sm _ (by omega) (by omega));have w1:wrap64 (2*x+1)=u:=(wrap_sm _ (by omega) (by omega)).trans eu;have w2:wrap64 (2*y)=2*y:=(wrap_sm _ (by omega) (by omega));have w3:wrap64 (2*y+1)=v:=(wrap_sm _ (by omega) (by omega)).trans ev;have w4:wrap64 (2*dt)=D:=(wrap_sm _ (by omega) (by omega)).trans eD;have w5:wrap64 (e*u)=p1:=(wrap_sm _ (by omega) (by omega)).trans g1;have w6:wrap64 (b*v)=p2:=(wrap_sm _ (by omega) (by omega)).trans g2;have w7:wrap64 (p1 - p2)=q1:=(wrap_sm _ (by omega) (by omega)).trans k1;have w8:wrap64 (den*q1)=p3:=(wrap_sm _ (by omega) (by omega)).trans g3;have w9:wrap64 (b*f)=p4:=(wrap_sm _ (by omega) (by omega)).trans g4;have w10:wrap64 (e*c)=p5:=(wrap_sm _ (by omega) (by omega)).trans g5;have w11:wrap64 (p4 - p5)=p4 - p5:=(wrap_sm _ (by omega) (by omega));have w12:wrap64 (2*(p4 - p5))=2*(p4 - p5):=(wrap_sm _ (by omega) (by omega));have w13:wrap64 (p3+2*(p4 - p5))=X:=(wrap_sm _ (by omega) (by omega)).trans eX;have w14:wrap64 (a*v)=p6:=(wrap_sm _ (by omega) (by omega)).trans g6;have w15:wrap64 (d*u)=p7:=(wrap_sm _ (by omega) (by omega)).trans g7;have w16:wrap64 (p6 - p7)=q2:=(wrap_sm _ (by omega) (by omega)).trans k2;have w17:wrap64 (den*q2)=p8:=(wrap_sm _ (by omega) (by omega)).trans g8;have w18:wrap64 (d*c)=p9:=(wrap_sm _ (by omega) (by omega)).trans g9;have w19:wrap64 (a*f)=p10:=(wrap_sm _ (by omega) (by omega)).trans g10;have w20:wrap64 (p9 - p10)=p9 - p10:=(wrap_sm _ (by omega) (by omega));have w21:wrap64 (2*(p9 - p10))=2*(p9 - p10):=(wrap_sm _ (by omega) (by omega));have w22:wrap64 (p8+2*(p9 - p10))=Y:=(wrap_sm _ (by omega) (by omega)).trans eY;have HFX:=lh (ref_floor X D X0 X1);have HFY:=lh (ref_floor Y D Y0 Y1);have HDT:=lh hdet;clear hdet hdb eu ev eX eY eD k1 k2 g1 p1a p1b g2 p2a p2b g3 p3a p3b g4 p4a p4b g5 p5a p5b g6 p6a p6b g7 p7a p7b g8 p8a p8b g9 p9a p9b g10 p10a p10b a0 a1 b0 b1 d0 d1 e0 e1 n0 n1 c0 c1 f0 f1 u0 u1 v0 v1 q1a q1b q2a q2b X0 X1 Y0 Y1 hx0 hx1 hy0 hy1;obtain⟨W,hW⟩:∃W,W=(w.alloc (.cells #[a,b,c,d,e,f,den] 80)).alloc (.cells #[(0:Int),(0:Int)] 147):=⟨_,rfl⟩;have T0:Turn [] w W:=hW ▸ ((tR w).alloc _).alloc _;have hWs:w.heap.size+2≤W.heap.size:=by rw [hW];simp
 obtain⟨r0,r1,r2,r3,r4,r5,r6⟩:=cs7 (al2 hW).1;obtain⟨z0,z1⟩:=cs2 (al2 hW).2;have zf:∀i,W.frozen? ⟨w.heap.size+1,i,none⟩=false:=fun i=>by rw [hW];simp [go_sem]
 go_enter func131,ntmps131;go_upto_region 1 with (fail)
 rw [←hW];clear hW;go_upto_region 4 with (go_at_call 158;(with_reducible refine (HDT.out _).mono ?_);rintro e1 wx ⟨rfl,ht5⟩)
 rw [w4];obtain⟨hc,hf⟩:=tcell ht5;have t0:=tq hc r0;have t1:=tq hc r1;have t2:=tq hc r2;have t3:=tq hc r3;have t4:=tq hc r4;have t5:=tq hc r5;have t6:=tq hc r6;have zq0:=tq hc z0;have zq1:=tq hc z1;have qf:=fun i=>(hf (w.heap.size+1) i (by omega)).trans (zf i);have T1:=lh (T0.trans ht5);have HS5:=lh (Nat.le_trans hWs ht5.size);clear ht5 hc hf z0 z1 zf T0 hWs w0 w1 w2 w3 w4 r0 r1 r2 r3 r4 r5 r6;refine AnyTill.start (fun w'=>Turn [] wx w') 55 (by kernel_rfl) ?_;have hS:Turn [] wx wx.drew:=(tR wx).drawn 1;have hs5:w.heap.size+2≤wx.heap.size:=by have:=HS5.out;omega
 generalize wx.drew=V at *;obtain⟨hc,hf⟩:=tcell hS;have zq0:=tq hc zq0;have zq1:=tq hc zq1;have qf:=fun i=>(hf (w.heap.size+1) i (by omega)).trans (qf i);clear hc hf;have v5:=(iwr _).trans w5;have v6:=(iwr _).trans w6;have v7:=(iwr _).trans w7;have v8:=(iwr _).trans w8;have v9:=(iwr _).trans w9;have v10:=(iwr _).trans w10;have v11:=(iwr _).trans w11;have v12:=(iwr _).trans w12;have v13:=(iwr _).trans w13;have v14:=(iwr _).trans w14;have v15:=(iwr _).trans w15;have v16:=(iwr _).trans w16;have v17:=(iwr _).trans w17;have v18:=(iwr _).trans w18;have v19:=(iwr _).trans w19;have v20:=(iwr _).trans w20;have v21:=(iwr _).trans w21;have v22:=(iwr _).trans w22;refine tk 0 9 19 (.pointer (some ⟨w,6,none⟩)) hS ?_;try go_frame
 refine tk 1 9 20 den hS ?_ (hy:=fun w' hw=>by have e0:=tc hw t6;go_simp);try go_frame
 refine tk 2 9 21 (.pointer (some ⟨w,4,none⟩)) hS ?_;try go_frame
 refine tk 3 9 22 e hS ?_ (hy:=fun w' hw=>by have e0:=tc hw t4;go_simp);try go_frame
 refine tk 4 9 23 u hS ?_;try go_frame
 refine tk 5 9 24 p1 hS ?_;try go_frame
 refine tk 6 9 25 (.pointer (some ⟨w,1,none⟩)) hS ?_;try go_frame
 refine tk 7 9 26 b hS ?_ (hy:=fun w' hw=>by have e0:=tc hw t1;go_simp);try go_frame
 refine tk 8 9 27 v hS ?_;try go_frame
 refine tk 9 9 28 p2 hS ?_;try go_frame
 refine tk 10 9 29 q1 hS ?_;try go_frame
 refine tk 11 9 30 p3 hS ?_;try go_frame
 refine tk 12 9 31 (.pointer (some ⟨w,1,none⟩)) hS ?_;try go_frame
 refine tk 13 9 32 b hS ?_ (hy:=fun w' hw=>by have e0:=tc hw t1;go_simp);try go_frame
 refine tk 14 9 33 (.pointer (some ⟨w,5,none⟩)) hS ?_;try go_frame
 refine tk 15 9 34 f hS ?_ (hy:=fun w' hw=>by have e0:=tc hw t5;go_simp);try go_frame
 refine tk 16 9 35 p4 hS ?_;try go_frame
 refine tk 17 9 36 (.pointer (some ⟨w,4,none⟩)) hS ?_;try go_frame
 refine tk 18 9 37 e hS ?_ (hy:=fun w' hw=>by have e0:=tc hw t4;go_simp);try go_frame
 refine tk 19 9 38 (.pointer (some ⟨w,2,none⟩)) hS ?_;try go_frame
 refine tk 20 9 39 c hS ?_ (hy:=fun w' hw=>by have e0:=tc hw t2;go_simp);try go_frame
 refine tk 21 9 40 p5 hS ?_;try go_frame
 refine tk 22 9 41 (.int .i64 (p4 - p5)) hS ?_;try go_frame
 refine tk 23 9 42 (.int .i64 (2*(p4 - p5))) hS ?_;try go_frame
 refine tk 24 9 43 X hS ?_;try go_frame
 refine tk 25 9 44 D hS ?_;try go_frame
 refine tk 27 9 46 (.pointer (some ⟨w,6,none⟩)) hS ?_;try go_frame
 refine tk 28 9 47 den hS ?_ (hy:=fun w' hw=>by have e0:=tc hw t6;go_simp);try go_frame
 refine tk 29 9 48 (.pointer (some ⟨w,0,none⟩)) hS ?_;try go_frame
 refine tk 30 9 49 a hS ?_ (hy:=fun w' hw=>by have e0:=tc hw t0;go_simp);try go_frame
 refine tk 31 9 50 v hS ?_;try go_frame
 refine tk 32 9 51 p6 hS ?_;try go_frame
 refine tk 33 9 52 (.pointer (some ⟨w,3,none⟩)) hS ?_;try go_frame
 refine tk 34 9 53 d hS ?_ (hy:=fun w' hw=>by have e0:=tc hw t3;go_simp);try go_frame
 refine tk 35 9 54 u hS ?_;try go_frame
 refine tk 36 9 55 p7 hS ?_;try go_frame
 refine tk 37 9 56 q2 hS ?_;try go_frame
 refine tk 38 9 57 p8 hS ?_;try go_frame
 refine tk 39 9 58 (.pointer (some ⟨w,3,none⟩)) hS ?_;try go_frame
 refine tk 40 9 59 d hS ?_ (hy:=fun w' hw=>by have e0:=tc hw t3;go_simp);try go_frame
 refine tk 41 9 60 (.pointer (some ⟨w,2,none⟩)) hS ?_;try go_frame
 refine tk 42 9 61 c hS ?_ (hy:=fun w' hw=>by have e0:=tc hw t2;go_simp);try go_frame
 refine tk 43 9 62 p9 hS ?_;try go_frame
 refine tk 44 9 63 (.pointer (some ⟨w,0,none⟩)) hS ?_;try go_frame
 refine tk 45 9 64 a hS ?_ (hy:=fun w' hw=>by have e0:=tc hw t0;go_simp);try go_frame
 refine tk 46 9 65 (.pointer (some ⟨w,5,none⟩)) hS ?_;try go_frame
 refine tk 47 9 66 f hS ?_ (hy:=fun w' hw=>by have e0:=tc hw t5;go_simp);try go_frame
 refine tk 48 9 67 p10 hS ?_;try go_frame
 refine tk 49 9 68 (.int .i64 (p9 - p10)) hS ?_;try go_frame
 refine tk 50 9 69 (.int .i64 (2*(p9 - p10))) hS ?_;try go_frame
 refine tk 51 9 70 Y hS ?_;try go_frame
 refine tk 52 9 71 D hS ?_;try go_frame
 refine tk1 26 fun K hK=>?_;go_simp;(with_reducible refine (HFX.out _).mono ?_);rintro e wy ⟨rfl,rfl⟩;refine hK _ _ (fun _=>hS) ?_;clear hK K;try go_frame
 refine tk1 53 fun K hK=>?_;go_simp;(with_reducible refine (HFY.out _).mono ?_);rintro e wy ⟨rfl,rfl⟩;refine hK _ _ (fun _=>hS) ?_;clear hK K;try go_frame
 refine tk 54 9 73 (.agg #[.int .i64 (floorM X D),.int .i64 (floorM Y D)]) hS ?_;try go_frame
 refine tk1 55 fun K hK=>?_;go_simp;refine hK _ _ (fun h=>absurd rfl h) ?_;clear hK K;try go_frame
 refine tkd ?_;have hlt:w.heap.size+2≤V.heap.size:=by have:=hS.size;omega
 go_wp2_with fail
 refine bodyPost_ret (v:=.agg #[.int .i64 (floorM X D),.int .i64 (floorM Y D)]) (by simp [results,results131,go_sem,zq0,zq1]) rfl ?_;exact⟨rfl,((T1.out.trans hS).sc).sc⟩
def one(x y:Int): Rc:=⟨x,y,x+1,y+1⟩
def Af.need(p:Af)(r:Rc): Rc:=
 (((one (p.srcX r.x0 r.y0) (p.srcY r.x0 r.y0)).join (one (p.srcX (r.x1 - 1) r.y0) (p.srcY (r.x1 - 1) r.y0))).join (one (p.srcX r.x0 (r.y1 - 1)) (p.srcY r.x0 (r.y1 - 1)))).join (one (p.srcX (r.x1 - 1) (r.y1 - 1)) (p.srcY (r.x1 - 1) (r.y1 - 1)))
end Go.Proofs.YtbpklgllihhgpaaGreat
