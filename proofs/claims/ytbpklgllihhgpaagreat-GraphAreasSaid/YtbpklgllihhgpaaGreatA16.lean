import Derived.Deep.DeepCutAuto
import Derived.BigRegion
import Derived.Test.YtbpklgllihhgpaaGreatA15
set_option maxRecDepth 100000
set_option maxHeartbeats 16000000
namespace Go.Proofs.YtbpklgllihhgpaaGreat
open Tryz Go.RowKit Go.Den
structure Af where
 a:Int
 b:Int
 c:Int
 d:Int
 e:Int
 f:Int
 den:Int
def Af.v(p:Af): Value:=.agg #[p.a,p.b,p.c,p.d,p.e,p.f,p.den]
def lm(lim n:Int): Bool:=decide (-lim≤n) && decide (n≤lim)
def Af.det(p:Af): Int:=p.a*p.e - p.b*p.d
def Af.small(p:Af): Bool:=lm 4096 p.a && lm 4096 p.b && lm 4096 p.d && lm 4096 p.e && lm 4096 p.den
def Af.shift(p:Af): Bool:=lm 268435456 p.c && lm 268435456 p.f
def Af.ok(p:Af): Bool:=decide (1≤p.den) && p.small && p.shift && (p.det != 0)
theorem yS{lim n:Int}: lm lim n=true↔-lim≤n∧n≤lim:=by simp [lm]
theorem qy{x y M N:Int}(hx0:-M≤x)(hx1:x≤M)(hy0:-N≤y)(hy1:y≤N)(hM:0≤M)(hN:0≤N): -(M*N)≤x*y∧x*y≤M*N:=by
 have h:(x*y).natAbs≤M.natAbs*N.natAbs:=by rw [Int.natAbs_mul];exact Nat.mul_le_mul (by omega) (by omega)
 have e:((M.natAbs*N.natAbs:Nat):Int)=M*N:=by rw [Int.natCast_mul,Int.natAbs_of_nonneg hM,Int.natAbs_of_nonneg hN]
 omega
theorem Jz(lim:Int)(h0:0≤lim)(h1:lim≤1099511627776)(zs:List Int)(hz:zs.length≤100)(g:Nat)(w:World)(hc:∀j,j<zs.length→w.cell? ⟨g,j,none⟩=some (.int .i64 (zs.getD j 0))):
  Calls prog 199 #[lim,.slice (some ⟨g,0,none⟩) zs.length zs.length] w fun e w'=>e=.returned (.bool (zs.all (lm lim)))∧w=w':=by
 have HC:=lh hc;clear hc;generalize hn:zs.length=n at *;have HN:=lh hn;clear hn;go_enter func199,ntmps199;go_wp2_with fail
 go_loop [9] (fun s9=>∃k:Nat,k≤n∧s9=k∧(zs.take k).all (lm lim)=true) (fun s9=>n - (intOf s9).toNat);case atStart=>exact⟨0,by omega,rfl,by simp⟩
 obtain⟨k,hk,rfl,hall⟩:=hrel;have HA:=lh hall;clear hall;by_cases hlt:k<n
 ·have hcell:=HC.o k hlt;have hzk:zs.take (k+1)=zs.take k ++ [zs.getD k 0]:=by have hl:k<zs.length:=(by rw [HN.o];exact hlt);rw [aT hl];simp [List.getD,hl]
  have HZ:=lh hzk;clear hzk;generalize hz:zs.getD k 0=z at *;have HZZ:=lh hz;clear hz;by_cases ha:z < -lim
  ·(go_wp2_with fail);go_ret;refine⟨?_,rfl⟩;have:zs.all (lm lim)=false:=(by rw [List.all_eq_false];exact⟨z,by rw [←HZZ.o];simp [List.getD,show k<zs.length by rw [HN.o];exact hlt],by simp [lm];omega⟩);rw [this];rfl
  by_cases hb:lim<z
  ·(go_wp2_with fail);go_ret;refine⟨?_,rfl⟩;have:zs.all (lm lim)=false:=(by rw [List.all_eq_false];exact⟨z,by rw [←HZZ.o];simp [List.getD,show k<zs.length by rw [HN.o];exact hlt],by simp [lm];omega⟩);rw [this];rfl
  go_wp2_with fail
  go_round;case rel=>exact⟨k+1,by omega,by go_num,by rw [HZ.o,List.all_append,HA.o];simp [lm];omega⟩
  simp [intOf];omega
 obtain rfl:k=n:=by omega
 go_wp2_with fail
 go_ret;have:=HA.o;rw [←HN.o,List.take_length]at this;exact⟨by rw [this];rfl,rfl⟩
theorem Ru(p:Af)(hs:p.small=true)(w:World): Calls prog 177 #[p.v] w fun e w'=>e=.returned p.det∧bH [] w w':=by
 obtain⟨a,b,c,d,e,f,den⟩:=p;simp only [Af.small,az,yS]at hs;obtain⟨⟨⟨⟨⟨a0,a1⟩,b0,b1⟩,d0,d1⟩,e0,e1⟩,_,_⟩:=hs;obtain⟨m0,m1⟩:=qy a0 a1 e0 e1 (by omega) (by omega);obtain⟨n0,n1⟩:=qy b0 b1 d0 d1 (by omega) (by omega);simp only [Int.reduceMul,Int.reduceNeg]at m0 m1 n0 n1;simp only [Af.v,Af.det];go_enter func177,ntmps177;go_wp2_with fail
 go_ret;exact⟨rfl,(bH.refl _ _).alloc _⟩
theorem SL(p:Af)(hs:p.small=true)(w:World): Calls prog 158 #[p.v] w fun e w'=>e=.returned p.det∧bH [] w w':=by
 obtain⟨a,b,c,d,e,f,den⟩:=p;simp only [Af.small,az,yS]at hs;obtain⟨⟨⟨⟨⟨a0,a1⟩,b0,b1⟩,d0,d1⟩,e0,e1⟩,_,_⟩:=hs;obtain⟨m0,m1⟩:=qy a0 a1 e0 e1 (by omega) (by omega);obtain⟨n0,n1⟩:=qy b0 b1 d0 d1 (by omega) (by omega);simp only [Int.reduceMul,Int.reduceNeg]at m0 m1 n0 n1;simp only [Af.v,Af.det];go_enter func158,ntmps158;go_wp2_with fail
 go_ret;exact⟨rfl,(bH.refl _ _).alloc _⟩
theorem lV(n lim:Int)(h0:0≤lim)(h1:lim≤1099511627776)(w:World): Calls prog 157 #[n,lim] w fun e w'=>e=.returned (.bool (lm lim n))∧w=w':=by
 by_cases ha:-lim≤n
 ·by_cases hb:n≤lim
  ·have e:lm lim n=true:=(by simp [lm];omega);rw [e];go_enter func157,ntmps157;(go_wp2_with fail);go_ret;exact⟨rfl,rfl⟩
  have e:lm lim n=false:=by simp [lm];omega
  rw [e];go_enter func157,ntmps157;go_wp2_with fail
  go_ret;exact⟨rfl,rfl⟩
 have e:lm lim n=false:=by simp [lm];omega
 rw [e];go_enter func157,ntmps157;go_wp2_with fail
 go_ret;exact⟨rfl,rfl⟩
theorem qW(lim:Int)(h0:0≤lim)(h1:lim≤1099511627776)(zs:List Int)(hz:zs.length≤100)(n:Nat)(hn:n=zs.length)(u:World)(cs:Array Value)(hcs:cs=⟨zs.map (Value.int .i64)⟩)(g:Nat)(hg:g=u.heap.size):
  Calls prog 199 #[lim,.slice (some ⟨g,0,none⟩) n n] (u.alloc (.cells cs 3)) fun e w'=>e=.returned (.bool (zs.all (lm lim)))∧u.alloc (.cells cs 3)=w':=by
 subst hn hcs hg;refine Jz lim h0 h1 zs hz u.heap.size _ fun j hj=>?_;rw [aA _ _ _ _ 3 (0,0) (heap_alloc_new u _)];simp [List.getD,hj]
def Af.cells(p:Af): Obj:=.cells #[p.a,p.b,p.c,p.d,p.e,p.f,p.den] 80
theorem wX(p:Af)(w:World): Calls prog 175 #[p.v] w fun e w'=>e=.returned (.bool p.ok)∧bH [] w w':=by
 have hw1:=fun u g hg=>qW 4096 (by omega) (by omega) [p.a,p.b,p.d,p.e,p.den] (by simp) 5 rfl u #[p.a,p.b,p.d,p.e,p.den] rfl g hg;have hw2:=fun u g hg=>qW 268435456 (by omega) (by omega) [p.c,p.f] (by simp) 2 rfl u #[p.c,p.f] rfl g hg;have e1:[p.a,p.b,p.d,p.e,p.den].all (lm 4096)=p.small:=by simp [Af.small,Bool.and_assoc]
 have e2:[p.c,p.f].all (lm 268435456)=p.shift:=by simp [Af.shift]
 rw [e1]at hw1;rw [e2]at hw2;clear e1 e2;have hd:=Ru p;unfold Af.ok;obtain⟨a,b,c,d,e,f,den⟩:=p;generalize hsm:(Af.mk a b c d e f den).small=sm at *;generalize hsf:(Af.mk a b c d e f den).shift=sh at *;generalize (Af.mk a b c d e f den).det=dt at *;simp only [Af.v]at *;clear hsm hsf;have H1:=lh hw1;have H2:=lh hw2;clear hw1 hw2;by_cases h1:1≤den
 ·have hv:decide (1≤den)=true:=by simpa using h1
  rw [hv];clear hv;cases sm with
  | false=>
   clear hd;show Calls _ _ _ _ fun e w'=>e=.returned (.bool false)∧_;go_enter func175,ntmps175;go_wp2_with (first
    | (go_at_call 199;(with_reducible refine (H1.o _ _ (by simp)).mono ?_);rintro e w1 ⟨rfl,rfl⟩)
    | (go_at_call 199;(with_reducible refine (H2.o _ _ (by simp)).mono ?_);rintro e w1 ⟨rfl,rfl⟩))
   go_ret;exact⟨rfl,((tR w).alloc _).alloc _⟩
  | true=>
   have hd:=hd rfl;have HD:=lh hd;clear hd;cases sh with
   | false=>
    show Calls _ _ _ _ fun e w'=>e=.returned (.bool false)∧_;go_enter func175,ntmps175;go_wp2_with (first
     | (go_at_call 199;(with_reducible refine (H1.o _ _ (by simp)).mono ?_);rintro e w1 ⟨rfl,rfl⟩)
     | (go_at_call 199;(with_reducible refine (H2.o _ _ (by simp)).mono ?_);rintro e w1 ⟨rfl,rfl⟩)
     | (go_at_call 177;refine (HD.o _).mono ?_;rintro e w1 ⟨rfl,ht⟩))
    go_ret;exact⟨rfl,(((tR w).alloc _).alloc _).alloc _⟩
   | true=>
    by_cases h2:dt=0
    ·have h2b:(dt != 0)=false:=(by simpa using h2);rw [h2b];show Calls _ _ _ _ fun e w'=>e=.returned (.bool false)∧_;go_enter func175,ntmps175;go_wp2_with (first
      | (go_at_call 199;(with_reducible refine (H1.o _ _ (by simp)).mono ?_);rintro e w1 ⟨rfl,rfl⟩)
      | (go_at_call 199;(with_reducible refine (H2.o _ _ (by simp)).mono ?_);rintro e w1 ⟨rfl,rfl⟩)
      | (go_at_call 177;refine (HD.o _).mono ?_;rintro e w1 ⟨rfl,ht⟩))
     go_ret;exact⟨rfl,((((tR w).alloc _).alloc _).alloc _).trans ht⟩
    have h2b:(dt != 0)=true:=(by simpa using h2);rw [h2b];show Calls _ _ _ _ fun e w'=>e=.returned (.bool true)∧_;go_enter func175,ntmps175;go_wp2_with (first
     | (go_at_call 199;(with_reducible refine (H1.o _ _ (by simp)).mono ?_);rintro e w1 ⟨rfl,rfl⟩)
     | (go_at_call 199;(with_reducible refine (H2.o _ _ (by simp)).mono ?_);rintro e w1 ⟨rfl,rfl⟩)
     | (go_at_call 177;refine (HD.o _).mono ?_;rintro e w1 ⟨rfl,ht⟩))
    go_ret;exact⟨rfl,((((tR w).alloc _).alloc _).alloc _).trans ht⟩
 have hv:decide (1≤den)=false:=by simpa using h1
 rw [hv];clear hv hd;show Calls _ _ _ _ fun e w'=>e=.returned (.bool false)∧_;go_enter func175,ntmps175;go_wp2_with (first
  | (go_at_call 199;(with_reducible refine (H1.o _ _ (by simp)).mono ?_);rintro e w1 ⟨rfl,rfl⟩)
  | (go_at_call 199;(with_reducible refine (H2.o _ _ (by simp)).mono ?_);rintro e w1 ⟨rfl,rfl⟩))
 go_ret;exact⟨rfl,(tR w).alloc _⟩
def Af.small4(p:Af): Bool:=lm 4096 p.a && lm 4096 p.b && lm 4096 p.d && lm 4096 p.e
theorem Af.ok_eq(p:Af): p.ok=(decide (1≤p.den) && decide (p.den≤4096) && p.small4 && p.shift && (p.det != 0)):=by
 unfold Af.ok Af.small Af.small4 lm;by_cases h:1≤p.den
 ·have h2:-4096≤p.den:=by omega
  simp [h,h2,Bool.and_assoc,Bool.and_comm,Bool.and_left_comm]
 simp [h]
theorem xA(p:Af)(w:World): Calls prog 107 #[p.v] w fun e w'=>e=.returned (.bool p.ok)∧bH [] w w':=by
 rw [Af.ok_eq];have hdet:=SL p;have hsm:decide (1≤p.den)=true→decide (p.den≤4096)=true→p.small4=true→p.small=true:=by unfold Af.small Af.small4 lm;intro h1 h2 h3;simp at h1 h2 h3 ⊢;omega
 have e4:p.small4=(lm 4096 p.a && lm 4096 p.b && lm 4096 p.d && lm 4096 p.e):=rfl;have e2:p.shift=(lm 268435456 p.c && lm 268435456 p.f):=rfl;have ha:=lV p.a 4096 (by omega) (by omega);have hb:=lV p.b 4096 (by omega) (by omega);have hd:=lV p.d 4096 (by omega) (by omega);have he:=lV p.e 4096 (by omega) (by omega);have hc:=lV p.c 268435456 (by omega) (by omega);have hf:=lV p.f 268435456 (by omega) (by omega);obtain⟨a,b,c,d,e,f,den⟩:=p;simp only [Af.v]at *;generalize (Af.mk a b c d e f den).small4=s4 at *;generalize (Af.mk a b c d e f den).shift=sh at *;generalize (Af.mk a b c d e f den).det=dt at *;generalize (Af.mk a b c d e f den).small=sm at *;generalize lm 4096 a=ba at *;generalize lm 4096 b=bb at *;generalize lm 4096 d=bd at *;generalize lm 4096 e=be at *;generalize lm 268435456 c=bc at *;generalize lm 268435456 f=bf at *;have Ha:=lh ha;have Hb:=lh hb;have Hd:=lh hd;have He:=lh he;have Hc:=lh hc;have Hf:=lh hf;have HSM:=lh hsm;have HDET:=lh hdet;have E4:=lh e4;have E2:=lh e2;clear hsm hdet e4 e2 ha hb hd he hc hf;go_enter func107,ntmps107;go_upto_region 1 with (fail)
 go_cut [3] (fun s3 wx=>s3=.bool s4∧wx=w.alloc (.cells #[a,b,c,d,e,f,den] 80));case first=>
  cases ba with
  | false=>
   go_wp2_with (first
    | (go_at_call 157;(with_reducible refine (Ha.o _).mono ?_);rintro e w1 ⟨rfl,rfl⟩)
    | (go_at_call 157;(with_reducible refine (Hb.o _).mono ?_);rintro e w1 ⟨rfl,rfl⟩)
    | (go_at_call 157;(with_reducible refine (Hd.o _).mono ?_);rintro e w1 ⟨rfl,rfl⟩)
    | (go_at_call 157;(with_reducible refine (He.o _).mono ?_);rintro e w1 ⟨rfl,rfl⟩)
    | (go_at_call 157;(with_reducible refine (Hc.o _).mono ?_);rintro e w1 ⟨rfl,rfl⟩)
    | (go_at_call 157;(with_reducible refine (Hf.o _).mono ?_);rintro e w1 ⟨rfl,rfl⟩))
   go_meet;exact⟨by rw [E4.out];rfl,rfl⟩
  | true=>
   cases bb with
   | false=>
    go_wp2_with (first
     | (go_at_call 157;(with_reducible refine (Ha.o _).mono ?_);rintro e w1 ⟨rfl,rfl⟩)
     | (go_at_call 157;(with_reducible refine (Hb.o _).mono ?_);rintro e w1 ⟨rfl,rfl⟩)
     | (go_at_call 157;(with_reducible refine (Hd.o _).mono ?_);rintro e w1 ⟨rfl,rfl⟩)
     | (go_at_call 157;(with_reducible refine (He.o _).mono ?_);rintro e w1 ⟨rfl,rfl⟩)
     | (go_at_call 157;(with_reducible refine (Hc.o _).mono ?_);rintro e w1 ⟨rfl,rfl⟩)
     | (go_at_call 157;(with_reducible refine (Hf.o _).mono ?_);rintro e w1 ⟨rfl,rfl⟩))
    go_meet;exact⟨by rw [E4.out];rfl,rfl⟩
   | true=>
    cases bd with
    | false=>
     go_wp2_with (first
      | (go_at_call 157;(with_reducible refine (Ha.o _).mono ?_);rintro e w1 ⟨rfl,rfl⟩)
      | (go_at_call 157;(with_reducible refine (Hb.o _).mono ?_);rintro e w1 ⟨rfl,rfl⟩)
      | (go_at_call 157;(with_reducible refine (Hd.o _).mono ?_);rintro e w1 ⟨rfl,rfl⟩)
      | (go_at_call 157;(with_reducible refine (He.o _).mono ?_);rintro e w1 ⟨rfl,rfl⟩)
      | (go_at_call 157;(with_reducible refine (Hc.o _).mono ?_);rintro e w1 ⟨rfl,rfl⟩)
      | (go_at_call 157;(with_reducible refine (Hf.o _).mono ?_);rintro e w1 ⟨rfl,rfl⟩))
     go_meet;exact⟨by rw [E4.out];rfl,rfl⟩
    | true=>
     cases be with
     | false=>
      go_wp2_with (first
       | (go_at_call 157;(with_reducible refine (Ha.o _).mono ?_);rintro e w1 ⟨rfl,rfl⟩)
       | (go_at_call 157;(with_reducible refine (Hb.o _).mono ?_);rintro e w1 ⟨rfl,rfl⟩)
       | (go_at_call 157;(with_reducible refine (Hd.o _).mono ?_);rintro e w1 ⟨rfl,rfl⟩)
       | (go_at_call 157;(with_reducible refine (He.o _).mono ?_);rintro e w1 ⟨rfl,rfl⟩)
       | (go_at_call 157;(with_reducible refine (Hc.o _).mono ?_);rintro e w1 ⟨rfl,rfl⟩)
       | (go_at_call 157;(with_reducible refine (Hf.o _).mono ?_);rintro e w1 ⟨rfl,rfl⟩))
      go_meet;exact⟨by rw [E4.out];rfl,rfl⟩
     | true=>
      go_wp2_with (first
       | (go_at_call 157;(with_reducible refine (Ha.o _).mono ?_);rintro e w1 ⟨rfl,rfl⟩)
       | (go_at_call 157;(with_reducible refine (Hb.o _).mono ?_);rintro e w1 ⟨rfl,rfl⟩)
       | (go_at_call 157;(with_reducible refine (Hd.o _).mono ?_);rintro e w1 ⟨rfl,rfl⟩)
       | (go_at_call 157;(with_reducible refine (He.o _).mono ?_);rintro e w1 ⟨rfl,rfl⟩)
       | (go_at_call 157;(with_reducible refine (Hc.o _).mono ?_);rintro e w1 ⟨rfl,rfl⟩)
       | (go_at_call 157;(with_reducible refine (Hf.o _).mono ?_);rintro e w1 ⟨rfl,rfl⟩))
      go_meet;exact⟨by rw [E4.out];rfl,rfl⟩
 obtain⟨rfl,rfl⟩:=hcut;go_upto_region 2 with (fail)
 go_cut [4] (fun s4' wx=>s4'=.bool sh∧wx=w.alloc (.cells #[a,b,c,d,e,f,den] 80));case first=>
  cases bc with
  | false=>
   go_wp2_with (first
    | (go_at_call 157;(with_reducible refine (Ha.o _).mono ?_);rintro e w1 ⟨rfl,rfl⟩)
    | (go_at_call 157;(with_reducible refine (Hb.o _).mono ?_);rintro e w1 ⟨rfl,rfl⟩)
    | (go_at_call 157;(with_reducible refine (Hd.o _).mono ?_);rintro e w1 ⟨rfl,rfl⟩)
    | (go_at_call 157;(with_reducible refine (He.o _).mono ?_);rintro e w1 ⟨rfl,rfl⟩)
    | (go_at_call 157;(with_reducible refine (Hc.o _).mono ?_);rintro e w1 ⟨rfl,rfl⟩)
    | (go_at_call 157;(with_reducible refine (Hf.o _).mono ?_);rintro e w1 ⟨rfl,rfl⟩))
   go_meet;exact⟨by rw [E2.out];rfl,rfl⟩
  | true=>
   cases bf with
   | false=>
    go_wp2_with (first
     | (go_at_call 157;(with_reducible refine (Ha.o _).mono ?_);rintro e w1 ⟨rfl,rfl⟩)
     | (go_at_call 157;(with_reducible refine (Hb.o _).mono ?_);rintro e w1 ⟨rfl,rfl⟩)
     | (go_at_call 157;(with_reducible refine (Hd.o _).mono ?_);rintro e w1 ⟨rfl,rfl⟩)
     | (go_at_call 157;(with_reducible refine (He.o _).mono ?_);rintro e w1 ⟨rfl,rfl⟩)
     | (go_at_call 157;(with_reducible refine (Hc.o _).mono ?_);rintro e w1 ⟨rfl,rfl⟩)
     | (go_at_call 157;(with_reducible refine (Hf.o _).mono ?_);rintro e w1 ⟨rfl,rfl⟩))
    go_meet;exact⟨by rw [E2.out];rfl,rfl⟩
   | true=>
    go_wp2_with (first
     | (go_at_call 157;(with_reducible refine (Ha.o _).mono ?_);rintro e w1 ⟨rfl,rfl⟩)
     | (go_at_call 157;(with_reducible refine (Hb.o _).mono ?_);rintro e w1 ⟨rfl,rfl⟩)
     | (go_at_call 157;(with_reducible refine (Hd.o _).mono ?_);rintro e w1 ⟨rfl,rfl⟩)
     | (go_at_call 157;(with_reducible refine (He.o _).mono ?_);rintro e w1 ⟨rfl,rfl⟩)
     | (go_at_call 157;(with_reducible refine (Hc.o _).mono ?_);rintro e w1 ⟨rfl,rfl⟩)
     | (go_at_call 157;(with_reducible refine (Hf.o _).mono ?_);rintro e w1 ⟨rfl,rfl⟩))
    go_meet;exact⟨by rw [E2.out];rfl,rfl⟩
 obtain⟨rfl,rfl⟩:=hcut;clear Ha Hb Hd He Hc Hf E4 E2;by_cases h1:1≤den
 ·by_cases h2:den≤4096
  ·cases s4 with
   | false=>
    (go_wp2_with fail);go_ret;exact⟨by first | rfl | (simp_all;done) | (simp;omega),(tR w).alloc _⟩
   | true=>
    cases sh with
    | false=>
     (go_wp2_with fail);go_ret;exact⟨by first | rfl | (simp_all;done) | (simp;omega),(tR w).alloc _⟩
    | true=>
     have hd:=HDET.o (HSM.o (by simpa using h1) (by simpa using h2) rfl);have HDET:=lh hd;clear hd;by_cases h3:dt=0
     ·have h3b:(dt != 0)=false:=(by simpa using h3);go_wp2_with (first
       | (go_at_call 158;refine (HDET.o _).mono ?_;rintro e w1 ⟨rfl,ht⟩))
      go_ret;exact⟨by first | rfl | (simp_all;done) | (simp;omega),((tR w).alloc _).trans ht⟩
     have h3b:(dt != 0)=true:=(by simpa using h3);go_wp2_with (first
      | (go_at_call 158;refine (HDET.o _).mono ?_;rintro e w1 ⟨rfl,ht⟩))
     go_ret;exact⟨by first | rfl | (simp_all;done) | (simp;omega),((tR w).alloc _).trans ht⟩
  go_wp2_with fail
  go_ret;exact⟨by first | rfl | (simp_all;done) | (simp;omega),(tR w).alloc _⟩
 go_wp2_with fail
 go_ret;exact⟨by first | rfl | (simp_all;done) | (simp;omega),(tR w).alloc _⟩
structure Fv where
 kind:Int
 Xf:Int
 kA:Option Addr
 kn:Nat
 kc:Nat
 div:Int
 value:Int
 cA:Option Addr
 cn:Nat
 cc:Nat
def Fv.v(f:Fv): Value:=.agg #[f.kind,f.Xf,.slice f.kA f.kn f.kc,f.div,f.value,.slice f.cA f.cn f.cc]
def Fv.plain(f:Fv)(k v c r:Bool): Bool:=(k || (f.kn == 0) && (f.div == 0)) && (v || (f.value == 0)) && (c || (f.cn == 0)) && (r || (f.Xf == 0))
theorem UU(f:Fv)(w:World): Calls prog 159 #[f.v,.bool true,.bool false,.bool false,.bool true] w fun e w'=>e=.returned (.bool (f.plain true false false true))∧bH [] w w':=by
 obtain⟨kind,Xf,kA,kn,kc,div,value,cA,cn,cc⟩:=f;simp only [Fv.v,Fv.plain];by_cases hvalue:value=0
 ·have hb:(value == 0)=true:=by simpa using hvalue
  rw [hb];clear hb;subst hvalue;by_cases hcn:cn=0
  ·have hb:(cn == 0)=true:=(by simpa using hcn);rw [hb];clear hb;subst hcn;show Calls _ _ _ _ fun e w'=>e=.returned (.bool true)∧_;go_enter func159,ntmps159;(go_wp2_with fail);go_ret;exact⟨rfl,(tR w).alloc _⟩
  have hb:(cn == 0)=false:=by simpa using hcn
  rw [hb];have hc:((cn:Int) == 0)=false:=by simpa using hcn
  clear hb;show Calls _ _ _ _ fun e w'=>e=.returned (.bool false)∧_;go_enter func159,ntmps159;go_wp2_with fail
  go_ret;exact⟨rfl,(tR w).alloc _⟩
 have hb:(value == 0)=false:=by simpa using hvalue
 rw [hb];have hc:=hb;clear hb;show Calls _ _ _ _ fun e w'=>e=.returned (.bool false)∧_;go_enter func159,ntmps159;go_wp2_with fail
 go_ret;exact⟨rfl,(tR w).alloc _⟩
theorem U0(f:Fv)(w:World): Calls prog 159 #[f.v,.bool false,.bool false,.bool false,.bool true] w fun e w'=>e=.returned (.bool (f.plain false false false true))∧bH [] w w':=by
 obtain⟨kind,Xf,kA,kn,kc,div,value,cA,cn,cc⟩:=f;simp only [Fv.v,Fv.plain];by_cases hkn:kn=0
 ·have hb:(kn == 0)=true:=by simpa using hkn
  rw [hb];clear hb;subst hkn;by_cases hdiv:div=0
  ·have hb:(div == 0)=true:=(by simpa using hdiv);rw [hb];clear hb;subst hdiv;by_cases hvalue:value=0
   ·have hb:(value == 0)=true:=(by simpa using hvalue);rw [hb];clear hb;subst hvalue;by_cases hcn:cn=0
    ·have hb:(cn == 0)=true:=(by simpa using hcn);rw [hb];clear hb;subst hcn;show Calls _ _ _ _ fun e w'=>e=.returned (.bool true)∧_;go_enter func159,ntmps159;(go_wp2_with fail);go_ret;exact⟨rfl,(tR w).alloc _⟩
    have hb:(cn == 0)=false:=(by simpa using hcn);rw [hb];have hc:((cn:Int) == 0)=false:=(by simpa using hcn);clear hb;show Calls _ _ _ _ fun e w'=>e=.returned (.bool false)∧_;go_enter func159,ntmps159;(go_wp2_with fail);go_ret;exact⟨rfl,(tR w).alloc _⟩
   have hb:(value == 0)=false:=(by simpa using hvalue);rw [hb];have hc:=hb;clear hb;show Calls _ _ _ _ fun e w'=>e=.returned (.bool false)∧_;go_enter func159,ntmps159;(go_wp2_with fail);go_ret;exact⟨rfl,(tR w).alloc _⟩
  have hb:(div == 0)=false:=by simpa using hdiv
  rw [hb];have hc:=hb;clear hb;show Calls _ _ _ _ fun e w'=>e=.returned (.bool false)∧_;go_enter func159,ntmps159;go_wp2_with fail
  go_ret;exact⟨rfl,(tR w).alloc _⟩
 have hb:(kn == 0)=false:=by simpa using hkn
 rw [hb];have hc:((kn:Int) == 0)=false:=by simpa using hkn
 clear hb;show Calls _ _ _ _ fun e w'=>e=.returned (.bool false)∧_;go_enter func159,ntmps159;go_wp2_with fail
 go_ret;exact⟨rfl,(tR w).alloc _⟩
theorem UO(f:Fv)(w:World): Calls prog 159 #[f.v,.bool false,.bool false,.bool true,.bool false] w fun e w'=>e=.returned (.bool (f.plain false false true false))∧bH [] w w':=by
 obtain⟨kind,Xf,kA,kn,kc,div,value,cA,cn,cc⟩:=f;simp only [Fv.v,Fv.plain];by_cases hkn:kn=0
 ·have hb:(kn == 0)=true:=by simpa using hkn
  rw [hb];clear hb;subst hkn;by_cases hdiv:div=0
  ·have hb:(div == 0)=true:=(by simpa using hdiv);rw [hb];clear hb;subst hdiv;by_cases hvalue:value=0
   ·have hb:(value == 0)=true:=(by simpa using hvalue);rw [hb];clear hb;subst hvalue;by_cases hradius:Xf=0
    ·have hb:(Xf == 0)=true:=(by simpa using hradius);rw [hb];clear hb;subst hradius;show Calls _ _ _ _ fun e w'=>e=.returned (.bool true)∧_;go_enter func159,ntmps159;(go_wp2_with fail);go_ret;exact⟨rfl,(tR w).alloc _⟩
    have hb:(Xf == 0)=false:=(by simpa using hradius);rw [hb];have hc:=hb;clear hb;show Calls _ _ _ _ fun e w'=>e=.returned (.bool false)∧_;go_enter func159,ntmps159;(go_wp2_with fail);go_ret;exact⟨rfl,(tR w).alloc _⟩
   have hb:(value == 0)=false:=(by simpa using hvalue);rw [hb];have hc:=hb;clear hb;show Calls _ _ _ _ fun e w'=>e=.returned (.bool false)∧_;go_enter func159,ntmps159;(go_wp2_with fail);go_ret;exact⟨rfl,(tR w).alloc _⟩
  have hb:(div == 0)=false:=by simpa using hdiv
  rw [hb];have hc:=hb;clear hb;show Calls _ _ _ _ fun e w'=>e=.returned (.bool false)∧_;go_enter func159,ntmps159;go_wp2_with fail
  go_ret;exact⟨rfl,(tR w).alloc _⟩
 have hb:(kn == 0)=false:=by simpa using hkn
 rw [hb];have hc:((kn:Int) == 0)=false:=by simpa using hkn
 clear hb;show Calls _ _ _ _ fun e w'=>e=.returned (.bool false)∧_;go_enter func159,ntmps159;go_wp2_with fail
 go_ret;exact⟨rfl,(tR w).alloc _⟩
theorem Vs(f:Fv)(w:World): Calls prog 159 #[f.v,.bool false,.bool false,.bool false,.bool false] w fun e w'=>e=.returned (.bool (f.plain false false false false))∧bH [] w w':=by
 obtain⟨kind,Xf,kA,kn,kc,div,value,cA,cn,cc⟩:=f;simp only [Fv.v,Fv.plain];by_cases hkn:kn=0
 ·have hb:(kn == 0)=true:=by simpa using hkn
  rw [hb];clear hb;subst hkn;by_cases hdiv:div=0
  ·have hb:(div == 0)=true:=(by simpa using hdiv);rw [hb];clear hb;subst hdiv;by_cases hvalue:value=0
   ·have hb:(value == 0)=true:=(by simpa using hvalue);rw [hb];clear hb;subst hvalue;by_cases hcn:cn=0
    ·have hb:(cn == 0)=true:=(by simpa using hcn);rw [hb];clear hb;subst hcn;by_cases hradius:Xf=0
     ·have hb:(Xf == 0)=true:=(by simpa using hradius);rw [hb];clear hb;subst hradius;show Calls _ _ _ _ fun e w'=>e=.returned (.bool true)∧_;go_enter func159,ntmps159;(go_wp2_with fail);go_ret;exact⟨rfl,(tR w).alloc _⟩
     have hb:(Xf == 0)=false:=(by simpa using hradius);rw [hb];have hc:=hb;clear hb;show Calls _ _ _ _ fun e w'=>e=.returned (.bool false)∧_;go_enter func159,ntmps159;(go_wp2_with fail);go_ret;exact⟨rfl,(tR w).alloc _⟩
    have hb:(cn == 0)=false:=(by simpa using hcn);rw [hb];have hc:((cn:Int) == 0)=false:=(by simpa using hcn);clear hb;show Calls _ _ _ _ fun e w'=>e=.returned (.bool false)∧_;go_enter func159,ntmps159;(go_wp2_with fail);go_ret;exact⟨rfl,(tR w).alloc _⟩
   have hb:(value == 0)=false:=(by simpa using hvalue);rw [hb];have hc:=hb;clear hb;show Calls _ _ _ _ fun e w'=>e=.returned (.bool false)∧_;go_enter func159,ntmps159;(go_wp2_with fail);go_ret;exact⟨rfl,(tR w).alloc _⟩
  have hb:(div == 0)=false:=by simpa using hdiv
  rw [hb];have hc:=hb;clear hb;show Calls _ _ _ _ fun e w'=>e=.returned (.bool false)∧_;go_enter func159,ntmps159;go_wp2_with fail
  go_ret;exact⟨rfl,(tR w).alloc _⟩
 have hb:(kn == 0)=false:=by simpa using hkn
 rw [hb];have hc:((kn:Int) == 0)=false:=by simpa using hkn
 clear hb;show Calls _ _ _ _ fun e w'=>e=.returned (.bool false)∧_;go_enter func159,ntmps159;go_wp2_with fail
 go_ret;exact⟨rfl,(tR w).alloc _⟩
theorem Va(f:Fv)(w:World): Calls prog 159 #[f.v,.bool false,.bool true,.bool false,.bool false] w fun e w'=>e=.returned (.bool (f.plain false true false false))∧bH [] w w':=by
 obtain⟨kind,Xf,kA,kn,kc,div,value,cA,cn,cc⟩:=f;simp only [Fv.v,Fv.plain];by_cases hkn:kn=0
 ·have hb:(kn == 0)=true:=by simpa using hkn
  rw [hb];clear hb;subst hkn;by_cases hdiv:div=0
  ·have hb:(div == 0)=true:=(by simpa using hdiv);rw [hb];clear hb;subst hdiv;by_cases hcn:cn=0
   ·have hb:(cn == 0)=true:=(by simpa using hcn);rw [hb];clear hb;subst hcn;by_cases hradius:Xf=0
    ·have hb:(Xf == 0)=true:=(by simpa using hradius);rw [hb];clear hb;subst hradius;show Calls _ _ _ _ fun e w'=>e=.returned (.bool true)∧_;go_enter func159,ntmps159;(go_wp2_with fail);go_ret;exact⟨rfl,(tR w).alloc _⟩
    have hb:(Xf == 0)=false:=(by simpa using hradius);rw [hb];have hc:=hb;clear hb;show Calls _ _ _ _ fun e w'=>e=.returned (.bool false)∧_;go_enter func159,ntmps159;(go_wp2_with fail);go_ret;exact⟨rfl,(tR w).alloc _⟩
   have hb:(cn == 0)=false:=(by simpa using hcn);rw [hb];have hc:((cn:Int) == 0)=false:=(by simpa using hcn);clear hb;show Calls _ _ _ _ fun e w'=>e=.returned (.bool false)∧_;go_enter func159,ntmps159;(go_wp2_with fail);go_ret;exact⟨rfl,(tR w).alloc _⟩
  have hb:(div == 0)=false:=by simpa using hdiv
  rw [hb];have hc:=hb;clear hb;show Calls _ _ _ _ fun e w'=>e=.returned (.bool false)∧_;go_enter func159,ntmps159;go_wp2_with fail
  go_ret;exact⟨rfl,(tR w).alloc _⟩
 have hb:(kn == 0)=false:=by simpa using hkn
 rw [hb];have hc:((kn:Int) == 0)=false:=by simpa using hkn
 clear hb;show Calls _ _ _ _ fun e w'=>e=.returned (.bool false)∧_;go_enter func159,ntmps159;go_wp2_with fail
 go_ret;exact⟨rfl,(tR w).alloc _⟩
theorem VB(f:Fv)(w:World): Calls prog 159 #[f.v,.bool false,.bool true,.bool false,.bool true] w fun e w'=>e=.returned (.bool (f.plain false true false true))∧bH [] w w':=by
 obtain⟨kind,Xf,kA,kn,kc,div,value,cA,cn,cc⟩:=f;simp only [Fv.v,Fv.plain];by_cases hkn:kn=0
 ·have hb:(kn == 0)=true:=by simpa using hkn
  rw [hb];clear hb;subst hkn;by_cases hdiv:div=0
  ·have hb:(div == 0)=true:=(by simpa using hdiv);rw [hb];clear hb;subst hdiv;by_cases hcn:cn=0
   ·have hb:(cn == 0)=true:=(by simpa using hcn);rw [hb];clear hb;subst hcn;show Calls _ _ _ _ fun e w'=>e=.returned (.bool true)∧_;go_enter func159,ntmps159;(go_wp2_with fail);go_ret;exact⟨rfl,(tR w).alloc _⟩
   have hb:(cn == 0)=false:=(by simpa using hcn);rw [hb];have hc:((cn:Int) == 0)=false:=(by simpa using hcn);clear hb;show Calls _ _ _ _ fun e w'=>e=.returned (.bool false)∧_;go_enter func159,ntmps159;(go_wp2_with fail);go_ret;exact⟨rfl,(tR w).alloc _⟩
  have hb:(div == 0)=false:=by simpa using hdiv
  rw [hb];have hc:=hb;clear hb;show Calls _ _ _ _ fun e w'=>e=.returned (.bool false)∧_;go_enter func159,ntmps159;go_wp2_with fail
  go_ret;exact⟨rfl,(tR w).alloc _⟩
 have hb:(kn == 0)=false:=by simpa using hkn
 rw [hb];have hc:((kn:Int) == 0)=false:=by simpa using hkn
 clear hb;show Calls _ _ _ _ fun e w'=>e=.returned (.bool false)∧_;go_enter func159,ntmps159;go_wp2_with fail
 go_ret;exact⟨rfl,(tR w).alloc _⟩
def mY(c:List Int)(i:Nat): Bool:=decide (0≤c.getD i 0) && decide (c.getD i 0≤65535) && (i == 0 || decide (c.getD (i - 1) 0≤c.getD i 0))
def jh(c:List Int): Bool:=decide (2≤c.length) && decide (c.length≤257) && (List.range c.length).all (mY c)
def dn(w:World)(A:Option Addr)(n:Nat)(c:List Int): Prop:=n=c.length∧∀j,j<n→∃g o,A=some ⟨g,o,none⟩∧w.cell? ⟨g,o+j,none⟩=some (.int .i64 (c.getD j 0))
theorem AP(n:Int)(w:World): Calls prog 191 #[n] w fun e w'=>e=.returned (.bool (decide (2≤n) && decide (n≤257)))∧w=w':=by
 by_cases h1:2≤n
 ·by_cases h2:n≤257
  ·go_enter func191,ntmps191;(go_wp2_with fail);go_ret;exact⟨by simp [h1,h2],rfl⟩
  go_enter func191,ntmps191;go_wp2_with fail
  go_ret;exact⟨by simp;omega,rfl⟩
 go_enter func191,ntmps191;go_wp2_with fail
 go_ret;exact⟨by simp;omega,rfl⟩
theorem Aw{c:List Int}{k:Nat}(hk:k<c.length)(h:mY c k=false): jh c=false:=by unfold jh;have:(List.range c.length).all (mY c)=false:=List.all_eq_false.2 ⟨k,aX.2 hk,by simp [h]⟩;rw [this,Bool.and_false]
theorem MO{c:List Int}(h1:2≤c.length)(h2:c.length≤257)(h:∀k,k<c.length→mY c k=true): jh c=true:=by unfold jh;rw [aZ.2 fun k hk=>h k (aX.1 hk)];simp [h1,h2]
theorem tZ(c:List Int)(A:Option Addr)(n cap:Nat)(w:World)(hc:dn w A n c):
  Calls prog 156 #[.slice A n cap] w fun e w'=>e=.returned (.bool (jh c))∧bH [] w w':=by
 obtain⟨hn,hA⟩:=hc;by_cases hp:2≤n∧n≤257
 ·obtain⟨p1,p2⟩:=hp;obtain⟨g,o,rfl,_⟩:=hA 0 (by omega);have hA':∀j,j<n→w.cell? ⟨g,o+j,none⟩=some (.int .i64 (c.getD j 0)):=by intro j hj;obtain⟨g',o',e,h⟩:=hA j hj;injection e with e;injection e with e1 e2 e3;rw [e1,e2];exact h
  have HA:=lh hA';have HN:=lh hn;have hpt:(decide ((2:Int)≤n) && decide ((n:Int)≤257))=true:=by simp;omega
  have hpo:=AP n;rw [hpt]at hpo;have HP:=lh hpo;clear hA hA' hn hpt hpo;go_enter func156,ntmps156;go_wp2_with (go_at_call 191;refine (HP.o _).mono ?_;rintro e w1 ⟨rfl,rfl⟩)
  go_loopw [4] (fun s4 wr=>∃k:Nat,k≤n∧s4=k∧(∃q,wr=w.drewN q)∧∀i,i<k→mY c i=true) (fun s4 _=>n - (intOf s4).toNat);case atStart=>exact⟨0,by omega,rfl,⟨0,rfl⟩,fun i hi=>absurd hi (aU i)⟩
  obtain⟨k,hk,rfl,⟨q,rfl⟩,hall⟩:=hrel;have HALL:=lh hall;clear hall;have T:=(tR w).drawn q;by_cases hlt:k<n
  ·have hck:=HA.o k hlt;have hkl:k<c.length:=(by have:=HN.o;omega);have HKL:=lh hkl;have hcur:mY c k=(decide (0≤c.getD k 0) && decide (c.getD k 0≤65535) && (k == 0 || decide (c.getD (k - 1) 0≤c.getD k 0))):=rfl;have b0:(0:Int)≤(k:Int):=(by omega);have b1:(k:Int)<(n:Int):=(by omega);have HC:=lh hcur;clear hkl hcur;generalize hz:c.getD k 0=z at *;clear hz;by_cases hz0:z<0
   ·have hd:decide (z<0)=true:=(by simpa using hz0);(go_wp2_with fail);go_quiet (fail)
    (go_wp2_with fail);go_ret;exact⟨by rw [Aw HKL.o (by rw [HC.o];simp;omega)];rfl,(T.drawn _)⟩
   by_cases hz1:65535<z
   ·have hd:decide (z<0)=false:=(by simpa using hz0);have hd1:decide (65535<z)=true:=(by simpa using hz1);(go_wp2_with fail);go_quiet (fail)
    (go_wp2_with fail);go_ret;exact⟨by rw [Aw HKL.o (by rw [HC.o];simp;omega)];rfl,(T.drawn _)⟩
   have hd:decide (z<0)=false:=(by simpa using hz0);have hd1:decide (65535<z)=false:=(by simpa using hz1);cases k with
   | zero=>
    have hck0:w.cell? ⟨g,o,none⟩=some (.int .i64 z):=hck;(go_wp2_with fail);go_quiet (fail)
    (go_wp2_with fail);go_roundw;case rel=>exact⟨1,by omega,by go_num,⟨_,rfl⟩,fun i hi=>by
     obtain rfl:i=0:=(by omega);rw [HC.o];simp;omega⟩
    simp [intOf];omega
   | succ m=>
    have hcm:=HA.o m (by omega);have hd2:decide ((0:Int)<((m:Int)+1))=true:=aC (by omega);have e1:m+1 - 1=m:=(by omega);have HE:=lh e1;clear e1;have HC':Hid (mY c (m+1)=(decide (0≤z) && decide (z≤65535) && (m+1 == 0 || decide (c.getD m 0≤z)))):=HC;clear HC;generalize hy:c.getD m 0=y at *;clear hy;by_cases hzy:z<y
    ·have hd3:decide (z<y)=true:=(by simpa using hzy);(go_wp2_with fail);go_quiet (fail)
     (go_wp2_with fail);go_ret;exact⟨by rw [Aw HKL.o (by rw [HC'.out];simp;omega)];rfl,(T.drawn _)⟩
    have hd3:decide (z<y)=false:=(by simpa using hzy);(go_wp2_with fail);go_quiet (fail)
    (go_wp2_with fail);go_roundw;case rel=>exact⟨m+1+1,by omega,by go_num,⟨_,rfl⟩,fun i hi=>by
     by_cases hi':i<m+1
     ·exact HALL.o i hi'
     obtain rfl:i=m+1:=(by omega);rw [HC'.out];simp;omega⟩
    simp [intOf];omega
  obtain rfl:k=n:=by omega
  go_wp2_with fail
  go_ret;exact⟨by rw [MO (by rw [←HN.o];exact p1) (by rw [←HN.o];exact p2) (fun i hi=>HALL.o i (by rw [HN.o];exact hi))];rfl,T⟩
 have hpt:(decide ((2:Int)≤n) && decide ((n:Int)≤257))=false:=by rw [Bool.eq_false_iff];simp;omega
 have hpo:=AP n;rw [hpt]at hpo;have HP:=lh hpo;have hcv:jh c=false:=by
  unfold jh;rw [←hn];have:(decide (2≤n) && decide (n≤257))=false:=by rw [Bool.eq_false_iff];simp;omega
  rw [this,Bool.false_and]
 rw [hcv];clear hcv hpt hpo hA hn hp;go_enter func156,ntmps156;go_wp2_with (go_at_call 191;refine (HP.o _).mono ?_;rintro e w1 ⟨rfl,rfl⟩)
 go_ret;exact⟨rfl,bH.refl _ _⟩
theorem dn.turn{w w':World}{A:Option Addr}{n:Nat}{c:List Int}(h:dn w A n c)(t:bH [] w w'): dn w' A n c:=by refine⟨h.1,fun j hj=>?_⟩;obtain⟨g,o,e,hc⟩:=h.2 j hj;refine⟨g,o,e,?_⟩;have hb:g<w.heap.size:=ai hc;rw [(bY t).1 g _ hb];exact hc
def Fv.win(f:Fv): Bool:=decide (0≤f.Xf) && decide (f.Xf≤3)
theorem Tm(f:Fv)(hk:f.kind=2∨f.kind=3∨f.kind=4)(w:World): Calls prog 108 #[f.v] w fun e w'=>e=.returned (.bool (f.win && f.plain false false false true))∧bH [] w w':=by
 have hp:=U0 f;have hw:f.win=(decide (0≤f.Xf) && decide (f.Xf≤3)):=rfl;obtain⟨kind,Xf,kA,kn,kc,div,value,cA,cn,cc⟩:=f;simp only [Fv.v]at *;generalize (Fv.mk kind Xf kA kn kc div value cA cn cc).win=rB at *;generalize (Fv.mk kind Xf kA kn kc div value cA cn cc).plain false false false true=pB at *;have HP:=lh hp;clear hp;have HW:=lh hw;clear hw;go_enter func108,ntmps108;go_upto_region 1 with (fail)
 go_cut [3] (fun s3 wx=>s3=.bool rB∧wx=w.alloc (.cells #[kind,Xf,.slice kA kn kc,div,value,.slice cA cn cc] 83));case first=>
  by_cases h0:0≤Xf
  ·by_cases h1:Xf≤3
   ·(go_wp2_with fail);go_meet;exact⟨by rw [HW.o];simp [h0,h1],rfl⟩
   (go_wp2_with fail);go_meet;exact⟨by rw [HW.o];simp;omega,rfl⟩
  go_wp2_with fail
  go_meet;exact⟨by rw [HW.o];simp;omega,rfl⟩
 obtain⟨rfl,rfl⟩:=hcut;cases rB with
 | false=>
  rcases hk with rfl | rfl | rfl;all_goals
   (go_wp2_with fail);go_ret;exact⟨by first | rfl | (simp;done) | (simp_all;done),(tR w).alloc _⟩
 | true=>
  rcases hk with rfl | rfl | rfl;all_goals
   go_wp2_with (first
    | (go_at_call 159;refine (HP.o _).mono ?_;rintro e w1 ⟨rfl,ht⟩)
    | fail)
   go_ret;exact⟨by first | rfl | (simp;done) | (simp_all;done),((tR w).alloc _).trans ht⟩
theorem QG(f:Fv)(hk:f.kind=5)(c:List Int)(w:World)(hi:dn w f.cA f.cn c): Calls prog 108 #[f.v] w fun e w'=>e=.returned (.bool (jh c && f.plain false false true false))∧bH [] w w':=by
 have hp:=UO f;have hcv:=fun w h=>tZ c f.cA f.cn f.cc w h;have hw:f.win=(decide (0≤f.Xf) && decide (f.Xf≤3)):=rfl;obtain⟨kind,Xf,kA,kn,kc,div,value,cA,cn,cc⟩:=f;simp only [Fv.v]at *;generalize (Fv.mk kind Xf kA kn kc div value cA cn cc).win=rB at *;generalize (Fv.mk kind Xf kA kn kc div value cA cn cc).plain false false true false=pB at *;have HP:=lh hp;clear hp;generalize jh c=cB at *;have HC:=lh hcv;have HI:=lh hi;clear hcv hi;have HW:=lh hw;clear hw;subst hk;go_enter func108,ntmps108;go_upto_region 1 with (fail)
 go_cut [3] (fun s3 wx=>s3=.bool rB∧wx=w.alloc (.cells #[(5:Int),Xf,.slice kA kn kc,div,value,.slice cA cn cc] 83));case first=>
  by_cases h0:0≤Xf
  ·by_cases h1:Xf≤3
   ·(go_wp2_with fail);go_meet;exact⟨by rw [HW.o];simp [h0,h1],rfl⟩
   (go_wp2_with fail);go_meet;exact⟨by rw [HW.o];simp;omega,rfl⟩
  go_wp2_with fail
  go_meet;exact⟨by rw [HW.o];simp;omega,rfl⟩
 obtain⟨rfl,rfl⟩:=hcut;cases cB with
 | false=>
  go_wp2_with (first
   | (go_at_call 156;refine (HC.o _ (by first | exact HI.o.turn ((tR w).alloc _))).mono ?_;rintro e w2 ⟨rfl,ht2⟩;obtain⟨hc,hf⟩:=bY ht2)
   | fail)
  go_ret;exact⟨by first | rfl | (simp;done) | (simp_all;done),((tR w).alloc _).trans ht2⟩
 | true=>
  go_wp2_with (first
   | (go_at_call 159;refine (HP.o _).mono ?_;rintro e w1 ⟨rfl,ht⟩)
   | (go_at_call 156;refine (HC.o _ (by first | exact HI.o.turn ((tR w).alloc _))).mono ?_;rintro e w2 ⟨rfl,ht2⟩;obtain⟨hc,hf⟩:=bY ht2)
   | fail)
  go_ret;exact⟨by first | rfl | (simp;done) | (simp_all;done),(((tR w).alloc _).trans ht2).trans ht⟩
theorem RV(f:Fv)(hk:f.kind=6)(w:World): Calls prog 108 #[f.v] w fun e w'=>e=.returned (.bool (f.plain false false false false))∧bH [] w w':=by
 have hp:=Vs f;have hw:f.win=(decide (0≤f.Xf) && decide (f.Xf≤3)):=rfl;obtain⟨kind,Xf,kA,kn,kc,div,value,cA,cn,cc⟩:=f;simp only [Fv.v]at *;generalize (Fv.mk kind Xf kA kn kc div value cA cn cc).win=rB at *;generalize (Fv.mk kind Xf kA kn kc div value cA cn cc).plain false false false false=pB at *;have HP:=lh hp;clear hp;have HW:=lh hw;clear hw;subst hk;go_enter func108,ntmps108;go_upto_region 1 with (fail)
 go_cut [3] (fun s3 wx=>s3=.bool rB∧wx=w.alloc (.cells #[(6:Int),Xf,.slice kA kn kc,div,value,.slice cA cn cc] 83));case first=>
  by_cases h0:0≤Xf
  ·by_cases h1:Xf≤3
   ·(go_wp2_with fail);go_meet;exact⟨by rw [HW.o];simp [h0,h1],rfl⟩
   (go_wp2_with fail);go_meet;exact⟨by rw [HW.o];simp;omega,rfl⟩
  go_wp2_with fail
  go_meet;exact⟨by rw [HW.o];simp;omega,rfl⟩
 obtain⟨rfl,rfl⟩:=hcut;go_wp2_with (first
  | (go_at_call 159;refine (HP.o _).mono ?_;rintro e w1 ⟨rfl,ht⟩)
  | fail)
 go_ret;exact⟨by first | rfl | (simp;done) | (simp_all;done),((tR w).alloc _).trans ht⟩
theorem Ud(f:Fv)(hk:f.kind=7)(w:World): Calls prog 108 #[f.v] w fun e w'=>e=.returned (.bool (decide (0≤f.value) && decide (f.value≤256) && f.plain false true false false))∧bH [] w w':=by
 have hp:=Va f;have hw:f.win=(decide (0≤f.Xf) && decide (f.Xf≤3)):=rfl;obtain⟨kind,Xf,kA,kn,kc,div,value,cA,cn,cc⟩:=f;simp only [Fv.v]at *;generalize (Fv.mk kind Xf kA kn kc div value cA cn cc).win=rB at *;generalize (Fv.mk kind Xf kA kn kc div value cA cn cc).plain false true false false=pB at *;have HP:=lh hp;clear hp;have HW:=lh hw;clear hw;subst hk;go_enter func108,ntmps108;go_upto_region 1 with (fail)
 go_cut [3] (fun s3 wx=>s3=.bool rB∧wx=w.alloc (.cells #[(7:Int),Xf,.slice kA kn kc,div,value,.slice cA cn cc] 83));case first=>
  by_cases h0:0≤Xf
  ·by_cases h1:Xf≤3
   ·(go_wp2_with fail);go_meet;exact⟨by rw [HW.o];simp [h0,h1],rfl⟩
   (go_wp2_with fail);go_meet;exact⟨by rw [HW.o];simp;omega,rfl⟩
  go_wp2_with fail
  go_meet;exact⟨by rw [HW.o];simp;omega,rfl⟩
 obtain⟨rfl,rfl⟩:=hcut;by_cases v0:0≤value
 ·have d0:decide (0≤value)=true:=aC v0;by_cases v1:value≤256
  ·have d1:decide (value≤256)=true:=aC v1;go_wp2_with (first
    | (go_at_call 159;refine (HP.o _).mono ?_;rintro e w1 ⟨rfl,ht⟩)
    | fail)
   go_ret;exact⟨by first | rfl | (simp;done) | (simp_all;done),((tR w).alloc _).trans ht⟩
  have d1:decide (value≤256)=false:=ak v1;go_wp2_with fail
  go_ret;exact⟨by first | rfl | (simp;done) | (simp_all;done),(tR w).alloc _⟩
 have d0:decide (0≤value)=false:=ak v0;go_wp2_with fail
 go_ret;exact⟨by first | rfl | (simp;done) | (simp_all;done),(tR w).alloc _⟩
theorem RH(f:Fv)(hk:f.kind=8)(w:World): Calls prog 108 #[f.v] w fun e w'=>e=.returned (.bool (decide (-3≤f.Xf) && decide (f.Xf≤3) && decide (-3≤f.value) && decide (f.value≤3) && f.plain false true false true))∧bH [] w w':=by
 have hp:=VB f;have hw:f.win=(decide (0≤f.Xf) && decide (f.Xf≤3)):=rfl;obtain⟨kind,Xf,kA,kn,kc,div,value,cA,cn,cc⟩:=f;simp only [Fv.v]at *;generalize (Fv.mk kind Xf kA kn kc div value cA cn cc).win=rB at *;generalize (Fv.mk kind Xf kA kn kc div value cA cn cc).plain false true false true=pB at *;have HP:=lh hp;clear hp;have HW:=lh hw;clear hw;subst hk;go_enter func108,ntmps108;go_upto_region 1 with (fail)
 go_cut [3] (fun s3 wx=>s3=.bool rB∧wx=w.alloc (.cells #[(8:Int),Xf,.slice kA kn kc,div,value,.slice cA cn cc] 83));case first=>
  by_cases h0:0≤Xf
  ·by_cases h1:Xf≤3
   ·(go_wp2_with fail);go_meet;exact⟨by rw [HW.o];simp [h0,h1],rfl⟩
   (go_wp2_with fail);go_meet;exact⟨by rw [HW.o];simp;omega,rfl⟩
  go_wp2_with fail
  go_meet;exact⟨by rw [HW.o];simp;omega,rfl⟩
 obtain⟨rfl,rfl⟩:=hcut;by_cases q4:-3≤Xf
 ·have dq4:decide (-3≤Xf)=true:=aC q4;by_cases q3:Xf≤3
  ·have dq3:decide (Xf≤3)=true:=aC q3;by_cases q2:-3≤value
   ·have dq2:decide (-3≤value)=true:=aC q2;by_cases q1:value≤3
    ·have dq1:decide (value≤3)=true:=aC q1;go_wp2_with (first
      | (go_at_call 159;refine (HP.o _).mono ?_;rintro e w1 ⟨rfl,ht⟩)
      | fail)
     go_ret;exact⟨by first | rfl | (simp;done) | (simp_all;done),((tR w).alloc _).trans ht⟩
    have dq1:decide (value≤3)=false:=ak q1;(go_wp2_with fail);go_ret;exact⟨by first | rfl | (simp;done) | (simp_all;done),(tR w).alloc _⟩
   have dq2:decide (-3≤value)=false:=ak q2;(go_wp2_with fail);go_ret;exact⟨by first | rfl | (simp;done) | (simp_all;done),(tR w).alloc _⟩
  have dq3:decide (Xf≤3)=false:=ak q3;go_wp2_with fail
  go_ret;exact⟨by first | rfl | (simp;done) | (simp_all;done),(tR w).alloc _⟩
 have dq4:decide (-3≤Xf)=false:=ak q4;go_wp2_with fail
 go_ret;exact⟨by first | rfl | (simp;done) | (simp_all;done),(tR w).alloc _⟩
theorem PP(f:Fv)(hk:f.kind<1∨8<f.kind)(w:World): Calls prog 108 #[f.v] w fun e w'=>e=.returned (.bool (false))∧bH [] w w':=by
 have hw:f.win=(decide (0≤f.Xf) && decide (f.Xf≤3)):=rfl;obtain⟨kind,Xf,kA,kn,kc,div,value,cA,cn,cc⟩:=f;simp only [Fv.v]at *;generalize (Fv.mk kind Xf kA kn kc div value cA cn cc).win=rB at *;have HW:=lh hw;clear hw;go_enter func108,ntmps108;go_upto_region 1 with (fail)
 go_cut [3] (fun s3 wx=>s3=.bool rB∧wx=w.alloc (.cells #[kind,Xf,.slice kA kn kc,div,value,.slice cA cn cc] 83));case first=>
  by_cases h0:0≤Xf
  ·by_cases h1:Xf≤3
   ·(go_wp2_with fail);go_meet;exact⟨by rw [HW.o];simp [h0,h1],rfl⟩
   (go_wp2_with fail);go_meet;exact⟨by rw [HW.o];simp;omega,rfl⟩
  go_wp2_with fail
  go_meet;exact⟨by rw [HW.o];simp;omega,rfl⟩
 obtain⟨rfl,rfl⟩:=hcut;rcases hk with hk | hk;all_goals
  go_wp2_with fail
  go_ret;exact⟨by first | rfl | (simp;done) | (simp_all;done),(tR w).alloc _⟩
def Af.srcX(p:Af)(x y:Int): Int:=iq (p.den*(p.e*(2*x+1) - p.b*(2*y+1))+2*(p.b*p.f - p.e*p.c)) (2*p.det)
def Af.srcY(p:Af)(x y:Int): Int:=iq (p.den*(p.a*(2*y+1) - p.d*(2*x+1))+2*(p.d*p.c - p.a*p.f)) (2*p.det)
theorem Af.bds(p:Af)(h:p.ok=true): (((-4096≤p.a∧p.a≤4096)∧-4096≤p.b∧p.b≤4096)∧(-4096≤p.d∧p.d≤4096)∧-4096≤p.e∧p.e≤4096)∧(1≤p.den∧p.den≤4096)∧(-268435456≤p.c∧p.c≤268435456)∧-268435456≤p.f∧p.f≤268435456:=by simp only [Af.ok,Af.small,Af.shift,az,yS,decide_eq_true_eq]at h;omega
theorem dN(z:Int)(h0:-4611686018427387904≤z)(h1:z≤4611686018427387904): wrap64 z=z:=by unfold wrap64;omega
theorem mM(z:Int): IntKind.i64.wrap z=wrap64 z:=by unfold wrap64;simp [IntKind.wrap,IntKind.bits,IntKind.signed];omega
def one(x y:Int): Rc:=⟨x,y,x+1,y+1⟩
def Af.need(p:Af)(r:Rc): Rc:=
 (((one (p.srcX r.x0 r.y0) (p.srcY r.x0 r.y0)).join (one (p.srcX (r.x1 - 1) r.y0) (p.srcY (r.x1 - 1) r.y0))).join (one (p.srcX r.x0 (r.y1 - 1)) (p.srcY r.x0 (r.y1 - 1)))).join (one (p.srcX (r.x1 - 1) (r.y1 - 1)) (p.srcY (r.x1 - 1) (r.y1 - 1)))
end Go.Proofs.YtbpklgllihhgpaaGreat
