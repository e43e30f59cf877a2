import Derived.BigRegion
import Derived.Test.YtbpklgllihhgpaaGreatR15
set_option maxRecDepth 100000
set_option maxHeartbeats 16000000
namespace Go.Proofs.YtbpklgllihhgpaaGreat
open Tryz Go.RowKit Go.Den
def sideM(r:Int): Int:=(2*r+1)*(2*r+1)
def Fv.headB(f:Fv): Bool:=f.win && ((f.kn:Int) == sideM f.radius) && decide (1≤f.div) && decide (f.div≤1048576)
def fltB(f:Fv)(ks cs:List Int): Bool:=
 if f.kind=1 then f.headB && ks.all (inB 4096) && f.plain true false false true
 else if f.kind=2∨f.kind=3∨f.kind=4 then f.win && f.plain false false false true
 else if f.kind=5 then curveB cs && f.plain false false true false
 else if f.kind=6 then f.plain false false false false
 else if f.kind=7 then decide (0≤f.value) && decide (f.value≤256) && f.plain false true false false
 else if f.kind=8 then decide (-3≤f.radius) && decide (f.radius≤3) && decide (-3≤f.value) && decide (f.value≤3) && f.plain false true false true
 else false
theorem flt_conv(f:Fv)(hk:f.kind=1)(ks:List Int)(w:World)(hi:IntsAt w f.kA f.kn ks): Calls prog 108 #[f.v] w fun e w'=>e=.returned (.bool (f.headB && ks.all (inB 4096) && f.plain true false false true))∧Turn [] w w':=by
 have hp:=plain0 f;have hw:f.win=(decide (0≤f.radius) && decide (f.radius≤3)):=rfl;have hh:f.headB=(f.win && ((f.kn:Int) == sideM f.radius) && decide (1≤f.div) && decide (f.div≤1048576)):=rfl;obtain⟨kind,radius,kA,kn,kc,div,value,cA,cn,cc⟩:=f;simp only [Fv.v]at *;subst hk;have hwin:(Fv.mk 1 radius kA kn kc div value cA cn cc).win=true→0≤radius∧radius≤3:=by intro h;rw [hw]at h;simpa using h
 generalize (Fv.mk 1 radius kA kn kc div value cA cn cc).win=rB at *;generalize (Fv.mk 1 radius kA kn kc div value cA cn cc).headB=hB at *;generalize (Fv.mk 1 radius kA kn kc div value cA cn cc).plain true false false true=pB at *;have hkn:hB=true→1≤kn∧kn≤49:=by
  intro h;rw [hh]at h;simp only [Bool.and_eq_true,beq_iff_eq]at h;obtain⟨⟨⟨h1,h2⟩,_⟩,_⟩:=h;obtain⟨r0,r1⟩:=hwin h1;have h3:radius=0∨radius=1∨radius=2∨radius=3:=by omega
  rcases h3 with rfl | rfl | rfl | rfl <;> simp only [sideM,Int.reduceMul,Int.reduceAdd]at h2 <;> omega
 have HKN:=lh hkn;have HP:=lh hp;have HW:=lh hw;have HH:=lh hh;have HWIN:=lh hwin;have HI:=lh hi;clear hp hw hh hwin hi hkn;go_enter func108,ntmps108;go_upto_region 1 with (fail)
 go_cut [3] (fun s3 wx=>s3=.bool rB∧wx=w.alloc (.cells #[(1:Int),radius,.slice kA kn kc,div,value,.slice cA cn cc] 83));case first=>
  by_cases h0:0≤radius
  ·by_cases h1:radius≤3
   ·(go_wp2_with fail);go_meet;exact⟨by rw [HW.out];simp [h0,h1],rfl⟩
   (go_wp2_with fail);go_meet;exact⟨by rw [HW.out];simp;omega,rfl⟩
  go_wp2_with fail
  go_meet;exact⟨by rw [HW.out];simp;omega,rfl⟩
 obtain⟨rfl,rfl⟩:=hcut;go_upto_region 4 with (fail)
 go_cut [43] (fun s43 wx=>s43=.bool (!hB)∧wx=(w.alloc (.cells #[(1:Int),radius,.slice kA kn kc,div,value,.slice cA cn cc] 83)));case first=>
  cases rB with
  | false=>
   (go_wp2_with fail);go_meet;exact⟨by rw [HH.out];rfl,rfl⟩
  | true=>
   have hr:=HWIN.out rfl;have hr4:radius=0∨radius=1∨radius=2∨radius=3:=(by omega);clear hr;by_cases hs:(kn:Int)=sideM radius
   ·have hsb:((kn:Int) == sideM radius)=true:=(by simpa using hs);rw [hsb]at HH;by_cases hd:div<1
    ·have hd1:decide (1≤div)=false:=decide_eq_false (by omega);rw [hd1]at HH;rcases hr4 with rfl | rfl | rfl | rfl <;> simp only [sideM,Int.reduceMul,Int.reduceAdd]at hs;all_goals
      (go_wp2_with fail);go_meet;exact⟨by rw [HH.out];rfl,rfl⟩
    have hd1:decide (1≤div)=true:=decide_eq_true (by omega);rw [hd1]at HH;by_cases hd2:1048576<div
    ·have hd3:decide (div≤1048576)=false:=decide_eq_false (by omega);rw [hd3]at HH;rcases hr4 with rfl | rfl | rfl | rfl <;> simp only [sideM,Int.reduceMul,Int.reduceAdd]at hs;all_goals
      (go_wp2_with fail);go_meet;exact⟨by rw [HH.out];rfl,rfl⟩
    have hd3:decide (div≤1048576)=true:=decide_eq_true (by omega);rw [hd3]at HH;rcases hr4 with rfl | rfl | rfl | rfl <;> simp only [sideM,Int.reduceMul,Int.reduceAdd]at hs;all_goals
     (go_wp2_with fail);go_meet;exact⟨by rw [HH.out];rfl,rfl⟩
   have hsb:((kn:Int) == sideM radius)=false:=(by simpa using hs);rw [hsb]at HH;rcases hr4 with rfl | rfl | rfl | rfl <;> simp only [sideM,Int.reduceMul,Int.reduceAdd]at hs;all_goals
    (go_wp2_with fail);go_meet;exact⟨by rw [HH.out];rfl,rfl⟩
 obtain⟨rfl,rfl⟩:=hcut;clear HH HW HWIN;cases hB with
 | false=>
  go_wp2_with fail
  go_ret;exact⟨by first | rfl | simp,(tR w).alloc _⟩
 | true=>
  obtain⟨n0,n1⟩:=HKN.out rfl;clear HKN;have hI:=HI.out.turn ((tR w).alloc (.cells #[(1:Int),radius,.slice kA kn kc,div,value,.slice cA cn cc] 83));obtain⟨hn,hA⟩:=hI;obtain⟨g,o,rfl,_⟩:=hA 0 (by omega);have hA':∀j,j<kn→(w.alloc (.cells #[(1:Int),radius,.slice (some ⟨g,o,none⟩) kn kc,div,value,.slice cA cn cc] 83)).cell? ⟨g,o+j,none⟩=some (.int .i64 (ks.getD j 0)):=by intro j hj;obtain⟨g',o',e,h⟩:=hA j hj;injection e with e;injection e with e1 e2 e3;subst e1;subst e2;exact h
  have HC:=lh hA';have HN:=lh hn;have hT:Turn [] _ _:=(tR w).alloc (.cells #[(1:Int),radius,.slice (some ⟨g,o,none⟩) kn kc,div,value,.slice cA cn cc] 83);have HT:=lh hT;clear hA hA' hn hT HI;go_wp2_with fail
  go_loop [4] (fun s4=>∃k:Nat,k≤kn∧s4=k∧(ks.take k).all (inB 4096)=true) (fun s4=>kn - (intOf s4).toNat);case atStart=>exact⟨0,by omega,rfl,by simp⟩
  obtain⟨k,hk,rfl,hall⟩:=hrel;have HA:=lh hall;clear hall;by_cases hlt:k<kn
  ·have hcell:=HC.out k hlt;have hzk:ks.take (k+1)=ks.take k ++ [ks.getD k 0]:=(by have hl:k<ks.length:=(by rw [←HN.out];exact hlt);rw [List.take_succ_eq_append_getElem hl];simp [List.getD,hl]);have HZ:=lh hzk;clear hzk;generalize hz:ks.getD k 0=z at *;have HZZ:=lh hz;clear hz;by_cases ha:z < -4096
   ·(go_wp2_with fail);go_ret;refine⟨?_,HT.out⟩;have:ks.all (inB 4096)=false:=(by rw [List.all_eq_false];exact⟨z,by rw [←HZZ.out];simp [List.getD,show k<ks.length by rw [←HN.out];exact hlt],by simp [inB];omega⟩);rw [this];first | rfl | (simp;done)
   by_cases hb:4096<z
   ·(go_wp2_with fail);go_ret;refine⟨?_,HT.out⟩;have:ks.all (inB 4096)=false:=(by rw [List.all_eq_false];exact⟨z,by rw [←HZZ.out];simp [List.getD,show k<ks.length by rw [←HN.out];exact hlt],by simp [inB];omega⟩);rw [this];first | rfl | (simp;done)
   (go_wp2_with fail);go_round;case rel=>exact⟨k+1,by omega,by go_num,by rw [HZ.out,List.all_append,HA.out];simp [inB];omega⟩
   simp [intOf];omega
  obtain rfl:k=kn:=by omega
  have hall:=HA.out;rw [HN.out,List.take_length]at hall;go_wp2_with (first
   | (go_at_call 159;refine (HP.out _).mono ?_;rintro e w1 ⟨rfl,ht⟩)
   | fail)
  go_ret;exact⟨by rw [hall];first | rfl | (simp;done),HT.out.trans ht⟩
theorem ref_filter(f:Fv)(ks cs:List Int)(w:World)(hk:IntsAt w f.kA f.kn ks)(hc:IntsAt w f.cA f.cn cs): Calls prog 108 #[f.v] w fun e w'=>e=.returned (.bool (fltB f ks cs))∧Turn [] w w':=by
 unfold fltB;by_cases h1:f.kind=1
 ·simpa only [if_pos h1]using flt_conv f h1 ks w hk
 simp only [if_neg h1];by_cases h2:f.kind=2∨f.kind=3∨f.kind=4
 ·simpa only [if_pos h2]using flt_win f h2 w
 simp only [if_neg h2];by_cases h5:f.kind=5
 ·simpa only [if_pos h5]using flt_tone f h5 cs w hc
 simp only [if_neg h5];by_cases h6:f.kind=6
 ·simpa only [if_pos h6]using flt_inv f h6 w
 simp only [if_neg h6];by_cases h7:f.kind=7
 ·simpa only [if_pos h7]using flt_thr f h7 w
 simp only [if_neg h7];by_cases h8:f.kind=8
 ·simpa only [if_pos h8]using flt_off f h8 w
 simp only [if_neg h8];exact flt_none f (by omega) w
def Fv.area(f:Fv)(b:Bool)(r:Rc)(s:Int): Rc:=
 if b=false∨r.empty=true then Rc.zero else if 1≤f.kind∧f.kind≤4 then r.grow f.radius else if f.kind=8 then r.move (s*f.radius) (s*f.value) else r
theorem flt_small(f:Fv)(ks cs:List Int)(h:fltB f ks cs=true): ((1≤f.kind∧f.kind≤4)→0≤f.radius∧f.radius≤3)∧(f.kind=8→(-3≤f.radius∧f.radius≤3)∧(-3≤f.value∧f.value≤3)):=by
 unfold fltB at h;constructor
 ·rintro⟨k0,k1⟩;by_cases h1:f.kind=1
  ·rw [if_pos h1]at h;simp only [Fv.headB,Fv.win,Bool.and_eq_true,decide_eq_true_eq]at h;omega
  rw [if_neg h1,if_pos (by omega)]at h;simp only [Fv.win,Bool.and_eq_true,decide_eq_true_eq]at h;omega
 intro h8;rw [if_neg (by omega),if_neg (by omega),if_neg (by omega),if_neg (by omega),if_neg (by omega),if_pos h8]at h;simp only [Bool.and_eq_true,decide_eq_true_eq]at h;omega
theorem ref_window(f:Fv)(w:World): Calls prog 182 #[f.v] w fun e w'=>e=.returned (.bool (decide (1≤f.kind∧f.kind≤4)))∧Turn [] w w':=by
 obtain⟨kind,radius,kA,kn,kc,div,value,cA,cn,cc⟩:=f;simp only [Fv.v];go_enter func182,ntmps182;by_cases h0:1≤kind
 ·by_cases h1:kind≤4
  ·(go_wp2_with fail);go_ret;exact⟨by first | rfl | (simp;done) | (simp;omega),(tR w).alloc _⟩
  go_wp2_with fail
  go_ret;exact⟨by first | rfl | (simp;done) | (simp;omega),(tR w).alloc _⟩
 go_wp2_with fail
 go_ret;exact⟨by first | rfl | (simp;done) | (simp;omega),(tR w).alloc _⟩
theorem ref_area(f:Fv)(ks cs:List Int)(r:Rc)(s:Int)(hs:s=1∨s=-1)(hr:r.bd)(w:World)(hk:IntsAt w f.kA f.kn ks)(hc:IntsAt w f.cA f.cn cs): Calls prog 133 #[f.v,r.v,s] w fun e w'=>e=.returned (f.area (fltB f ks cs) r s).v∧Turn [] w w':=by
 have hv:=fun w' (t:Turn [] w w')=>ref_filter f ks cs w' (hk.turn t) (hc.turn t);have he:=ref_empty r;have hsm:=flt_small f ks cs;have hw:=ref_window f;have hg:=ref_grow r;have hm:=ref_move r;generalize fltB f ks cs=b at *;generalize hA:f.area b r s=A at *;unfold Fv.area at hA;generalize r.empty=em at *;obtain⟨kind,radius,kA,kn,kc,div,value,cA,cn,cc⟩:=f;clear hk hc;simp only [Fv.v]at *;cases b with
 | false=>
  rw [if_pos (.inl rfl)]at hA;subst hA;obtain⟨x0,y0,x1,y1⟩:=r;simp only [Rc.v,Rc.zero]at *;have HV:=lh hv;have HE:=lh he;clear hv he hsm hw hg hm hr hs;have T0:Turn [] _ _:=(((tR w).alloc (.cells #[kind,radius,.slice kA kn kc,div,value,.slice cA cn cc] 83)).alloc (.cells #[x0,y0,x1,y1] 24)).alloc (.cells #[(0:Int),(0:Int),(0:Int),(0:Int)] 24);have TT:=T0.here;go_enter func133,ntmps133;go_wp2_with (first
   | (go_at_call 108;with_reducible refine TT.call (HV.out _ (T0.trans TT)) ?_;intro w1 TT hc hf)
   | (go_at_call 46;with_reducible refine TT.call (HE.out _) ?_;intro w2 TT hc hf)
   | fail)
  have TT:=T0.trans TT;refine bodyPost_ret (v:=.agg #[(0:Int),(0:Int),(0:Int),(0:Int)]) (by simp [results,results133,go_sem,hc]) rfl ⟨rfl,((((TT.sc).sc).sc).sc)⟩
 | true=>
  obtain⟨hsm1,hsm8⟩:=hsm rfl;clear hsm;cases em with
  | true=>
   rw [if_pos (.inr rfl)]at hA;subst hA;obtain⟨x0,y0,x1,y1⟩:=r;simp only [Rc.v,Rc.zero]at *;have HV:=lh hv;have HE:=lh he;clear hv he hsm1 hsm8 hw hg hm hr hs;have T0:Turn [] _ _:=(((tR w).alloc (.cells #[kind,radius,.slice kA kn kc,div,value,.slice cA cn cc] 83)).alloc (.cells #[x0,y0,x1,y1] 24)).alloc (.cells #[(0:Int),(0:Int),(0:Int),(0:Int)] 24);have TT:=T0.here;go_enter func133,ntmps133;go_wp2_with (first
    | (go_at_call 108;with_reducible refine TT.call (HV.out _ (T0.trans TT)) ?_;intro w1 TT hc hf)
    | (go_at_call 46;with_reducible refine TT.call (HE.out _) ?_;intro w2 TT hc hf)
    | fail)
   have TT:=T0.trans TT;refine bodyPost_ret (v:=.agg #[(0:Int),(0:Int),(0:Int),(0:Int)]) (by simp [results,results133,go_sem,hc]) rfl ⟨rfl,((((TT.sc).sc).sc).sc)⟩
  | false=>
   rw [if_neg (by simp)]at hA;by_cases hwd:1≤kind∧kind≤4
   ·rw [if_pos hwd]at hA;obtain⟨q0,q1⟩:=hsm1 hwd;rw [decide_eq_true hwd]at hw;have hg:=hg radius hr (by omega) (by omega);rw [hA]at hg;clear hA hm hs hsm1 hsm8;obtain⟨x0,y0,x1,y1⟩:=r;obtain⟨m0,m1,m2,m3⟩:=A;simp only [Rc.v]at *;have HV:=lh hv;have HE:=lh he;have HW:=lh hw;have HG:=lh hg;clear hv he hw hg hr hwd q0 q1;have T0:Turn [] _ _:=(((tR w).alloc (.cells #[kind,radius,.slice kA kn kc,div,value,.slice cA cn cc] 83)).alloc (.cells #[x0,y0,x1,y1] 24)).alloc (.cells #[(0:Int),(0:Int),(0:Int),(0:Int)] 24);have TT:=T0.here;go_enter func133,ntmps133;go_wp2_with (first
     | (go_at_call 108;with_reducible refine TT.call (HV.out _ (T0.trans TT)) ?_;intro w1 TT hc hf)
     | (go_at_call 46;with_reducible refine TT.call (HE.out _) ?_;intro w2 TT hc hf)
     | (go_at_call 182;with_reducible refine TT.call (HW.out _) ?_;intro w3 TT hc hf)
     | (go_at_call 183;with_reducible refine TT.call (HG.out _) ?_;intro w4 TT hc hf)
     | fail)
    have TT:=T0.trans TT;refine bodyPost_ret (v:=.agg #[m0,m1,m2,m3]) (by simp [results,results133,go_sem,hc]) rfl ⟨rfl,((((TT.sc).sc).sc).sc)⟩
   rw [if_neg hwd]at hA;rw [decide_eq_false hwd]at hw;by_cases h8:kind=8
   ·rw [if_pos h8]at hA;obtain⟨⟨q0,q1⟩,q2,q3⟩:=hsm8 h8;subst h8;have hm:∀x y,x=s*radius→y=s*value→∀w,Calls prog 184 #[r.v,x,y] w fun e w'=>e=.returned A.v∧Turn [] w w':=(by rintro x y rfl rfl w;have:=hm (s*radius) (s*value) hr (by rcases hs with rfl | rfl <;> omega) (by rcases hs with rfl | rfl <;> omega) (by rcases hs with rfl | rfl <;> omega) (by rcases hs with rfl | rfl <;> omega) w;rw [hA]at this;exact this);clear hA hg hsm1 hsm8;obtain⟨x0,y0,x1,y1⟩:=r;obtain⟨m0,m1,m2,m3⟩:=A;simp only [Rc.v]at *;have HV:=lh hv;have HE:=lh he;have HW:=lh hw;have HM:=lh hm;clear hv he hw hm hr hwd;rcases hs with rfl | rfl
    ·have T0:Turn [] _ _:=(((tR w).alloc (.cells #[(8:Int),radius,.slice kA kn kc,div,value,.slice cA cn cc] 83)).alloc (.cells #[x0,y0,x1,y1] 24)).alloc (.cells #[(0:Int),(0:Int),(0:Int),(0:Int)] 24);have TT:=T0.here;go_enter func133,ntmps133;go_wp2_with (first
      | (go_at_call 108;with_reducible refine TT.call (HV.out _ (T0.trans TT)) ?_;intro w1 TT hc hf)
      | (go_at_call 46;with_reducible refine TT.call (HE.out _) ?_;intro w2 TT hc hf)
      | (go_at_call 182;with_reducible refine TT.call (HW.out _) ?_;intro w3 TT hc hf)
      | (go_at_call 184;with_reducible refine TT.call (HM.out _ _ (by omega) (by omega) _) ?_;intro w5 TT hc hf)
      | fail)
     have TT:=T0.trans TT;refine bodyPost_ret (v:=.agg #[m0,m1,m2,m3]) (by simp [results,results133,go_sem,hc]) rfl ⟨rfl,((((TT.sc).sc).sc).sc)⟩
    have T0:Turn [] _ _:=(((tR w).alloc (.cells #[(8:Int),radius,.slice kA kn kc,div,value,.slice cA cn cc] 83)).alloc (.cells #[x0,y0,x1,y1] 24)).alloc (.cells #[(0:Int),(0:Int),(0:Int),(0:Int)] 24);have TT:=T0.here;go_enter func133,ntmps133;go_wp2_with (first
     | (go_at_call 108;with_reducible refine TT.call (HV.out _ (T0.trans TT)) ?_;intro w1 TT hc hf)
     | (go_at_call 46;with_reducible refine TT.call (HE.out _) ?_;intro w2 TT hc hf)
     | (go_at_call 182;with_reducible refine TT.call (HW.out _) ?_;intro w3 TT hc hf)
     | (go_at_call 184;with_reducible refine TT.call (HM.out _ _ (by omega) (by omega) _) ?_;intro w5 TT hc hf)
     | fail)
    have TT:=T0.trans TT;refine bodyPost_ret (v:=.agg #[m0,m1,m2,m3]) (by simp [results,results133,go_sem,hc]) rfl ⟨rfl,((((TT.sc).sc).sc).sc)⟩
   rw [if_neg h8]at hA;subst hA;clear hsm1 hsm8 hg hm hs hr;obtain⟨x0,y0,x1,y1⟩:=r;simp only [Rc.v]at *;have HV:=lh hv;have HE:=lh he;have HW:=lh hw;clear hv he hw;have T0:Turn [] _ _:=(((tR w).alloc (.cells #[kind,radius,.slice kA kn kc,div,value,.slice cA cn cc] 83)).alloc (.cells #[x0,y0,x1,y1] 24)).alloc (.cells #[(0:Int),(0:Int),(0:Int),(0:Int)] 24);have TT:=T0.here;go_enter func133,ntmps133;go_wp2_with (first
    | (go_at_call 108;with_reducible refine TT.call (HV.out _ (T0.trans TT)) ?_;intro w1 TT hc hf)
    | (go_at_call 46;with_reducible refine TT.call (HE.out _) ?_;intro w2 TT hc hf)
    | (go_at_call 182;with_reducible refine TT.call (HW.out _) ?_;intro w3 TT hc hf)
    | fail)
   have TT:=T0.trans TT;refine bodyPost_ret (v:=.agg #[x0,y0,x1,y1]) (by simp [results,results133,go_sem,hc]) rfl ⟨rfl,((((TT.sc).sc).sc).sc)⟩
theorem ref_need(f:Fv)(ks cs:List Int)(r:Rc)(hr:r.bd)(w:World)(hk:IntsAt w f.kA f.kn ks)(hc:IntsAt w f.cA f.cn cs): Calls prog 85 #[f.v,r.v] w fun e w'=>e=.returned (f.area (fltB f ks cs) r (-1)).v∧Turn [] w w':=by
 have ha:=fun w' (t:Turn [] w w')=>ref_area f ks cs r (-1) (by omega) hr w' (hk.turn t) (hc.turn t);generalize f.area (fltB f ks cs) r (-1)=A at *;obtain⟨kind,radius,kA,kn,kc,div,value,cA,cn,cc⟩:=f;obtain⟨x0,y0,x1,y1⟩:=r;obtain⟨m0,m1,m2,m3⟩:=A;clear hk hc hr;simp only [Fv.v,Rc.v]at *;have HA:=lh ha;clear ha;go_enter func85,ntmps85;go_wp2_with (first
  | (go_at_call 133;(with_reducible refine (HA.out _ (by first | exact ((((tR w).alloc _).alloc _).alloc _))).mono ?_);rintro e w1 ⟨rfl,ht⟩;have TT:=((((tR w).alloc _).alloc _).alloc _).trans ht;obtain⟨hc,hf⟩:=tcell ht)
  | fail)
 refine bodyPost_ret (v:=.agg #[m0,m1,m2,m3]) (by simp [results,results85,go_sem,hc]) rfl ⟨rfl,((((TT.sc).sc).sc).sc)⟩
def btw(x lo hi:Int): Bool:=decide (lo≤x) && decide (x≤hi)
theorem filt_within(x lo hi:Int)(w:World): Calls prog 179 #[x,lo,hi] w fun e w'=>e=.returned (.bool (btw x lo hi))∧w=w':=by
 unfold btw;go_enter func179,ntmps179;by_cases h0:lo≤x
 ·by_cases h1:x≤hi
  ·(go_wp2_with fail);go_ret;exact⟨by first | rfl | (simp;done) | (simp;omega),rfl⟩
  go_wp2_with fail
  go_ret;exact⟨by first | rfl | (simp;done) | (simp;omega),rfl⟩
 go_wp2_with fail
 go_ret;exact⟨by first | rfl | (simp;done) | (simp;omega),rfl⟩
theorem filt_windowed(k:Int)(w:World): Calls prog 127 #[k] w fun e w'=>e=.returned (.bool (btw k 1 4))∧w=w':=by
 have hw:=filt_within k 1 4;generalize btw k 1 4=b at *;have HW:=lh hw;clear hw;go_enter func127,ntmps127;go_wp2_with (go_at_call 179;refine (HW.out _).mono ?_;rintro e w1 ⟨rfl,rfl⟩)
 go_ret;exact⟨rfl,rfl⟩
theorem filt_area(f:Fv)(ks cs:List Int)(hb:fltB f ks cs=true)(r:Rc)(s:Int)(hs:s=1∨s=-1)(hr:r.bd)(w:World)(hv:∀w',Turn [] w w'→Calls prog 126 #[f.v] w' fun e w2=>e=.returned (.bool true)∧Turn [] w' w2): Calls prog 82 #[f.v,r.v,s] w fun e w'=>e=.returned (f.area (fltB f ks cs) r s).v∧Turn [] w w':=by
 have he:=rect_empty r;obtain⟨hsm1,hsm8⟩:=flt_small f ks cs hb;have hw:=filt_windowed f.kind;have hg:=rect_grow r;have hm:=rect_move r;rw [hb];clear hb;generalize hA:f.area true r s=A at *;unfold Fv.area at hA;generalize r.empty=em at *;obtain⟨kind,radius,kA,kn,kc,div,value,cA,cn,cc⟩:=f;simp only [Fv.v]at *;cases em with
 | true=>
  rw [if_pos (.inr rfl)]at hA;subst hA;obtain⟨x0,y0,x1,y1⟩:=r;simp only [Rc.v,Rc.zero]at *;have HV:=lh hv;have HE:=lh he;clear hv he hsm1 hsm8 hw hg hm hr hs;have T0:Turn [] _ _:=(((tR w).alloc (.cells #[kind,radius,.slice kA kn kc,div,value,.slice cA cn cc] 83)).alloc (.cells #[x0,y0,x1,y1] 24)).alloc (.cells #[(0:Int),(0:Int),(0:Int),(0:Int)] 24);have TT:=T0.here;go_enter func82,ntmps82;go_wp2_with (first
   | (go_at_call 126;with_reducible refine TT.call (HV.out _ (T0.trans TT)) ?_;intro w1 TT hc hf)
   | (go_at_call 18;with_reducible refine TT.call (HE.out _) ?_;intro w2 TT hc hf)
   | fail)
  have TT:=T0.trans TT;refine bodyPost_ret (v:=.agg #[(0:Int),(0:Int),(0:Int),(0:Int)]) (by simp [results,results82,go_sem,hc]) rfl ⟨rfl,((((TT.sc).sc).sc).sc)⟩
 | false=>
  rw [if_neg (by simp)]at hA;by_cases hwd:1≤kind∧kind≤4
  ·rw [if_pos hwd]at hA;obtain⟨q0,q1⟩:=hsm1 hwd;have hbt:btw kind 1 4=true:=(by simp [btw];omega);rw [hbt]at hw;have hg:=hg radius hr (by omega) (by omega);rw [hA]at hg;clear hA hm hs hsm1 hsm8 hbt;obtain⟨x0,y0,x1,y1⟩:=r;obtain⟨m0,m1,m2,m3⟩:=A;simp only [Rc.v]at *;have HV:=lh hv;have HE:=lh he;have HW:=lh hw;have HG:=lh hg;clear hv he hw hg hr hwd q0 q1;have T0:Turn [] _ _:=(((tR w).alloc (.cells #[kind,radius,.slice kA kn kc,div,value,.slice cA cn cc] 83)).alloc (.cells #[x0,y0,x1,y1] 24)).alloc (.cells #[(0:Int),(0:Int),(0:Int),(0:Int)] 24);have TT:=T0.here;go_enter func82,ntmps82;go_wp2_with (first
    | (go_at_call 126;with_reducible refine TT.call (HV.out _ (T0.trans TT)) ?_;intro w1 TT hc hf)
    | (go_at_call 18;with_reducible refine TT.call (HE.out _) ?_;intro w2 TT hc hf)
    | (go_at_call 127;(with_reducible refine (HW.out _).mono ?_);rintro e w3 ⟨rfl,rfl⟩)
    | (go_at_call 128;with_reducible refine TT.call (HG.out _) ?_;intro w4 TT hc hf)
    | fail)
   have TT:=T0.trans TT;refine bodyPost_ret (v:=.agg #[m0,m1,m2,m3]) (by simp [results,results82,go_sem,hc]) rfl ⟨rfl,((((TT.sc).sc).sc).sc)⟩
  rw [if_neg hwd]at hA;have hbt:btw kind 1 4=false:=by simp [btw];omega
  rw [hbt]at hw;clear hbt;by_cases h8:kind=8
  ·rw [if_pos h8]at hA;obtain⟨⟨q0,q1⟩,q2,q3⟩:=hsm8 h8;subst h8;have hm:∀x y,x=s*radius→y=s*value→∀w,Calls prog 129 #[r.v,x,y] w fun e w'=>e=.returned A.v∧Turn [] w w':=(by rintro x y rfl rfl w;have:=hm (s*radius) (s*value) hr (by rcases hs with rfl | rfl <;> omega) (by rcases hs with rfl | rfl <;> omega) (by rcases hs with rfl | rfl <;> omega) (by rcases hs with rfl | rfl <;> omega) w;rw [hA]at this;exact this);clear hA hg hsm1 hsm8;obtain⟨x0,y0,x1,y1⟩:=r;obtain⟨m0,m1,m2,m3⟩:=A;simp only [Rc.v]at *;have HV:=lh hv;have HE:=lh he;have HW:=lh hw;have HM:=lh hm;clear hv he hw hm hr hwd;rcases hs with rfl | rfl
   ·have T0:Turn [] _ _:=(((tR w).alloc (.cells #[(8:Int),radius,.slice kA kn kc,div,value,.slice cA cn cc] 83)).alloc (.cells #[x0,y0,x1,y1] 24)).alloc (.cells #[(0:Int),(0:Int),(0:Int),(0:Int)] 24);have TT:=T0.here;go_enter func82,ntmps82;go_wp2_with (first
     | (go_at_call 126;with_reducible refine TT.call (HV.out _ (T0.trans TT)) ?_;intro w1 TT hc hf)
     | (go_at_call 18;with_reducible refine TT.call (HE.out _) ?_;intro w2 TT hc hf)
     | (go_at_call 127;(with_reducible refine (HW.out _).mono ?_);rintro e w3 ⟨rfl,rfl⟩)
     | (go_at_call 129;with_reducible refine TT.call (HM.out _ _ (by omega) (by omega) _) ?_;intro w5 TT hc hf)
     | fail)
    have TT:=T0.trans TT;refine bodyPost_ret (v:=.agg #[m0,m1,m2,m3]) (by simp [results,results82,go_sem,hc]) rfl ⟨rfl,((((TT.sc).sc).sc).sc)⟩
   have T0:Turn [] _ _:=(((tR w).alloc (.cells #[(8:Int),radius,.slice kA kn kc,div,value,.slice cA cn cc] 83)).alloc (.cells #[x0,y0,x1,y1] 24)).alloc (.cells #[(0:Int),(0:Int),(0:Int),(0:Int)] 24);have TT:=T0.here;go_enter func82,ntmps82;go_wp2_with (first
    | (go_at_call 126;with_reducible refine TT.call (HV.out _ (T0.trans TT)) ?_;intro w1 TT hc hf)
    | (go_at_call 18;with_reducible refine TT.call (HE.out _) ?_;intro w2 TT hc hf)
    | (go_at_call 127;(with_reducible refine (HW.out _).mono ?_);rintro e w3 ⟨rfl,rfl⟩)
    | (go_at_call 129;with_reducible refine TT.call (HM.out _ _ (by omega) (by omega) _) ?_;intro w5 TT hc hf)
    | fail)
   have TT:=T0.trans TT;refine bodyPost_ret (v:=.agg #[m0,m1,m2,m3]) (by simp [results,results82,go_sem,hc]) rfl ⟨rfl,((((TT.sc).sc).sc).sc)⟩
  rw [if_neg h8]at hA;subst hA;clear hsm1 hsm8 hg hm hs hr;obtain⟨x0,y0,x1,y1⟩:=r;simp only [Rc.v]at *;have HV:=lh hv;have HE:=lh he;have HW:=lh hw;clear hv he hw;have T0:Turn [] _ _:=(((tR w).alloc (.cells #[kind,radius,.slice kA kn kc,div,value,.slice cA cn cc] 83)).alloc (.cells #[x0,y0,x1,y1] 24)).alloc (.cells #[(0:Int),(0:Int),(0:Int),(0:Int)] 24);have TT:=T0.here;go_enter func82,ntmps82;go_wp2_with (first
   | (go_at_call 126;with_reducible refine TT.call (HV.out _ (T0.trans TT)) ?_;intro w1 TT hc hf)
   | (go_at_call 18;with_reducible refine TT.call (HE.out _) ?_;intro w2 TT hc hf)
   | (go_at_call 127;(with_reducible refine (HW.out _).mono ?_);rintro e w3 ⟨rfl,rfl⟩)
   | fail)
  have TT:=T0.trans TT;refine bodyPost_ret (v:=.agg #[x0,y0,x1,y1]) (by simp [results,results82,go_sem,hc]) rfl ⟨rfl,((((TT.sc).sc).sc).sc)⟩
theorem filt_need(f:Fv)(ks cs:List Int)(hb:fltB f ks cs=true)(r:Rc)(hr:r.bd)(w:World)(hv:∀w',Turn [] w w'→Calls prog 126 #[f.v] w' fun e w2=>e=.returned (.bool true)∧Turn [] w' w2): Calls prog 44 #[f.v,r.v] w fun e w'=>e=.returned (f.area (fltB f ks cs) r (-1)).v∧Turn [] w w':=by
 have ha:=fun w' (t:Turn [] w w')=>filt_area f ks cs hb r (-1) (by omega) hr w' (fun w2 t2=>hv w2 (t.trans t2));generalize f.area (fltB f ks cs) r (-1)=A at *;obtain⟨kind,radius,kA,kn,kc,div,value,cA,cn,cc⟩:=f;obtain⟨x0,y0,x1,y1⟩:=r;obtain⟨m0,m1,m2,m3⟩:=A;clear hr hv hb;simp only [Fv.v,Rc.v]at *;have HA:=lh ha;clear ha;go_enter func44,ntmps44;go_wp2_with (first
  | (go_at_call 82;(with_reducible refine (HA.out _ (by first | exact ((((tR w).alloc _).alloc _).alloc _))).mono ?_);rintro e w1 ⟨rfl,ht⟩;have TT:=((((tR w).alloc _).alloc _).alloc _).trans ht;obtain⟨hc,hf⟩:=tcell ht)
  | fail)
 refine bodyPost_ret (v:=.agg #[m0,m1,m2,m3]) (by simp [results,results44,go_sem,hc]) rfl ⟨rfl,((((TT.sc).sc).sc).sc)⟩
theorem cmp_nan(x:Int)(w:World): Calls prog 220 #[x] w fun e w'=>e=.returned (.bool false)∧w=w':=by
 go_enter func220,ntmps220;go_wp2_with fail
 go_ret;exact⟨by first | rfl | (simp;done),rfl⟩
theorem cmp_less(x y:Int)(h:y≤x)(w:World): Calls prog 213 #[x,y] w fun e w'=>e=.returned (.bool false)∧w=w':=by
 have H:=lh (cmp_nan x);have hd:decide (x<y)=false:=decide_eq_false (by omega);go_enter func213,ntmps213;go_wp2_with (go_at_call 220;refine (H.out _).mono ?_;rintro e w1 ⟨rfl,rfl⟩)
 go_ret;exact⟨by first | rfl | (simp;done) | (simp;omega),rfl⟩
theorem curve_points(n:Int)(h0:2≤n)(h1:n≤257)(w:World): Calls prog 202 #[n] w fun e w'=>e=.returned (.bool true)∧w=w':=by
 go_enter func202,ntmps202;go_wp2_with fail
 go_ret;exact⟨by first | rfl | (simp;done) | (simp;omega),rfl⟩
theorem curve_sorted(c:List Int)(g o:Nat)(n cap:Nat)(h2:2≤n)(h3:n≤257)(w:World)(hA:∀j,j<n→w.cell? ⟨g,o+j,none⟩=some (.int .i64 (c.getD j 0)))(hs:∀j,0<j→j<n→c.getD (j - 1) 0≤c.getD j 0):
  Calls prog 203 #[.slice (some ⟨g,o,none⟩) n cap] w fun e w'=>e=.returned (.bool true)∧∃m,w'=w.drewN m:=by
 have HA:=lh hA;have HS:=lh hs;have hl:∀(x y:Int),y≤x→∀w,Calls prog 213 #[x,y] w fun e w'=>e=.returned (.bool false)∧w'=w:=fun x y h w=>(cmp_less x y h w).mono fun _ _ ⟨a,b⟩=>⟨a,b.symm⟩;have HL:=lh hl;clear hl;clear hA hs;go_enter func203,ntmps203;go_wp2_with fail
 go_loopw [3] (fun s3 wr=>∃k:Nat,k<n∧s3=k∧∃q,wr=w.drewN q) (fun s3 _=>(intOf s3).toNat);case atStart=>exact⟨n - 1,by omega,by congr 1;omega,0,rfl⟩
 obtain⟨k,hk,rfl,q,hq⟩:=hrel;have T:=(tR w).drawn q;rw [←hq]at T;have HQ:=lh hq;clear hq;cases k with
 | zero=>
  go_wp2_with fail
  go_ret;exact⟨rfl,q,HQ.out⟩
 | succ m=>
  have h1:=HA.out (m+1) hk;have h0:=HA.out m (by omega);rw [←(tcell T).1 g _ (block_lt_of_cell h1)]at h1;rw [←(tcell T).1 g _ (block_lt_of_cell h0)]at h0;have hle:=HS.out (m+1) (by omega) hk;have e1:m+1 - 1=m:=by omega
  rw [e1]at hle;clear e1;generalize c.getD (m+1) 0=x at *;generalize c.getD m 0=y at *;have HLE:=lh hle;clear hle;have hd2:decide ((0:Int)<((m:Int)+1))=true:=decide_eq_true (by omega);have hw1:IntKind.i64.wrap (m:Int)=(m:Int):=IntWalk.i64_in _ ⟨by omega,by omega⟩;have b0:(0:Int)≤(m:Int)+1:=by omega
  have b1:(m:Int)+1<(n:Int):=by omega
  have b2:(m:Int)<(n:Int):=by omega
  go_wp2_with fail
  go_quiet ((go_at_call 213;exact Calls.quiet_of_same (HL.out _ _ HLE.out _)))
  go_wp2_with fail
  go_roundw;case rel=>exact⟨m,by omega,by go_num,_,by rw [HQ.out,World.drewN_drewN]⟩
  simp [intOf]
theorem curve_valid(c:List Int)(hc:curveB c=true)(A:Option Addr)(n cap:Nat)(w:World)(hi:IntsAt w A n c):
  Calls prog 181 #[.slice A n cap] w fun e w'=>e=.returned (.bool true)∧Turn [] w w':=by
 simp only [curveB,Bool.and_eq_true,decide_eq_true_eq,List.all_eq_true,List.mem_range]at hc;obtain⟨⟨h2,h3⟩,hall⟩:=hc;obtain⟨hn,hA⟩:=hi;rw [←hn]at h2 h3 hall;obtain⟨g,o,rfl,_⟩:=hA 0 (by omega);have hA':∀j,j<n→w.cell? ⟨g,o+j,none⟩=some (.int .i64 (c.getD j 0)):=by intro j hj;obtain⟨g',o',e,h⟩:=hA j hj;injection e with e;injection e with e1 e2 e3;subst e1;subst e2;exact h
 have hs:∀j,0<j→j<n→c.getD (j - 1) 0≤c.getD j 0:=by intro j h0 h1;have:=hall j h1;simp only [curveAt,Bool.and_eq_true,Bool.or_eq_true,decide_eq_true_eq,beq_iff_eq]at this;omega
 have a0:=hall 0 (by omega);have a1:=hall (n - 1) (by omega);simp only [curveAt,Bool.and_eq_true,decide_eq_true_eq]at a0 a1;have z0:=hA' 0 (by omega);have z1:=hA' (n - 1) (by omega);have hp:=curve_points n (by omega) (by omega);have hq:=fun w' (t:Turn [] w w')=>curve_sorted c g o n cap h2 h3 w' (fun j hj=>by rw [(tcell t).1 g _ (block_lt_of_cell (hA' j hj))];exact hA' j hj) hs;have d0:decide (0≤c.getD 0 0)=true:=decide_eq_true a0.1.1;have d1:decide (c.getD (n - 1) 0≤65535)=true:=decide_eq_true a1.1.2;clear hA hA' hall hs a0 a1 hn;generalize c.getD 0 0=x at *;generalize c.getD (n - 1) 0=y at *;have HP:=lh hp;have HQ:=lh hq;clear hp hq;obtain⟨m,rfl⟩:∃m,n=m+1:=⟨n - 1,by omega⟩;have e1:m+1 - 1=m:=by omega
 rw [e1]at z1;clear e1;have z0:w.cell? ⟨g,o,none⟩=some (.int .i64 x):=z0;have b1:(m:Int)<(m:Int)+1:=by omega
 have hw1:IntKind.i64.wrap (m:Int)=(m:Int):=IntWalk.i64_in _ ⟨by omega,by omega⟩;go_enter func181,ntmps181;go_wp2_with (first
  | (go_at_call 202;refine (HP.out _).mono ?_;rintro e w1 ⟨rfl,rfl⟩)
  | (go_at_call 203;refine (HQ.out _ (tR w)).mono ?_;rintro e w2 ⟨rfl,q,rfl⟩)
  | fail)
 go_ret;exact⟨rfl,(tR w).drawn q⟩
theorem within_yes(x lo hi:Int)(h0:lo≤x)(h1:x≤hi)(w:World): Calls prog 179 #[x,lo,hi] w fun e w'=>e=.returned (.bool true)∧w=w':=by
 have h:=filt_within x lo hi w;have hb:btw x lo hi=true:=by simp [btw,h0,h1]
 rw [hb]at h;exact h
theorem plain_k{f:Fv}{v c r:Bool}(h:f.plain false v c r=true): f.kn=0∧f.div=0:=by simp [Fv.plain]at h;exact h.1.1.1
theorem plain_v{f:Fv}{k c r:Bool}(h:f.plain k false c r=true): f.value=0:=by simp [Fv.plain]at h;exact h.1.1.2
theorem plain_c{f:Fv}{k v r:Bool}(h:f.plain k v false r=true): f.cn=0:=by simp [Fv.plain]at h;exact h.1.2
theorem plain_r{f:Fv}{k v c:Bool}(h:f.plain k v c false=true): f.radius=0:=by simp [Fv.plain]at h;exact h.2
theorem fval_inv(f:Fv)(hk:f.kind=6)(hp:f.plain false false false false=true)(w:World): Calls prog 126 #[f.v] w fun e w'=>e=.returned (.bool true)∧Turn [] w w':=by
 obtain⟨kz,dz⟩:=plain_k hp;have vz:=plain_v hp;have cz:=plain_c hp;have rz:=plain_r hp;clear hp;obtain⟨kind,radius,kA,kn,kc,div,value,cA,cn,cc⟩:=f;simp only [Fv.v]at *;subst kz dz;subst vz;subst cz;subst rz;subst hk;all_goals
  go_enter func126,ntmps126;go_wp2_with (first
   | fail)
  go_ret;exact⟨by first | rfl | (simp;done),((tR w).alloc _).alloc _⟩
theorem fval_win(f:Fv)(hk:f.kind=2∨f.kind=3∨f.kind=4)(hp:f.plain false false false true=true)(hw:0≤f.radius∧f.radius≤3)(w:World): Calls prog 126 #[f.v] w fun e w'=>e=.returned (.bool true)∧Turn [] w w':=by
 obtain⟨kz,dz⟩:=plain_k hp;have vz:=plain_v hp;have cz:=plain_c hp;clear hp;obtain⟨kind,radius,kA,kn,kc,div,value,cA,cn,cc⟩:=f;simp only [Fv.v]at *;subst kz dz;subst vz;subst cz;obtain⟨r0,r1⟩:=hw;rcases hk with rfl | rfl | rfl;all_goals
  go_enter func126,ntmps126;go_wp2_with (first
   | (go_at_call 179;refine (within_yes _ _ _ (by omega) (by omega) _).mono ?_;rintro e w1 ⟨rfl,rfl⟩)
   | fail)
  go_ret;exact⟨by first | rfl | (simp;done),((tR w).alloc _).alloc _⟩
theorem fval_thr(f:Fv)(hk:f.kind=7)(hp:f.plain false true false false=true)(hw:0≤f.value∧f.value≤256)(w:World): Calls prog 126 #[f.v] w fun e w'=>e=.returned (.bool true)∧Turn [] w w':=by
 obtain⟨kz,dz⟩:=plain_k hp;have cz:=plain_c hp;have rz:=plain_r hp;clear hp;obtain⟨kind,radius,kA,kn,kc,div,value,cA,cn,cc⟩:=f;simp only [Fv.v]at *;subst kz dz;subst cz;subst rz;obtain⟨r0,r1⟩:=hw;subst hk;all_goals
  go_enter func126,ntmps126;go_wp2_with (first
   | (go_at_call 179;refine (within_yes _ _ _ (by omega) (by omega) _).mono ?_;rintro e w1 ⟨rfl,rfl⟩)
   | fail)
  go_ret;exact⟨by first | rfl | (simp;done),((tR w).alloc _).alloc _⟩
theorem fval_off(f:Fv)(hk:f.kind=8)(hp:f.plain false true false true=true)(hw:(-3≤f.radius∧f.radius≤3)∧-3≤f.value∧f.value≤3)(w:World): Calls prog 126 #[f.v] w fun e w'=>e=.returned (.bool true)∧Turn [] w w':=by
 obtain⟨kz,dz⟩:=plain_k hp;have cz:=plain_c hp;clear hp;obtain⟨kind,radius,kA,kn,kc,div,value,cA,cn,cc⟩:=f;simp only [Fv.v]at *;subst kz dz;subst cz;obtain⟨⟨r0,r1⟩,r2,r3⟩:=hw;subst hk;all_goals
  go_enter func126,ntmps126;go_wp2_with (first
   | (go_at_call 179;refine (within_yes _ _ _ (by omega) (by omega) _).mono ?_;rintro e w1 ⟨rfl,rfl⟩)
   | fail)
  go_region;go_wp2_with (first
   | (go_at_call 179;refine (within_yes _ _ _ (by omega) (by omega) _).mono ?_;rintro e w1 ⟨rfl,rfl⟩)
   | fail)
  go_ret;exact⟨by first | rfl | (simp;done),(((tR w).alloc _).alloc _).drawn 1⟩
theorem fval_tone(f:Fv)(hk:f.kind=5)(hp:f.plain false false true false=true)(cs:List Int)(hcs:curveB cs=true)(w:World)(hc:IntsAt w f.cA f.cn cs): Calls prog 126 #[f.v] w fun e w'=>e=.returned (.bool true)∧Turn [] w w':=by
 obtain⟨kz,dz⟩:=plain_k hp;have vz:=plain_v hp;have rz:=plain_r hp;clear hp;obtain⟨kind,radius,kA,kn,kc,div,value,cA,cn,cc⟩:=f;simp only [Fv.v]at *;subst kz dz;subst vz;subst rz;have hv:=fun w' (t:Turn [] w w')=>curve_valid cs hcs cA cn cc w' (hc.turn t);have HC:=lh hv;clear hv hc hcs;subst hk;all_goals
  go_enter func126,ntmps126;go_wp2_with (first
   | (go_at_call 181;refine (HC.out _ (by first | exact (((tR w).alloc _).alloc _))).mono ?_;rintro e w1 ⟨rfl,ht⟩;obtain⟨hc,hf⟩:=tcell ht)
   | fail)
  go_ret;exact⟨by first | rfl | (simp;done),(((tR w).alloc _).alloc _).trans ht⟩
theorem fval_out(k:Int)(h:inB 4096 k=true)(w:World): Calls prog 178 #[k] w fun e w'=>e=.returned (.bool false)∧w'=w:=by
 obtain⟨h0,h1⟩:=inB_iff.1 h;go_enter func178,ntmps178;go_wp2_with (go_at_call 179;refine (within_yes _ _ _ (by omega) (by omega) _).mono ?_;rintro e w1 ⟨rfl,rfl⟩)
 go_ret;exact⟨by first | rfl | (simp;done),rfl⟩
theorem int_index(ks:List Int)(hb:ks.all (inB 4096)=true)(g o n cap:Nat)(hn:n=ks.length)(hl:n≤100)(w:World)(hA:∀j,j<n→w.cell? ⟨g,o+j,none⟩=some (.int .i64 (ks.getD j 0))):
  Calls prog 201 #[.slice (some ⟨g,o,none⟩) n cap,.func (.func 178) #[] #[]] w fun e w'=>e=.returned (.int .i64 (-1))∧w'=w:=by
 have hall:∀j,j<n→inB 4096 (ks.getD j 0)=true:=by
  intro j hj;have:ks.getD j 0∈ks:=by simp [List.getD,show j<ks.length by omega]
  exact List.all_eq_true.1 hb _ this
 have HA:=lh hA;have HALL:=lh hall;clear hA hall hb hn;go_enter func201,ntmps201;go_wp2_with fail
 go_loop [8] (fun s8=>∃k:Nat,k≤n∧s8=k) (fun s8=>n - (intOf s8).toNat);case atStart=>exact⟨0,by omega,rfl⟩
 obtain⟨k,hk,rfl⟩:=hrel;by_cases hlt:k<n
 ·have hcell:=HA.out k hlt;have hq:=fval_out _ (HALL.out k hlt);generalize ks.getD k 0=z at *;have HQ:=lh hq;clear hq;go_wp2_with (first
   | (go_at_call 178;refine (HQ.out _).mono ?_;rintro e w1 ⟨rfl,rfl⟩)
   | fail)
  go_round;case rel=>exact⟨k+1,by omega,by go_num⟩
  simp [intOf];omega
 obtain rfl:k=n:=by omega
 go_wp2_with fail
 go_ret;exact⟨rfl,rfl⟩
theorem int_contains(ks:List Int)(hb:ks.all (inB 4096)=true)(g o n cap:Nat)(hn:n=ks.length)(hl:n≤100)(w:World)(hA:∀j,j<n→w.cell? ⟨g,o+j,none⟩=some (.int .i64 (ks.getD j 0))):
  Calls prog 180 #[.slice (some ⟨g,o,none⟩) n cap,.func (.func 178) #[] #[]] w fun e w'=>e=.returned (.bool false)∧w'=w:=by
 have HI:=lh (int_index ks hb g o n cap hn hl w hA);clear hA hb hn;go_enter func180,ntmps180;go_wp2_with (go_at_call 201;refine HI.out.mono ?_;rintro e w1 ⟨rfl,rfl⟩)
 go_ret;exact⟨by first | rfl | (simp;done),rfl⟩
theorem fval_conv(f:Fv)(hk:f.kind=1)(ks:List Int)(hh:f.headB=true)(hb:ks.all (inB 4096)=true)(hp:f.plain true false false true=true)(w:World)(hi:IntsAt w f.kA f.kn ks): Calls prog 126 #[f.v] w fun e w'=>e=.returned (.bool true)∧Turn [] w w':=by
 have vz:=plain_v hp;have cz:=plain_c hp;clear hp;simp only [Fv.headB,Fv.win,Bool.and_eq_true,decide_eq_true_eq,beq_iff_eq]at hh;obtain⟨⟨⟨⟨r0,r1⟩,hs⟩,d0⟩,d1⟩:=hh;obtain⟨kind,radius,kA,kn,kc,div,value,cA,cn,cc⟩:=f;simp only [Fv.v]at *;subst vz cz hk;obtain⟨hn,hA⟩:=hi;have hk1:1≤kn∧kn≤49:=by
  have h3:radius=0∨radius=1∨radius=2∨radius=3:=by omega
  rcases h3 with rfl | rfl | rfl | rfl <;> simp only [sideM,Int.reduceMul,Int.reduceAdd]at hs <;> omega
 obtain⟨g,o,rfl,_⟩:=hA 0 (by omega);have hA':∀j,j<kn→w.cell? ⟨g,o+j,none⟩=some (.int .i64 (ks.getD j 0)):=by intro j hj;obtain⟨g',o',e,h⟩:=hA j hj;injection e with e;injection e with e1 e2 e3;subst e1;subst e2;exact h
 have hc:=fun w' (t:Turn [] w w')=>int_contains ks hb g o kn kc hn (by omega) w' (fun j hj=>by rw [(tcell t).1 g _ (block_lt_of_cell (hA' j hj))];exact hA' j hj);clear hA hA' hn hb;obtain⟨k0,k1⟩:=hk1;have h3:radius=0∨radius=1∨radius=2∨radius=3:=by omega
 clear r0 r1;rcases h3 with rfl | rfl | rfl | rfl <;> simp only [sideM,Int.reduceMul,Int.reduceAdd]at hs
 ·obtain rfl:kn=1:=by omega
  clear hs k0 k1;have HC:=lh hc;clear hc;go_enter func126,ntmps126;go_wp2_with fail
  go_region;go_wp2_with (first
   | (go_at_call 179;refine (within_yes _ _ _ (by omega) (by omega) _).mono ?_;rintro e w1 ⟨rfl,rfl⟩)
   | (go_at_call 180;refine (HC.out _ ((((tR w).alloc _).alloc _).drawn 1)).mono ?_;rintro e w1 ⟨rfl,rfl⟩)
   | fail)
  go_ret;exact⟨by first | rfl | (simp;done),(((tR w).alloc _).alloc _).drawn 1⟩
 ·obtain rfl:kn=9:=by omega
  clear hs k0 k1;have HC:=lh hc;clear hc;go_enter func126,ntmps126;go_wp2_with fail
  go_region;go_wp2_with (first
   | (go_at_call 179;refine (within_yes _ _ _ (by omega) (by omega) _).mono ?_;rintro e w1 ⟨rfl,rfl⟩)
   | (go_at_call 180;refine (HC.out _ ((((tR w).alloc _).alloc _).drawn 1)).mono ?_;rintro e w1 ⟨rfl,rfl⟩)
   | fail)
  go_ret;exact⟨by first | rfl | (simp;done),(((tR w).alloc _).alloc _).drawn 1⟩
 ·obtain rfl:kn=25:=by omega
  clear hs k0 k1;have HC:=lh hc;clear hc;go_enter func126,ntmps126;go_wp2_with fail
  go_region;go_wp2_with (first
   | (go_at_call 179;refine (within_yes _ _ _ (by omega) (by omega) _).mono ?_;rintro e w1 ⟨rfl,rfl⟩)
   | (go_at_call 180;refine (HC.out _ ((((tR w).alloc _).alloc _).drawn 1)).mono ?_;rintro e w1 ⟨rfl,rfl⟩)
   | fail)
  go_ret;exact⟨by first | rfl | (simp;done),(((tR w).alloc _).alloc _).drawn 1⟩
 obtain rfl:kn=49:=by omega
 clear hs k0 k1;have HC:=lh hc;clear hc;go_enter func126,ntmps126;go_wp2_with fail
 go_region;go_wp2_with (first
  | (go_at_call 179;refine (within_yes _ _ _ (by omega) (by omega) _).mono ?_;rintro e w1 ⟨rfl,rfl⟩)
  | (go_at_call 180;refine (HC.out _ ((((tR w).alloc _).alloc _).drawn 1)).mono ?_;rintro e w1 ⟨rfl,rfl⟩)
  | fail)
 go_ret;exact⟨by first | rfl | (simp;done),(((tR w).alloc _).alloc _).drawn 1⟩
theorem filt_valid(f:Fv)(ks cs:List Int)(hb:fltB f ks cs=true)(w:World)(hk:IntsAt w f.kA f.kn ks)(hc:IntsAt w f.cA f.cn cs): Calls prog 126 #[f.v] w fun e w'=>e=.returned (.bool true)∧Turn [] w w':=by
 obtain⟨hs1,hs8⟩:=flt_small f ks cs hb;unfold fltB at hb;by_cases h1:f.kind=1
 ·rw [if_pos h1,Bool.and_eq_true,Bool.and_eq_true]at hb;exact fval_conv f h1 ks hb.1.1 hb.1.2 hb.2 w hk
 rw [if_neg h1]at hb;by_cases h2:f.kind=2∨f.kind=3∨f.kind=4
 ·rw [if_pos h2,Bool.and_eq_true]at hb;exact fval_win f h2 hb.2 (hs1 (by omega)) w
 rw [if_neg h2]at hb;by_cases h5:f.kind=5
 ·rw [if_pos h5,Bool.and_eq_true]at hb;exact fval_tone f h5 hb.2 cs hb.1 w hc
 rw [if_neg h5]at hb;by_cases h6:f.kind=6
 ·rw [if_pos h6]at hb;exact fval_inv f h6 hb w
 rw [if_neg h6]at hb;by_cases h7:f.kind=7
 ·rw [if_pos h7]at hb;simp only [Bool.and_eq_true,decide_eq_true_eq]at hb;exact fval_thr f h7 hb.2 hb.1 w
 rw [if_neg h7]at hb;by_cases h8:f.kind=8
 ·rw [if_pos h8,Bool.and_eq_true]at hb;exact fval_off f h8 hb.2 (hs8 h8) w
 rw [if_neg h8]at hb;exact absurd hb (by simp)
theorem prog_need(f:Fv)(ks cs:List Int)(hb:fltB f ks cs=true)(r:Rc)(hr:r.bd)(w:World)(hk:IntsAt w f.kA f.kn ks)(hc:IntsAt w f.cA f.cn cs): Calls prog 44 #[f.v,r.v] w fun e w'=>e=.returned (f.area (fltB f ks cs) r (-1)).v∧Turn [] w w':=
 filt_need f ks cs hb r hr w fun w' t=>filt_valid f ks cs hb w' (hk.turn t) (hc.turn t)
def tv(px:List Int): Value:=.agg ⟨px.map (Value.int .u8)⟩
def al(px:List Int)(i:Nat): Int:=px.getD (i*4+3) 0
def tzero(px:List Int): Bool:=(List.range 64).all fun i=>al px i == 0
theorem row_cell(px:List Int)(u:World)(ty:TypeId)(j:Nat)(hj:j<px.length): (u.alloc (.cells ⟨px.map (Value.int .u8)⟩ ty)).cell? ⟨u,j,none⟩=some (.int .u8 (px.getD j 0)):=by rw [cell_of_row _ _ _ _ ty (0,0) (heap_alloc_new u _)];simp [List.getD,hj]
theorem ref_zero(px:List Int)(hl:px.length=256)(w:World):
  Calls prog 152 #[tv px] w fun e w'=>e=.returned (.bool (tzero px))∧Turn [] w w':=by
 have hC:∀k,k<64→(w.alloc (.cells ⟨px.map (Value.int .u8)⟩ 66)).cell? ⟨w,k*4+3,none⟩=some (.int .u8 (al px k)):=fun k hk=>row_cell px w _ _ (by omega);have T:=(tR w).alloc (.cells ⟨px.map (Value.int .u8)⟩ 66);unfold tv;generalize (⟨px.map (Value.int .u8)⟩:Array Value)=cs at *;have HC:=lh hC;clear hC;go_enter func152,ntmps152;go_wp2_with fail
 generalize w.alloc (.cells cs 66)=W at *;go_loop [3] (fun s3=>∃k:Nat,k≤64∧s3=k∧∀i,i<k→al px i=0) (fun s3=>64 - (intOf s3).toNat);case atStart=>exact⟨0,by omega,rfl,fun i hi=>absurd hi (Nat.not_lt_zero i)⟩
 obtain⟨k,hk,rfl,hall⟩:=hrel;have HA:=lh hall;clear hall;by_cases hlt:k<64
 ·have hcell:=HC.out k hlt;generalize hz:al px k=z at *;have HZ:=lh hz;clear hz;by_cases h0:z=0
  ·subst h0;(go_wp2_with fail);go_round;case rel=>exact⟨k+1,by omega,by go_num,fun i hi=>by
    by_cases h:i<k
    ·exact HA.out i h
    obtain rfl:i=k:=(by omega);exact HZ.out⟩
   simp [intOf];omega
  go_wp2_with fail
  go_ret;have:tzero px=false:=List.all_eq_false.2 ⟨k,List.mem_range.2 hlt,by simp [HZ.out,h0]⟩;exact⟨by rw [this];rfl,T⟩
 obtain rfl:k=64:=by omega
 go_wp2_with fail
 go_ret;have:tzero px=true:=List.all_eq_true.2 fun i hi=>by simp [HA.out i (List.mem_range.1 hi)]
 exact⟨by rw [this];rfl,T⟩
def farB(x y:Int): Bool:=decide (x < -65536) || decide (y < -65536) || decide (65536<x) || decide (65536<y)
theorem ref_far(x y:Int)(w:World): Calls prog 190 #[.agg #[x,y]] w fun e w'=>e=.returned (.bool (farB x y))∧Turn [] w w':=by
 unfold farB;by_cases h0:x < -65536
 ·go_enter func190,ntmps190;go_wp2_with fail
  go_ret;exact⟨by first | rfl | (simp;done) | (simp;omega),(tR w).alloc _⟩
 by_cases h1:y < -65536
 ·go_enter func190,ntmps190;go_wp2_with fail
  go_ret;exact⟨by first | rfl | (simp;done) | (simp;omega),(tR w).alloc _⟩
 by_cases h2:65536<x
 ·go_enter func190,ntmps190;go_wp2_with fail
  go_ret;exact⟨by first | rfl | (simp;done) | (simp;omega),(tR w).alloc _⟩
 by_cases h3:65536<y
 ·go_enter func190,ntmps190;go_wp2_with fail
  go_ret;exact⟨by first | rfl | (simp;done) | (simp;omega),(tR w).alloc _⟩
 go_enter func190,ntmps190;go_wp2_with fail
 go_ret;exact⟨by first | rfl | (simp;done) | (simp;omega),(tR w).alloc _⟩
theorem sel_far(x y:Int)(h:farB x y=false)(w:World): Calls prog 188 #[.agg #[x,y]] w fun e w'=>e=.returned (.bool false)∧Turn [] w w':=by
 simp only [farB,Bool.or_eq_false_iff,decide_eq_false_iff_not]at h;obtain⟨⟨⟨h0,h1⟩,h2⟩,h3⟩:=h;have d0:decide (min x y < -65536)=false:=decide_eq_false (by omega);have d1:decide (65536<max x y)=false:=decide_eq_false (by omega);have H2:=lh h2;have H3:=lh h3;clear h0 h1 h2 h3;go_enter func188,ntmps188;go_wp2_with (first
  | (refine wpList_max rfl _ _ rfl rfl rfl ?_)
  | (refine wpList_min rfl _ _ rfl rfl rfl ?_)
  | fail)
 all_goals
  go_ret;have e2:=H2.out;have e3:=H3.out;exact⟨by first | rfl | (simp;done) | (simp;omega),(tR w).alloc _⟩
def pathB(ps:List (Int×Int)): Bool:=decide (3≤ps.length) && decide (ps.length≤64) && ps.all (fun p=>!farB p.1 p.2)
def PtsAt(w:World)(A:Option Addr)(n:Nat)(ps:List (Int×Int)): Prop:=n=ps.length∧∀j,j<n→∃g o,A=some ⟨g,o,none⟩∧w.cell? ⟨g,o+j*2,none⟩=some (.int .i64 (ps.getD j (0,0)).1)∧w.cell? ⟨g,o+j*2+1,none⟩=some (.int .i64 (ps.getD j (0,0)).2)
theorem PtsAt.turn{w w':World}{A:Option Addr}{n:Nat}{ps:List (Int×Int)}(h:PtsAt w A n ps)(t:Turn [] w w'): PtsAt w' A n ps:=by
 refine⟨h.1,fun j hj=>?_⟩;obtain⟨g,o,e,hc,hd⟩:=h.2 j hj;refine⟨g,o,e,?_,?_⟩
 ·rw [(tcell t).1 g _ (block_lt_of_cell hc)];exact hc
 rw [(tcell t).1 g _ (block_lt_of_cell hd)];exact hd
end Go.Proofs.YtbpklgllihhgpaaGreat
