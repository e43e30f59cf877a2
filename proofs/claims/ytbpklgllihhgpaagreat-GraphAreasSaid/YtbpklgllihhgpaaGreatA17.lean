import Derived.Test.YtbpklgllihhgpaaGreatA16
set_option maxRecDepth 100000
set_option maxHeartbeats 16000000
namespace Go.Proofs.YtbpklgllihhgpaaGreat
open Tryz Go.RowKit Go.Den
def pO(r:Int): Int:=(2*r+1)*(2*r+1)
def Fv.headB(f:Fv): Bool:=f.win && ((f.kn:Int) == pO f.Xf) && decide (1≤f.div) && decide (f.div≤1048576)
def jC(f:Fv)(ks cs:List Int): Bool:=
 if f.kind=1 then f.headB && ks.all (lm 4096) && f.plain true false false true
 else if f.kind=2∨f.kind=3∨f.kind=4 then f.win && f.plain false false false true
 else if f.kind=5 then jh cs && f.plain false false true false
 else if f.kind=6 then f.plain false false false false
 else if f.kind=7 then decide (0≤f.value) && decide (f.value≤256) && f.plain false true false false
 else if f.kind=8 then decide (-3≤f.Xf) && decide (f.Xf≤3) && decide (-3≤f.value) && decide (f.value≤3) && f.plain false true false true
 else false
theorem Pn(f:Fv)(hk:f.kind=1)(ks:List Int)(w:World)(hi:dn w f.kA f.kn ks): Calls prog 108 #[f.v] w fun e w'=>e=.returned (.bool (f.headB && ks.all (lm 4096) && f.plain true false false true))∧bH [] w w':=by
 have hp:=UU f;have hw:f.win=(decide (0≤f.Xf) && decide (f.Xf≤3)):=rfl;have hh:f.headB=(f.win && ((f.kn:Int) == pO f.Xf) && decide (1≤f.div) && decide (f.div≤1048576)):=rfl;obtain⟨kind,Xf,kA,kn,kc,div,value,cA,cn,cc⟩:=f;simp only [Fv.v]at *;subst hk;have hwin:(Fv.mk 1 Xf kA kn kc div value cA cn cc).win=true→0≤Xf∧Xf≤3:=by intro h;rw [hw]at h;simpa using h
 generalize (Fv.mk 1 Xf kA kn kc div value cA cn cc).win=rB at *;generalize (Fv.mk 1 Xf kA kn kc div value cA cn cc).headB=hB at *;generalize (Fv.mk 1 Xf kA kn kc div value cA cn cc).plain true false false true=pB at *;have hkn:hB=true→1≤kn∧kn≤49:=by
  intro h;rw [hh]at h;simp only [az,beq_iff_eq]at h;obtain⟨⟨⟨h1,h2⟩,_⟩,_⟩:=h;obtain⟨r0,r1⟩:=hwin h1;have h3:Xf=0∨Xf=1∨Xf=2∨Xf=3:=by omega
  rcases h3 with rfl | rfl | rfl | rfl <;> simp only [pO,Int.reduceMul,Int.reduceAdd]at h2 <;> omega
 have HKN:=lh hkn;have HP:=lh hp;have HW:=lh hw;have HH:=lh hh;have HWIN:=lh hwin;have HI:=lh hi;clear hp hw hh hwin hi hkn;go_enter func108,ntmps108;go_upto_region 1 with (fail)
 go_cut [3] (fun s3 wx=>s3=.bool rB∧wx=w.alloc (.cells #[(1:Int),Xf,.slice kA kn kc,div,value,.slice cA cn cc] 83));case first=>
  by_cases h0:0≤Xf
  ·by_cases h1:Xf≤3
   ·(go_wp2_with fail);go_meet;exact⟨by rw [HW.o];simp [h0,h1],rfl⟩
   (go_wp2_with fail);go_meet;exact⟨by rw [HW.o];simp;omega,rfl⟩
  go_wp2_with fail
  go_meet;exact⟨by rw [HW.o];simp;omega,rfl⟩
 obtain⟨rfl,rfl⟩:=hcut;go_upto_region 4 with (fail)
 go_cut [43] (fun s43 wx=>s43=.bool (!hB)∧wx=(w.alloc (.cells #[(1:Int),Xf,.slice kA kn kc,div,value,.slice cA cn cc] 83)));case first=>
  cases rB with
  | false=>
   (go_wp2_with fail);go_meet;exact⟨by rw [HH.o];rfl,rfl⟩
  | true=>
   have hr:=HWIN.o rfl;have hr4:Xf=0∨Xf=1∨Xf=2∨Xf=3:=(by omega);clear hr;by_cases hs:(kn:Int)=pO Xf
   ·have hsb:((kn:Int) == pO Xf)=true:=(by simpa using hs);rw [hsb]at HH;by_cases hd:div<1
    ·have hd1:decide (1≤div)=false:=ak (by omega);rw [hd1]at HH;rcases hr4 with rfl | rfl | rfl | rfl <;> simp only [pO,Int.reduceMul,Int.reduceAdd]at hs;all_goals
      (go_wp2_with fail);go_meet;exact⟨by rw [HH.o];rfl,rfl⟩
    have hd1:decide (1≤div)=true:=aC (by omega);rw [hd1]at HH;by_cases hd2:1048576<div
    ·have hd3:decide (div≤1048576)=false:=ak (by omega);rw [hd3]at HH;rcases hr4 with rfl | rfl | rfl | rfl <;> simp only [pO,Int.reduceMul,Int.reduceAdd]at hs;all_goals
      (go_wp2_with fail);go_meet;exact⟨by rw [HH.o];rfl,rfl⟩
    have hd3:decide (div≤1048576)=true:=aC (by omega);rw [hd3]at HH;rcases hr4 with rfl | rfl | rfl | rfl <;> simp only [pO,Int.reduceMul,Int.reduceAdd]at hs;all_goals
     (go_wp2_with fail);go_meet;exact⟨by rw [HH.o];rfl,rfl⟩
   have hsb:((kn:Int) == pO Xf)=false:=(by simpa using hs);rw [hsb]at HH;rcases hr4 with rfl | rfl | rfl | rfl <;> simp only [pO,Int.reduceMul,Int.reduceAdd]at hs;all_goals
    (go_wp2_with fail);go_meet;exact⟨by rw [HH.o];rfl,rfl⟩
 obtain⟨rfl,rfl⟩:=hcut;clear HH HW HWIN;cases hB with
 | false=>
  go_wp2_with fail
  go_ret;exact⟨by first | rfl | simp,(tR w).alloc _⟩
 | true=>
  obtain⟨n0,n1⟩:=HKN.o rfl;clear HKN;have hI:=HI.o.turn ((tR w).alloc (.cells #[(1:Int),Xf,.slice kA kn kc,div,value,.slice cA cn cc] 83));obtain⟨hn,hA⟩:=hI;obtain⟨g,o,rfl,_⟩:=hA 0 (by omega);have hA':∀j,j<kn→(w.alloc (.cells #[(1:Int),Xf,.slice (some ⟨g,o,none⟩) kn kc,div,value,.slice cA cn cc] 83)).cell? ⟨g,o+j,none⟩=some (.int .i64 (ks.getD j 0)):=by intro j hj;obtain⟨g',o',e,h⟩:=hA j hj;injection e with e;injection e with e1 e2 e3;subst e1;subst e2;exact h
  have HC:=lh hA';have HN:=lh hn;have hT:bH [] _ _:=(tR w).alloc (.cells #[(1:Int),Xf,.slice (some ⟨g,o,none⟩) kn kc,div,value,.slice cA cn cc] 83);have HT:=lh hT;clear hA hA' hn hT HI;go_wp2_with fail
  go_loop [4] (fun s4=>∃k:Nat,k≤kn∧s4=k∧(ks.take k).all (lm 4096)=true) (fun s4=>kn - (intOf s4).toNat);case atStart=>exact⟨0,by omega,rfl,by simp⟩
  obtain⟨k,hk,rfl,hall⟩:=hrel;have HA:=lh hall;clear hall;by_cases hlt:k<kn
  ·have hcell:=HC.o k hlt;have hzk:ks.take (k+1)=ks.take k ++ [ks.getD k 0]:=(by have hl:k<ks.length:=(by rw [←HN.o];exact hlt);rw [aT hl];simp [List.getD,hl]);have HZ:=lh hzk;clear hzk;generalize hz:ks.getD k 0=z at *;have HZZ:=lh hz;clear hz;by_cases ha:z < -4096
   ·(go_wp2_with fail);go_ret;refine⟨?_,HT.o⟩;have:ks.all (lm 4096)=false:=(by rw [List.all_eq_false];exact⟨z,by rw [←HZZ.o];simp [List.getD,show k<ks.length by rw [←HN.o];exact hlt],by simp [lm];omega⟩);rw [this];first | rfl | (simp;done)
   by_cases hb:4096<z
   ·(go_wp2_with fail);go_ret;refine⟨?_,HT.o⟩;have:ks.all (lm 4096)=false:=(by rw [List.all_eq_false];exact⟨z,by rw [←HZZ.o];simp [List.getD,show k<ks.length by rw [←HN.o];exact hlt],by simp [lm];omega⟩);rw [this];first | rfl | (simp;done)
   (go_wp2_with fail);go_round;case rel=>exact⟨k+1,by omega,by go_num,by rw [HZ.o,List.all_append,HA.o];simp [lm];omega⟩
   simp [intOf];omega
  obtain rfl:k=kn:=by omega
  have hall:=HA.o;rw [HN.o,List.take_length]at hall;go_wp2_with (first
   | (go_at_call 159;refine (HP.o _).mono ?_;rintro e w1 ⟨rfl,ht⟩)
   | fail)
  go_ret;exact⟨by rw [hall];first | rfl | (simp;done),HT.o.trans ht⟩
theorem AY(f:Fv)(ks cs:List Int)(w:World)(hk:dn w f.kA f.kn ks)(hc:dn w f.cA f.cn cs): Calls prog 108 #[f.v] w fun e w'=>e=.returned (.bool (jC f ks cs))∧bH [] w w':=by
 unfold jC;by_cases h1:f.kind=1
 ·simpa only [aG h1]using Pn f h1 ks w hk
 simp only [aF h1];by_cases h2:f.kind=2∨f.kind=3∨f.kind=4
 ·simpa only [aG h2]using Tm f h2 w
 simp only [aF h2];by_cases h5:f.kind=5
 ·simpa only [aG h5]using QG f h5 cs w hc
 simp only [aF h5];by_cases h6:f.kind=6
 ·simpa only [aG h6]using RV f h6 w
 simp only [aF h6];by_cases h7:f.kind=7
 ·simpa only [aG h7]using Ud f h7 w
 simp only [aF h7];by_cases h8:f.kind=8
 ·simpa only [aG h8]using RH f h8 w
 simp only [aF h8];exact PP f (by omega) w
def Fv.area(f:Fv)(b:Bool)(r:Rc)(s:Int): Rc:=
 if b=false∨r.empty=true then Rc.zero else if 1≤f.kind∧f.kind≤4 then r.grow f.Xf else if f.kind=8 then r.move (s*f.Xf) (s*f.value) else r
theorem xK(f:Fv)(ks cs:List Int)(h:jC f ks cs=true): ((1≤f.kind∧f.kind≤4)→0≤f.Xf∧f.Xf≤3)∧(f.kind=8→(-3≤f.Xf∧f.Xf≤3)∧(-3≤f.value∧f.value≤3)):=by
 unfold jC at h;constructor
 ·rintro⟨k0,k1⟩;by_cases h1:f.kind=1
  ·rw [aG h1]at h;simp only [Fv.headB,Fv.win,az,decide_eq_true_eq]at h;omega
  rw [aF h1,aG (by omega)]at h;simp only [Fv.win,az,decide_eq_true_eq]at h;omega
 intro h8;rw [aF (by omega),aF (by omega),aF (by omega),aF (by omega),aF (by omega),aG h8]at h;simp only [az,decide_eq_true_eq]at h;omega
theorem JY(f:Fv)(w:World): Calls prog 182 #[f.v] w fun e w'=>e=.returned (.bool (decide (1≤f.kind∧f.kind≤4)))∧bH [] w w':=by
 obtain⟨kind,Xf,kA,kn,kc,div,value,cA,cn,cc⟩:=f;simp only [Fv.v];go_enter func182,ntmps182;by_cases h0:1≤kind
 ·by_cases h1:kind≤4
  ·(go_wp2_with fail);go_ret;exact⟨by first | rfl | (simp;done) | (simp;omega),(tR w).alloc _⟩
  go_wp2_with fail
  go_ret;exact⟨by first | rfl | (simp;done) | (simp;omega),(tR w).alloc _⟩
 go_wp2_with fail
 go_ret;exact⟨by first | rfl | (simp;done) | (simp;omega),(tR w).alloc _⟩
theorem Pg(f:Fv)(ks cs:List Int)(r:Rc)(s:Int)(hs:s=1∨s=-1)(hr:r.bd)(w:World)(hk:dn w f.kA f.kn ks)(hc:dn w f.cA f.cn cs): Calls prog 133 #[f.v,r.v,s] w fun e w'=>e=.returned (f.area (jC f ks cs) r s).v∧bH [] w w':=by
 have hv:=fun w' (t:bH [] w w')=>AY f ks cs w' (hk.turn t) (hc.turn t);have he:=iM r;have hsm:=xK f ks cs;have hw:=JY f;have hg:=PY r;have hm:=PO r;generalize jC f ks cs=b at *;generalize hA:f.area b r s=A at *;unfold Fv.area at hA;generalize r.empty=em at *;obtain⟨kind,Xf,kA,kn,kc,div,value,cA,cn,cc⟩:=f;clear hk hc;simp only [Fv.v]at *;cases b with
 | false=>
  rw [aG (.inl rfl)]at hA;subst hA;obtain⟨x0,y0,x1,y1⟩:=r;simp only [Rc.v,Rc.zero]at *;have HV:=lh hv;have HE:=lh he;clear hv he hsm hw hg hm hr hs;have T0:bH [] _ _:=(((tR w).alloc (.cells #[kind,Xf,.slice kA kn kc,div,value,.slice cA cn cc] 83)).alloc (.cells #[x0,y0,x1,y1] 24)).alloc (.cells #[(0:Int),(0:Int),(0:Int),(0:Int)] 24);have TT:=T0.here;go_enter func133,ntmps133;go_wp2_with (first
   | (go_at_call 108;with_reducible refine TT.call (HV.o _ (T0.trans TT)) ?_;intro w1 TT hc hf)
   | (go_at_call 46;with_reducible refine TT.call (HE.o _) ?_;intro w2 TT hc hf)
   | fail)
  have TT:=T0.trans TT;refine ag (v:=.agg #[(0:Int),(0:Int),(0:Int),(0:Int)]) (by simp [results,results133,go_sem,hc]) rfl ⟨rfl,((((TT.sc).sc).sc).sc)⟩
 | true=>
  obtain⟨hsm1,hsm8⟩:=hsm rfl;clear hsm;cases em with
  | true=>
   rw [aG (.inr rfl)]at hA;subst hA;obtain⟨x0,y0,x1,y1⟩:=r;simp only [Rc.v,Rc.zero]at *;have HV:=lh hv;have HE:=lh he;clear hv he hsm1 hsm8 hw hg hm hr hs;have T0:bH [] _ _:=(((tR w).alloc (.cells #[kind,Xf,.slice kA kn kc,div,value,.slice cA cn cc] 83)).alloc (.cells #[x0,y0,x1,y1] 24)).alloc (.cells #[(0:Int),(0:Int),(0:Int),(0:Int)] 24);have TT:=T0.here;go_enter func133,ntmps133;go_wp2_with (first
    | (go_at_call 108;with_reducible refine TT.call (HV.o _ (T0.trans TT)) ?_;intro w1 TT hc hf)
    | (go_at_call 46;with_reducible refine TT.call (HE.o _) ?_;intro w2 TT hc hf)
    | fail)
   have TT:=T0.trans TT;refine ag (v:=.agg #[(0:Int),(0:Int),(0:Int),(0:Int)]) (by simp [results,results133,go_sem,hc]) rfl ⟨rfl,((((TT.sc).sc).sc).sc)⟩
  | false=>
   rw [aF (by simp)]at hA;by_cases hwd:1≤kind∧kind≤4
   ·rw [aG hwd]at hA;obtain⟨q0,q1⟩:=hsm1 hwd;rw [aC hwd]at hw;have hg:=hg Xf hr (by omega) (by omega);rw [hA]at hg;clear hA hm hs hsm1 hsm8;obtain⟨x0,y0,x1,y1⟩:=r;obtain⟨m0,m1,m2,m3⟩:=A;simp only [Rc.v]at *;have HV:=lh hv;have HE:=lh he;have HW:=lh hw;have HG:=lh hg;clear hv he hw hg hr hwd q0 q1;have T0:bH [] _ _:=(((tR w).alloc (.cells #[kind,Xf,.slice kA kn kc,div,value,.slice cA cn cc] 83)).alloc (.cells #[x0,y0,x1,y1] 24)).alloc (.cells #[(0:Int),(0:Int),(0:Int),(0:Int)] 24);have TT:=T0.here;go_enter func133,ntmps133;go_wp2_with (first
     | (go_at_call 108;with_reducible refine TT.call (HV.o _ (T0.trans TT)) ?_;intro w1 TT hc hf)
     | (go_at_call 46;with_reducible refine TT.call (HE.o _) ?_;intro w2 TT hc hf)
     | (go_at_call 182;with_reducible refine TT.call (HW.o _) ?_;intro w3 TT hc hf)
     | (go_at_call 183;with_reducible refine TT.call (HG.o _) ?_;intro w4 TT hc hf)
     | fail)
    have TT:=T0.trans TT;refine ag (v:=.agg #[m0,m1,m2,m3]) (by simp [results,results133,go_sem,hc]) rfl ⟨rfl,((((TT.sc).sc).sc).sc)⟩
   rw [aF hwd]at hA;rw [ak hwd]at hw;by_cases h8:kind=8
   ·rw [aG h8]at hA;obtain⟨⟨q0,q1⟩,q2,q3⟩:=hsm8 h8;subst h8;have hm:∀x y,x=s*Xf→y=s*value→∀w,Calls prog 184 #[r.v,x,y] w fun e w'=>e=.returned A.v∧bH [] w w':=(by rintro x y rfl rfl w;have:=hm (s*Xf) (s*value) hr (by rcases hs with rfl | rfl <;> omega) (by rcases hs with rfl | rfl <;> omega) (by rcases hs with rfl | rfl <;> omega) (by rcases hs with rfl | rfl <;> omega) w;rw [hA]at this;exact this);clear hA hg hsm1 hsm8;obtain⟨x0,y0,x1,y1⟩:=r;obtain⟨m0,m1,m2,m3⟩:=A;simp only [Rc.v]at *;have HV:=lh hv;have HE:=lh he;have HW:=lh hw;have HM:=lh hm;clear hv he hw hm hr hwd;rcases hs with rfl | rfl
    ·have T0:bH [] _ _:=(((tR w).alloc (.cells #[(8:Int),Xf,.slice kA kn kc,div,value,.slice cA cn cc] 83)).alloc (.cells #[x0,y0,x1,y1] 24)).alloc (.cells #[(0:Int),(0:Int),(0:Int),(0:Int)] 24);have TT:=T0.here;go_enter func133,ntmps133;go_wp2_with (first
      | (go_at_call 108;with_reducible refine TT.call (HV.o _ (T0.trans TT)) ?_;intro w1 TT hc hf)
      | (go_at_call 46;with_reducible refine TT.call (HE.o _) ?_;intro w2 TT hc hf)
      | (go_at_call 182;with_reducible refine TT.call (HW.o _) ?_;intro w3 TT hc hf)
      | (go_at_call 184;with_reducible refine TT.call (HM.o _ _ (by omega) (by omega) _) ?_;intro w5 TT hc hf)
      | fail)
     have TT:=T0.trans TT;refine ag (v:=.agg #[m0,m1,m2,m3]) (by simp [results,results133,go_sem,hc]) rfl ⟨rfl,((((TT.sc).sc).sc).sc)⟩
    have T0:bH [] _ _:=(((tR w).alloc (.cells #[(8:Int),Xf,.slice kA kn kc,div,value,.slice cA cn cc] 83)).alloc (.cells #[x0,y0,x1,y1] 24)).alloc (.cells #[(0:Int),(0:Int),(0:Int),(0:Int)] 24);have TT:=T0.here;go_enter func133,ntmps133;go_wp2_with (first
     | (go_at_call 108;with_reducible refine TT.call (HV.o _ (T0.trans TT)) ?_;intro w1 TT hc hf)
     | (go_at_call 46;with_reducible refine TT.call (HE.o _) ?_;intro w2 TT hc hf)
     | (go_at_call 182;with_reducible refine TT.call (HW.o _) ?_;intro w3 TT hc hf)
     | (go_at_call 184;with_reducible refine TT.call (HM.o _ _ (by omega) (by omega) _) ?_;intro w5 TT hc hf)
     | fail)
    have TT:=T0.trans TT;refine ag (v:=.agg #[m0,m1,m2,m3]) (by simp [results,results133,go_sem,hc]) rfl ⟨rfl,((((TT.sc).sc).sc).sc)⟩
   rw [aF h8]at hA;subst hA;clear hsm1 hsm8 hg hm hs hr;obtain⟨x0,y0,x1,y1⟩:=r;simp only [Rc.v]at *;have HV:=lh hv;have HE:=lh he;have HW:=lh hw;clear hv he hw;have T0:bH [] _ _:=(((tR w).alloc (.cells #[kind,Xf,.slice kA kn kc,div,value,.slice cA cn cc] 83)).alloc (.cells #[x0,y0,x1,y1] 24)).alloc (.cells #[(0:Int),(0:Int),(0:Int),(0:Int)] 24);have TT:=T0.here;go_enter func133,ntmps133;go_wp2_with (first
    | (go_at_call 108;with_reducible refine TT.call (HV.o _ (T0.trans TT)) ?_;intro w1 TT hc hf)
    | (go_at_call 46;with_reducible refine TT.call (HE.o _) ?_;intro w2 TT hc hf)
    | (go_at_call 182;with_reducible refine TT.call (HW.o _) ?_;intro w3 TT hc hf)
    | fail)
   have TT:=T0.trans TT;refine ag (v:=.agg #[x0,y0,x1,y1]) (by simp [results,results133,go_sem,hc]) rfl ⟨rfl,((((TT.sc).sc).sc).sc)⟩
theorem zJ(f:Fv)(ks cs:List Int)(r:Rc)(hr:r.bd)(w:World)(hk:dn w f.kA f.kn ks)(hc:dn w f.cA f.cn cs): Calls prog 97 #[f.v,r.v] w fun e w'=>e=.returned (f.area (jC f ks cs) r (1)).v∧bH [] w w':=by
 have ha:=fun w' (t:bH [] w w')=>Pg f ks cs r (1) (by omega) hr w' (hk.turn t) (hc.turn t);generalize f.area (jC f ks cs) r (1)=A at *;obtain⟨kind,Xf,kA,kn,kc,div,value,cA,cn,cc⟩:=f;obtain⟨x0,y0,x1,y1⟩:=r;obtain⟨m0,m1,m2,m3⟩:=A;clear hk hc hr;simp only [Fv.v,Rc.v]at *;have HA:=lh ha;clear ha;go_enter func97,ntmps97;go_wp2_with (first
  | (go_at_call 133;(with_reducible refine (HA.o _ (by first | exact ((((tR w).alloc _).alloc _).alloc _))).mono ?_);rintro e w1 ⟨rfl,ht⟩;have TT:=((((tR w).alloc _).alloc _).alloc _).trans ht;obtain⟨hc,hf⟩:=bY ht)
  | fail)
 refine ag (v:=.agg #[m0,m1,m2,m3]) (by simp [results,results97,go_sem,hc]) rfl ⟨rfl,((((TT.sc).sc).sc).sc)⟩
def Rk(x lo hi:Int): Bool:=decide (lo≤x) && decide (x≤hi)
theorem yx(x lo hi:Int)(w:World): Calls prog 179 #[x,lo,hi] w fun e w'=>e=.returned (.bool (Rk x lo hi))∧w=w':=by
 unfold Rk;go_enter func179,ntmps179;by_cases h0:lo≤x
 ·by_cases h1:x≤hi
  ·(go_wp2_with fail);go_ret;exact⟨by first | rfl | (simp;done) | (simp;omega),rfl⟩
  go_wp2_with fail
  go_ret;exact⟨by first | rfl | (simp;done) | (simp;omega),rfl⟩
 go_wp2_with fail
 go_ret;exact⟨by first | rfl | (simp;done) | (simp;omega),rfl⟩
theorem CP(k:Int)(w:World): Calls prog 127 #[k] w fun e w'=>e=.returned (.bool (Rk k 1 4))∧w=w':=by
 have hw:=yx k 1 4;generalize Rk k 1 4=b at *;have HW:=lh hw;clear hw;go_enter func127,ntmps127;go_wp2_with (go_at_call 179;refine (HW.o _).mono ?_;rintro e w1 ⟨rfl,rfl⟩)
 go_ret;exact⟨rfl,rfl⟩
theorem Mc(f:Fv)(ks cs:List Int)(hb:jC f ks cs=true)(r:Rc)(s:Int)(hs:s=1∨s=-1)(hr:r.bd)(w:World)(hv:∀w',bH [] w w'→Calls prog 126 #[f.v] w' fun e w2=>e=.returned (.bool true)∧bH [] w' w2): Calls prog 82 #[f.v,r.v,s] w fun e w'=>e=.returned (f.area (jC f ks cs) r s).v∧bH [] w w':=by
 have he:=iF r;obtain⟨hsm1,hsm8⟩:=xK f ks cs hb;have hw:=CP f.kind;have hg:=N7 r;have hm:=NF r;rw [hb];clear hb;generalize hA:f.area true r s=A at *;unfold Fv.area at hA;generalize r.empty=em at *;obtain⟨kind,Xf,kA,kn,kc,div,value,cA,cn,cc⟩:=f;simp only [Fv.v]at *;cases em with
 | true=>
  rw [aG (.inr rfl)]at hA;subst hA;obtain⟨x0,y0,x1,y1⟩:=r;simp only [Rc.v,Rc.zero]at *;have HV:=lh hv;have HE:=lh he;clear hv he hsm1 hsm8 hw hg hm hr hs;have T0:bH [] _ _:=(((tR w).alloc (.cells #[kind,Xf,.slice kA kn kc,div,value,.slice cA cn cc] 83)).alloc (.cells #[x0,y0,x1,y1] 24)).alloc (.cells #[(0:Int),(0:Int),(0:Int),(0:Int)] 24);have TT:=T0.here;go_enter func82,ntmps82;go_wp2_with (first
   | (go_at_call 126;with_reducible refine TT.call (HV.o _ (T0.trans TT)) ?_;intro w1 TT hc hf)
   | (go_at_call 18;with_reducible refine TT.call (HE.o _) ?_;intro w2 TT hc hf)
   | fail)
  have TT:=T0.trans TT;refine ag (v:=.agg #[(0:Int),(0:Int),(0:Int),(0:Int)]) (by simp [results,results82,go_sem,hc]) rfl ⟨rfl,((((TT.sc).sc).sc).sc)⟩
 | false=>
  rw [aF (by simp)]at hA;by_cases hwd:1≤kind∧kind≤4
  ·rw [aG hwd]at hA;obtain⟨q0,q1⟩:=hsm1 hwd;have hbt:Rk kind 1 4=true:=(by simp [Rk];omega);rw [hbt]at hw;have hg:=hg Xf hr (by omega) (by omega);rw [hA]at hg;clear hA hm hs hsm1 hsm8 hbt;obtain⟨x0,y0,x1,y1⟩:=r;obtain⟨m0,m1,m2,m3⟩:=A;simp only [Rc.v]at *;have HV:=lh hv;have HE:=lh he;have HW:=lh hw;have HG:=lh hg;clear hv he hw hg hr hwd q0 q1;have T0:bH [] _ _:=(((tR w).alloc (.cells #[kind,Xf,.slice kA kn kc,div,value,.slice cA cn cc] 83)).alloc (.cells #[x0,y0,x1,y1] 24)).alloc (.cells #[(0:Int),(0:Int),(0:Int),(0:Int)] 24);have TT:=T0.here;go_enter func82,ntmps82;go_wp2_with (first
    | (go_at_call 126;with_reducible refine TT.call (HV.o _ (T0.trans TT)) ?_;intro w1 TT hc hf)
    | (go_at_call 18;with_reducible refine TT.call (HE.o _) ?_;intro w2 TT hc hf)
    | (go_at_call 127;(with_reducible refine (HW.o _).mono ?_);rintro e w3 ⟨rfl,rfl⟩)
    | (go_at_call 128;with_reducible refine TT.call (HG.o _) ?_;intro w4 TT hc hf)
    | fail)
   have TT:=T0.trans TT;refine ag (v:=.agg #[m0,m1,m2,m3]) (by simp [results,results82,go_sem,hc]) rfl ⟨rfl,((((TT.sc).sc).sc).sc)⟩
  rw [aF hwd]at hA;have hbt:Rk kind 1 4=false:=by simp [Rk];omega
  rw [hbt]at hw;clear hbt;by_cases h8:kind=8
  ·rw [aG h8]at hA;obtain⟨⟨q0,q1⟩,q2,q3⟩:=hsm8 h8;subst h8;have hm:∀x y,x=s*Xf→y=s*value→∀w,Calls prog 129 #[r.v,x,y] w fun e w'=>e=.returned A.v∧bH [] w w':=(by rintro x y rfl rfl w;have:=hm (s*Xf) (s*value) hr (by rcases hs with rfl | rfl <;> omega) (by rcases hs with rfl | rfl <;> omega) (by rcases hs with rfl | rfl <;> omega) (by rcases hs with rfl | rfl <;> omega) w;rw [hA]at this;exact this);clear hA hg hsm1 hsm8;obtain⟨x0,y0,x1,y1⟩:=r;obtain⟨m0,m1,m2,m3⟩:=A;simp only [Rc.v]at *;have HV:=lh hv;have HE:=lh he;have HW:=lh hw;have HM:=lh hm;clear hv he hw hm hr hwd;rcases hs with rfl | rfl
   ·have T0:bH [] _ _:=(((tR w).alloc (.cells #[(8:Int),Xf,.slice kA kn kc,div,value,.slice cA cn cc] 83)).alloc (.cells #[x0,y0,x1,y1] 24)).alloc (.cells #[(0:Int),(0:Int),(0:Int),(0:Int)] 24);have TT:=T0.here;go_enter func82,ntmps82;go_wp2_with (first
     | (go_at_call 126;with_reducible refine TT.call (HV.o _ (T0.trans TT)) ?_;intro w1 TT hc hf)
     | (go_at_call 18;with_reducible refine TT.call (HE.o _) ?_;intro w2 TT hc hf)
     | (go_at_call 127;(with_reducible refine (HW.o _).mono ?_);rintro e w3 ⟨rfl,rfl⟩)
     | (go_at_call 129;with_reducible refine TT.call (HM.o _ _ (by omega) (by omega) _) ?_;intro w5 TT hc hf)
     | fail)
    have TT:=T0.trans TT;refine ag (v:=.agg #[m0,m1,m2,m3]) (by simp [results,results82,go_sem,hc]) rfl ⟨rfl,((((TT.sc).sc).sc).sc)⟩
   have T0:bH [] _ _:=(((tR w).alloc (.cells #[(8:Int),Xf,.slice kA kn kc,div,value,.slice cA cn cc] 83)).alloc (.cells #[x0,y0,x1,y1] 24)).alloc (.cells #[(0:Int),(0:Int),(0:Int),(0:Int)] 24);have TT:=T0.here;go_enter func82,ntmps82;go_wp2_with (first
    | (go_at_call 126;with_reducible refine TT.call (HV.o _ (T0.trans TT)) ?_;intro w1 TT hc hf)
    | (go_at_call 18;with_reducible refine TT.call (HE.o _) ?_;intro w2 TT hc hf)
    | (go_at_call 127;(with_reducible refine (HW.o _).mono ?_);rintro e w3 ⟨rfl,rfl⟩)
    | (go_at_call 129;with_reducible refine TT.call (HM.o _ _ (by omega) (by omega) _) ?_;intro w5 TT hc hf)
    | fail)
   have TT:=T0.trans TT;refine ag (v:=.agg #[m0,m1,m2,m3]) (by simp [results,results82,go_sem,hc]) rfl ⟨rfl,((((TT.sc).sc).sc).sc)⟩
  rw [aF h8]at hA;subst hA;clear hsm1 hsm8 hg hm hs hr;obtain⟨x0,y0,x1,y1⟩:=r;simp only [Rc.v]at *;have HV:=lh hv;have HE:=lh he;have HW:=lh hw;clear hv he hw;have T0:bH [] _ _:=(((tR w).alloc (.cells #[kind,Xf,.slice kA kn kc,div,value,.slice cA cn cc] 83)).alloc (.cells #[x0,y0,x1,y1] 24)).alloc (.cells #[(0:Int),(0:Int),(0:Int),(0:Int)] 24);have TT:=T0.here;go_enter func82,ntmps82;go_wp2_with (first
   | (go_at_call 126;with_reducible refine TT.call (HV.o _ (T0.trans TT)) ?_;intro w1 TT hc hf)
   | (go_at_call 18;with_reducible refine TT.call (HE.o _) ?_;intro w2 TT hc hf)
   | (go_at_call 127;(with_reducible refine (HW.o _).mono ?_);rintro e w3 ⟨rfl,rfl⟩)
   | fail)
  have TT:=T0.trans TT;refine ag (v:=.agg #[x0,y0,x1,y1]) (by simp [results,results82,go_sem,hc]) rfl ⟨rfl,((((TT.sc).sc).sc).sc)⟩
theorem Gg(f:Fv)(ks cs:List Int)(hb:jC f ks cs=true)(r:Rc)(hr:r.bd)(w:World)(hv:∀w',bH [] w w'→Calls prog 126 #[f.v] w' fun e w2=>e=.returned (.bool true)∧bH [] w' w2): Calls prog 90 #[f.v,r.v] w fun e w'=>e=.returned (f.area (jC f ks cs) r (1)).v∧bH [] w w':=by
 have ha:=fun w' (t:bH [] w w')=>Mc f ks cs hb r (1) (by omega) hr w' (fun w2 t2=>hv w2 (t.trans t2));generalize f.area (jC f ks cs) r (1)=A at *;obtain⟨kind,Xf,kA,kn,kc,div,value,cA,cn,cc⟩:=f;obtain⟨x0,y0,x1,y1⟩:=r;obtain⟨m0,m1,m2,m3⟩:=A;clear hr hv hb;simp only [Fv.v,Rc.v]at *;have HA:=lh ha;clear ha;go_enter func90,ntmps90;go_wp2_with (first
  | (go_at_call 82;(with_reducible refine (HA.o _ (by first | exact ((((tR w).alloc _).alloc _).alloc _))).mono ?_);rintro e w1 ⟨rfl,ht⟩;have TT:=((((tR w).alloc _).alloc _).alloc _).trans ht;obtain⟨hc,hf⟩:=bY ht)
  | fail)
 refine ag (v:=.agg #[m0,m1,m2,m3]) (by simp [results,results90,go_sem,hc]) rfl ⟨rfl,((((TT.sc).sc).sc).sc)⟩
theorem LD(x:Int)(w:World): Calls prog 220 #[x] w fun e w'=>e=.returned (.bool false)∧w=w':=by
 go_enter func220,ntmps220;go_wp2_with fail
 go_ret;exact⟨by first | rfl | (simp;done),rfl⟩
theorem OX(x y:Int)(h:y≤x)(w:World): Calls prog 213 #[x,y] w fun e w'=>e=.returned (.bool false)∧w=w':=by
 have H:=lh (LD x);have hd:decide (x<y)=false:=ak (by omega);go_enter func213,ntmps213;go_wp2_with (go_at_call 220;refine (H.o _).mono ?_;rintro e w1 ⟨rfl,rfl⟩)
 go_ret;exact⟨by first | rfl | (simp;done) | (simp;omega),rfl⟩
theorem EC(n:Int)(h0:2≤n)(h1:n≤257)(w:World): Calls prog 202 #[n] w fun e w'=>e=.returned (.bool true)∧w=w':=by
 go_enter func202,ntmps202;go_wp2_with fail
 go_ret;exact⟨by first | rfl | (simp;done) | (simp;omega),rfl⟩
theorem FD(c:List Int)(g o:Nat)(n cap:Nat)(h2:2≤n)(h3:n≤257)(w:World)(hA:∀j,j<n→w.cell? ⟨g,o+j,none⟩=some (.int .i64 (c.getD j 0)))(hs:∀j,0<j→j<n→c.getD (j - 1) 0≤c.getD j 0):
  Calls prog 203 #[.slice (some ⟨g,o,none⟩) n cap] w fun e w'=>e=.returned (.bool true)∧∃m,w'=w.drewN m:=by
 have HA:=lh hA;have HS:=lh hs;have hl:∀(x y:Int),y≤x→∀w,Calls prog 213 #[x,y] w fun e w'=>e=.returned (.bool false)∧w'=w:=fun x y h w=>(OX x y h w).mono fun _ _ ⟨a,b⟩=>⟨a,b.symm⟩;have HL:=lh hl;clear hl;clear hA hs;go_enter func203,ntmps203;go_wp2_with fail
 go_loopw [3] (fun s3 wr=>∃k:Nat,k<n∧s3=k∧∃q,wr=w.drewN q) (fun s3 _=>(intOf s3).toNat);case atStart=>exact⟨n - 1,by omega,by congr 1;omega,0,rfl⟩
 obtain⟨k,hk,rfl,q,hq⟩:=hrel;have T:=(tR w).drawn q;rw [←hq]at T;have HQ:=lh hq;clear hq;cases k with
 | zero=>
  go_wp2_with fail
  go_ret;exact⟨rfl,q,HQ.o⟩
 | succ m=>
  have h1:=HA.o (m+1) hk;have h0:=HA.o m (by omega);rw [←(bY T).1 g _ (ai h1)]at h1;rw [←(bY T).1 g _ (ai h0)]at h0;have hle:=HS.o (m+1) (by omega) hk;have e1:m+1 - 1=m:=by omega
  rw [e1]at hle;clear e1;generalize c.getD (m+1) 0=x at *;generalize c.getD m 0=y at *;have HLE:=lh hle;clear hle;have hd2:decide ((0:Int)<((m:Int)+1))=true:=aC (by omega);have hw1:IntKind.i64.wrap (m:Int)=(m:Int):=IntWalk.i64_in _ ⟨by omega,by omega⟩;have b0:(0:Int)≤(m:Int)+1:=by omega
  have b1:(m:Int)+1<(n:Int):=by omega
  have b2:(m:Int)<(n:Int):=by omega
  go_wp2_with fail
  go_quiet ((go_at_call 213;exact Calls.quiet_of_same (HL.o _ _ HLE.o _)))
  go_wp2_with fail
  go_roundw;case rel=>exact⟨m,by omega,by go_num,_,by rw [HQ.o,World.drewN_drewN]⟩
  simp [intOf]
theorem oK(c:List Int)(hc:jh c=true)(A:Option Addr)(n cap:Nat)(w:World)(hi:dn w A n c):
  Calls prog 181 #[.slice A n cap] w fun e w'=>e=.returned (.bool true)∧bH [] w w':=by
 simp only [jh,az,decide_eq_true_eq,aZ,aX]at hc;obtain⟨⟨h2,h3⟩,hall⟩:=hc;obtain⟨hn,hA⟩:=hi;rw [←hn]at h2 h3 hall;obtain⟨g,o,rfl,_⟩:=hA 0 (by omega);have hA':∀j,j<n→w.cell? ⟨g,o+j,none⟩=some (.int .i64 (c.getD j 0)):=by intro j hj;obtain⟨g',o',e,h⟩:=hA j hj;injection e with e;injection e with e1 e2 e3;subst e1;subst e2;exact h
 have hs:∀j,0<j→j<n→c.getD (j - 1) 0≤c.getD j 0:=by intro j h0 h1;have:=hall j h1;simp only [mY,az,Bool.or_eq_true,decide_eq_true_eq,beq_iff_eq]at this;omega
 have a0:=hall 0 (by omega);have a1:=hall (n - 1) (by omega);simp only [mY,az,decide_eq_true_eq]at a0 a1;have z0:=hA' 0 (by omega);have z1:=hA' (n - 1) (by omega);have hp:=EC n (by omega) (by omega);have hq:=fun w' (t:bH [] w w')=>FD c g o n cap h2 h3 w' (fun j hj=>by rw [(bY t).1 g _ (ai (hA' j hj))];exact hA' j hj) hs;have d0:decide (0≤c.getD 0 0)=true:=aC a0.1.1;have d1:decide (c.getD (n - 1) 0≤65535)=true:=aC a1.1.2;clear hA hA' hall hs a0 a1 hn;generalize c.getD 0 0=x at *;generalize c.getD (n - 1) 0=y at *;have HP:=lh hp;have HQ:=lh hq;clear hp hq;obtain⟨m,rfl⟩:∃m,n=m+1:=⟨n - 1,by omega⟩;have e1:m+1 - 1=m:=by omega
 rw [e1]at z1;clear e1;have z0:w.cell? ⟨g,o,none⟩=some (.int .i64 x):=z0;have b1:(m:Int)<(m:Int)+1:=by omega
 have hw1:IntKind.i64.wrap (m:Int)=(m:Int):=IntWalk.i64_in _ ⟨by omega,by omega⟩;go_enter func181,ntmps181;go_wp2_with (first
  | (go_at_call 202;refine (HP.o _).mono ?_;rintro e w1 ⟨rfl,rfl⟩)
  | (go_at_call 203;refine (HQ.o _ (tR w)).mono ?_;rintro e w2 ⟨rfl,q,rfl⟩)
  | fail)
 go_ret;exact⟨rfl,(tR w).drawn q⟩
theorem ji(x lo hi:Int)(h0:lo≤x)(h1:x≤hi)(w:World): Calls prog 179 #[x,lo,hi] w fun e w'=>e=.returned (.bool true)∧w=w':=by
 have h:=yx x lo hi w;have hb:Rk x lo hi=true:=by simp [Rk,h0,h1]
 rw [hb]at h;exact h
theorem oL{f:Fv}{v c r:Bool}(h:f.plain false v c r=true): f.kn=0∧f.div=0:=by simp [Fv.plain]at h;exact h.1.1.1
theorem zG{f:Fv}{k c r:Bool}(h:f.plain k false c r=true): f.value=0:=by simp [Fv.plain]at h;exact h.1.1.2
theorem oG{f:Fv}{k v r:Bool}(h:f.plain k v false r=true): f.cn=0:=by simp [Fv.plain]at h;exact h.1.2
theorem FM{f:Fv}{k v c:Bool}(h:f.plain k v c false=true): f.Xf=0:=by simp [Fv.plain]at h;exact h.2
theorem O4(f:Fv)(hk:f.kind=6)(hp:f.plain false false false false=true)(w:World): Calls prog 126 #[f.v] w fun e w'=>e=.returned (.bool true)∧bH [] w w':=by
 obtain⟨kz,dz⟩:=oL hp;have vz:=zG hp;have cz:=oG hp;have rz:=FM hp;clear hp;obtain⟨kind,Xf,kA,kn,kc,div,value,cA,cn,cc⟩:=f;simp only [Fv.v]at *;subst kz dz;subst vz;subst cz;subst rz;subst hk;all_goals
  go_enter func126,ntmps126;go_wp2_with (first
   | fail)
  go_ret;exact⟨by first | rfl | (simp;done),((tR w).alloc _).alloc _⟩
theorem OL(f:Fv)(hk:f.kind=2∨f.kind=3∨f.kind=4)(hp:f.plain false false false true=true)(hw:0≤f.Xf∧f.Xf≤3)(w:World): Calls prog 126 #[f.v] w fun e w'=>e=.returned (.bool true)∧bH [] w w':=by
 obtain⟨kz,dz⟩:=oL hp;have vz:=zG hp;have cz:=oG hp;clear hp;obtain⟨kind,Xf,kA,kn,kc,div,value,cA,cn,cc⟩:=f;simp only [Fv.v]at *;subst kz dz;subst vz;subst cz;obtain⟨r0,r1⟩:=hw;rcases hk with rfl | rfl | rfl;all_goals
  go_enter func126,ntmps126;go_wp2_with (first
   | (go_at_call 179;refine (ji _ _ _ (by omega) (by omega) _).mono ?_;rintro e w1 ⟨rfl,rfl⟩)
   | fail)
  go_ret;exact⟨by first | rfl | (simp;done),((tR w).alloc _).alloc _⟩
theorem QI(f:Fv)(hk:f.kind=7)(hp:f.plain false true false false=true)(hw:0≤f.value∧f.value≤256)(w:World): Calls prog 126 #[f.v] w fun e w'=>e=.returned (.bool true)∧bH [] w w':=by
 obtain⟨kz,dz⟩:=oL hp;have cz:=oG hp;have rz:=FM hp;clear hp;obtain⟨kind,Xf,kA,kn,kc,div,value,cA,cn,cc⟩:=f;simp only [Fv.v]at *;subst kz dz;subst cz;subst rz;obtain⟨r0,r1⟩:=hw;subst hk;all_goals
  go_enter func126,ntmps126;go_wp2_with (first
   | (go_at_call 179;refine (ji _ _ _ (by omega) (by omega) _).mono ?_;rintro e w1 ⟨rfl,rfl⟩)
   | fail)
  go_ret;exact⟨by first | rfl | (simp;done),((tR w).alloc _).alloc _⟩
theorem P8(f:Fv)(hk:f.kind=8)(hp:f.plain false true false true=true)(hw:(-3≤f.Xf∧f.Xf≤3)∧-3≤f.value∧f.value≤3)(w:World): Calls prog 126 #[f.v] w fun e w'=>e=.returned (.bool true)∧bH [] w w':=by
 obtain⟨kz,dz⟩:=oL hp;have cz:=oG hp;clear hp;obtain⟨kind,Xf,kA,kn,kc,div,value,cA,cn,cc⟩:=f;simp only [Fv.v]at *;subst kz dz;subst cz;obtain⟨⟨r0,r1⟩,r2,r3⟩:=hw;subst hk;all_goals
  go_enter func126,ntmps126;go_wp2_with (first
   | (go_at_call 179;refine (ji _ _ _ (by omega) (by omega) _).mono ?_;rintro e w1 ⟨rfl,rfl⟩)
   | fail)
  go_region;go_wp2_with (first
   | (go_at_call 179;refine (ji _ _ _ (by omega) (by omega) _).mono ?_;rintro e w1 ⟨rfl,rfl⟩)
   | fail)
  go_ret;exact⟨by first | rfl | (simp;done),(((tR w).alloc _).alloc _).drawn 1⟩
theorem LU(f:Fv)(hk:f.kind=5)(hp:f.plain false false true false=true)(cs:List Int)(hcs:jh cs=true)(w:World)(hc:dn w f.cA f.cn cs): Calls prog 126 #[f.v] w fun e w'=>e=.returned (.bool true)∧bH [] w w':=by
 obtain⟨kz,dz⟩:=oL hp;have vz:=zG hp;have rz:=FM hp;clear hp;obtain⟨kind,Xf,kA,kn,kc,div,value,cA,cn,cc⟩:=f;simp only [Fv.v]at *;subst kz dz;subst vz;subst rz;have hv:=fun w' (t:bH [] w w')=>oK cs hcs cA cn cc w' (hc.turn t);have HC:=lh hv;clear hv hc hcs;subst hk;all_goals
  go_enter func126,ntmps126;go_wp2_with (first
   | (go_at_call 181;refine (HC.o _ (by first | exact (((tR w).alloc _).alloc _))).mono ?_;rintro e w1 ⟨rfl,ht⟩;obtain⟨hc,hf⟩:=bY ht)
   | fail)
  go_ret;exact⟨by first | rfl | (simp;done),(((tR w).alloc _).alloc _).trans ht⟩
theorem OW(k:Int)(h:lm 4096 k=true)(w:World): Calls prog 178 #[k] w fun e w'=>e=.returned (.bool false)∧w'=w:=by
 obtain⟨h0,h1⟩:=yS.1 h;go_enter func178,ntmps178;go_wp2_with (go_at_call 179;refine (ji _ _ _ (by omega) (by omega) _).mono ?_;rintro e w1 ⟨rfl,rfl⟩)
 go_ret;exact⟨by first | rfl | (simp;done),rfl⟩
theorem NI(ks:List Int)(hb:ks.all (lm 4096)=true)(g o n cap:Nat)(hn:n=ks.length)(hl:n≤100)(w:World)(hA:∀j,j<n→w.cell? ⟨g,o+j,none⟩=some (.int .i64 (ks.getD j 0))):
  Calls prog 201 #[.slice (some ⟨g,o,none⟩) n cap,.func (.func 178) #[] #[]] w fun e w'=>e=.returned (.int .i64 (-1))∧w'=w:=by
 have hall:∀j,j<n→lm 4096 (ks.getD j 0)=true:=by
  intro j hj;have:ks.getD j 0∈ks:=by simp [List.getD,show j<ks.length by omega]
  exact aZ.1 hb _ this
 have HA:=lh hA;have HALL:=lh hall;clear hA hall hb hn;go_enter func201,ntmps201;go_wp2_with fail
 go_loop [8] (fun s8=>∃k:Nat,k≤n∧s8=k) (fun s8=>n - (intOf s8).toNat);case atStart=>exact⟨0,by omega,rfl⟩
 obtain⟨k,hk,rfl⟩:=hrel;by_cases hlt:k<n
 ·have hcell:=HA.o k hlt;have hq:=OW _ (HALL.o k hlt);generalize ks.getD k 0=z at *;have HQ:=lh hq;clear hq;go_wp2_with (first
   | (go_at_call 178;refine (HQ.o _).mono ?_;rintro e w1 ⟨rfl,rfl⟩)
   | fail)
  go_round;case rel=>exact⟨k+1,by omega,by go_num⟩
  simp [intOf];omega
 obtain rfl:k=n:=by omega
 go_wp2_with fail
 go_ret;exact⟨rfl,rfl⟩
theorem Ff(ks:List Int)(hb:ks.all (lm 4096)=true)(g o n cap:Nat)(hn:n=ks.length)(hl:n≤100)(w:World)(hA:∀j,j<n→w.cell? ⟨g,o+j,none⟩=some (.int .i64 (ks.getD j 0))):
  Calls prog 180 #[.slice (some ⟨g,o,none⟩) n cap,.func (.func 178) #[] #[]] w fun e w'=>e=.returned (.bool false)∧w'=w:=by
 have HI:=lh (NI ks hb g o n cap hn hl w hA);clear hA hb hn;go_enter func180,ntmps180;go_wp2_with (go_at_call 201;refine HI.o.mono ?_;rintro e w1 ⟨rfl,rfl⟩)
 go_ret;exact⟨by first | rfl | (simp;done),rfl⟩
theorem Nu(f:Fv)(hk:f.kind=1)(ks:List Int)(hh:f.headB=true)(hb:ks.all (lm 4096)=true)(hp:f.plain true false false true=true)(w:World)(hi:dn w f.kA f.kn ks): Calls prog 126 #[f.v] w fun e w'=>e=.returned (.bool true)∧bH [] w w':=by
 have vz:=zG hp;have cz:=oG hp;clear hp;simp only [Fv.headB,Fv.win,az,decide_eq_true_eq,beq_iff_eq]at hh;obtain⟨⟨⟨⟨r0,r1⟩,hs⟩,d0⟩,d1⟩:=hh;obtain⟨kind,Xf,kA,kn,kc,div,value,cA,cn,cc⟩:=f;simp only [Fv.v]at *;subst vz cz hk;obtain⟨hn,hA⟩:=hi;have hk1:1≤kn∧kn≤49:=by
  have h3:Xf=0∨Xf=1∨Xf=2∨Xf=3:=by omega
  rcases h3 with rfl | rfl | rfl | rfl <;> simp only [pO,Int.reduceMul,Int.reduceAdd]at hs <;> omega
 obtain⟨g,o,rfl,_⟩:=hA 0 (by omega);have hA':∀j,j<kn→w.cell? ⟨g,o+j,none⟩=some (.int .i64 (ks.getD j 0)):=by intro j hj;obtain⟨g',o',e,h⟩:=hA j hj;injection e with e;injection e with e1 e2 e3;subst e1;subst e2;exact h
 have hc:=fun w' (t:bH [] w w')=>Ff ks hb g o kn kc hn (by omega) w' (fun j hj=>by rw [(bY t).1 g _ (ai (hA' j hj))];exact hA' j hj);clear hA hA' hn hb;obtain⟨k0,k1⟩:=hk1;have h3:Xf=0∨Xf=1∨Xf=2∨Xf=3:=by omega
 clear r0 r1;rcases h3 with rfl | rfl | rfl | rfl <;> simp only [pO,Int.reduceMul,Int.reduceAdd]at hs
 ·obtain rfl:kn=1:=by omega
  clear hs k0 k1;have HC:=lh hc;clear hc;go_enter func126,ntmps126;go_wp2_with fail
  go_region;go_wp2_with (first
   | (go_at_call 179;refine (ji _ _ _ (by omega) (by omega) _).mono ?_;rintro e w1 ⟨rfl,rfl⟩)
   | (go_at_call 180;refine (HC.o _ ((((tR w).alloc _).alloc _).drawn 1)).mono ?_;rintro e w1 ⟨rfl,rfl⟩)
   | fail)
  go_ret;exact⟨by first | rfl | (simp;done),(((tR w).alloc _).alloc _).drawn 1⟩
 ·obtain rfl:kn=9:=by omega
  clear hs k0 k1;have HC:=lh hc;clear hc;go_enter func126,ntmps126;go_wp2_with fail
  go_region;go_wp2_with (first
   | (go_at_call 179;refine (ji _ _ _ (by omega) (by omega) _).mono ?_;rintro e w1 ⟨rfl,rfl⟩)
   | (go_at_call 180;refine (HC.o _ ((((tR w).alloc _).alloc _).drawn 1)).mono ?_;rintro e w1 ⟨rfl,rfl⟩)
   | fail)
  go_ret;exact⟨by first | rfl | (simp;done),(((tR w).alloc _).alloc _).drawn 1⟩
 ·obtain rfl:kn=25:=by omega
  clear hs k0 k1;have HC:=lh hc;clear hc;go_enter func126,ntmps126;go_wp2_with fail
  go_region;go_wp2_with (first
   | (go_at_call 179;refine (ji _ _ _ (by omega) (by omega) _).mono ?_;rintro e w1 ⟨rfl,rfl⟩)
   | (go_at_call 180;refine (HC.o _ ((((tR w).alloc _).alloc _).drawn 1)).mono ?_;rintro e w1 ⟨rfl,rfl⟩)
   | fail)
  go_ret;exact⟨by first | rfl | (simp;done),(((tR w).alloc _).alloc _).drawn 1⟩
 obtain rfl:kn=49:=by omega
 clear hs k0 k1;have HC:=lh hc;clear hc;go_enter func126,ntmps126;go_wp2_with fail
 go_region;go_wp2_with (first
  | (go_at_call 179;refine (ji _ _ _ (by omega) (by omega) _).mono ?_;rintro e w1 ⟨rfl,rfl⟩)
  | (go_at_call 180;refine (HC.o _ ((((tR w).alloc _).alloc _).drawn 1)).mono ?_;rintro e w1 ⟨rfl,rfl⟩)
  | fail)
 go_ret;exact⟨by first | rfl | (simp;done),(((tR w).alloc _).alloc _).drawn 1⟩
theorem Bc(f:Fv)(ks cs:List Int)(hb:jC f ks cs=true)(w:World)(hk:dn w f.kA f.kn ks)(hc:dn w f.cA f.cn cs): Calls prog 126 #[f.v] w fun e w'=>e=.returned (.bool true)∧bH [] w w':=by
 obtain⟨hs1,hs8⟩:=xK f ks cs hb;unfold jC at hb;by_cases h1:f.kind=1
 ·rw [aG h1,az,az]at hb;exact Nu f h1 ks hb.1.1 hb.1.2 hb.2 w hk
 rw [aF h1]at hb;by_cases h2:f.kind=2∨f.kind=3∨f.kind=4
 ·rw [aG h2,az]at hb;exact OL f h2 hb.2 (hs1 (by omega)) w
 rw [aF h2]at hb;by_cases h5:f.kind=5
 ·rw [aG h5,az]at hb;exact LU f h5 hb.2 cs hb.1 w hc
 rw [aF h5]at hb;by_cases h6:f.kind=6
 ·rw [aG h6]at hb;exact O4 f h6 hb w
 rw [aF h6]at hb;by_cases h7:f.kind=7
 ·rw [aG h7]at hb;simp only [az,decide_eq_true_eq]at hb;exact QI f h7 hb.2 hb.1 w
 rw [aF h7]at hb;by_cases h8:f.kind=8
 ·rw [aG h8,az]at hb;exact P8 f h8 hb.2 (hs8 h8) w
 rw [aF h8]at hb;exact absurd hb (by simp)
theorem yH(f:Fv)(ks cs:List Int)(hb:jC f ks cs=true)(r:Rc)(hr:r.bd)(w:World)(hk:dn w f.kA f.kn ks)(hc:dn w f.cA f.cn cs): Calls prog 90 #[f.v,r.v] w fun e w'=>e=.returned (f.area (jC f ks cs) r 1).v∧bH [] w w':=
 Gg f ks cs hb r hr w fun w' t=>Bc f ks cs hb w' (hk.turn t) (hc.turn t)
def tv(px:List Int): Value:=.agg ⟨px.map (Value.int .u8)⟩
def al(px:List Int)(i:Nat): Int:=px.getD (i*4+3) 0
def oO(px:List Int): Bool:=(List.range 64).all fun i=>al px i == 0
theorem QA(px:List Int)(u:World)(ty:TypeId)(j:Nat)(hj:j<px.length): (u.alloc (.cells ⟨px.map (Value.int .u8)⟩ ty)).cell? ⟨u,j,none⟩=some (.int .u8 (px.getD j 0)):=by rw [aA _ _ _ _ ty (0,0) (heap_alloc_new u _)];simp [List.getD,hj]
theorem GV(px:List Int)(hl:px.length=256)(w:World):
  Calls prog 152 #[tv px] w fun e w'=>e=.returned (.bool (oO px))∧bH [] w w':=by
 have hC:∀k,k<64→(w.alloc (.cells ⟨px.map (Value.int .u8)⟩ 66)).cell? ⟨w,k*4+3,none⟩=some (.int .u8 (al px k)):=fun k hk=>QA px w _ _ (by omega);have T:=(tR w).alloc (.cells ⟨px.map (Value.int .u8)⟩ 66);unfold tv;generalize (⟨px.map (Value.int .u8)⟩:Array Value)=cs at *;have HC:=lh hC;clear hC;go_enter func152,ntmps152;go_wp2_with fail
 generalize w.alloc (.cells cs 66)=W at *;go_loop [3] (fun s3=>∃k:Nat,k≤64∧s3=k∧∀i,i<k→al px i=0) (fun s3=>64 - (intOf s3).toNat);case atStart=>exact⟨0,by omega,rfl,fun i hi=>absurd hi (aU i)⟩
 obtain⟨k,hk,rfl,hall⟩:=hrel;have HA:=lh hall;clear hall;by_cases hlt:k<64
 ·have hcell:=HC.o k hlt;generalize hz:al px k=z at *;have HZ:=lh hz;clear hz;by_cases h0:z=0
  ·subst h0;(go_wp2_with fail);go_round;case rel=>exact⟨k+1,by omega,by go_num,fun i hi=>by
    by_cases h:i<k
    ·exact HA.o i h
    obtain rfl:i=k:=(by omega);exact HZ.o⟩
   simp [intOf];omega
  go_wp2_with fail
  go_ret;have:oO px=false:=List.all_eq_false.2 ⟨k,aX.2 hlt,by simp [HZ.o,h0]⟩;exact⟨by rw [this];rfl,T⟩
 obtain rfl:k=64:=by omega
 go_wp2_with fail
 go_ret;have:oO px=true:=aZ.2 fun i hi=>by simp [HA.o i (aX.1 hi)]
 exact⟨by rw [this];rfl,T⟩
def uG(x y:Int): Bool:=decide (x < -65536) || decide (y < -65536) || decide (65536<x) || decide (65536<y)
theorem SC(x y:Int)(w:World): Calls prog 190 #[.agg #[x,y]] w fun e w'=>e=.returned (.bool (uG x y))∧bH [] w w':=by
 unfold uG;by_cases h0:x < -65536
 ·go_enter func190,ntmps190;go_wp2_with fail
  go_ret;exact⟨by first | rfl | (simp;done) | (simp;omega),(tR w).alloc _⟩
 by_cases h1:y < -65536
 ·go_enter func190,ntmps190;go_wp2_with fail
  go_ret;exact⟨by first | rfl | (simp;done) | (simp;omega),(tR w).alloc _⟩
 by_cases h2:65536<x
 ·go_enter func190,ntmps190;go_wp2_with fail
  go_ret;exact⟨by first | rfl | (simp;done) | (simp;omega),(tR w).alloc _⟩
 by_cases h3:65536<y
 ·go_enter func190,ntmps190;go_wp2_with fail
  go_ret;exact⟨by first | rfl | (simp;done) | (simp;omega),(tR w).alloc _⟩
 go_enter func190,ntmps190;go_wp2_with fail
 go_ret;exact⟨by first | rfl | (simp;done) | (simp;omega),(tR w).alloc _⟩
theorem Sl(x y:Int)(h:uG x y=false)(w:World): Calls prog 188 #[.agg #[x,y]] w fun e w'=>e=.returned (.bool false)∧bH [] w w':=by
 simp only [uG,Bool.or_eq_false_iff,decide_eq_false_iff_not]at h;obtain⟨⟨⟨h0,h1⟩,h2⟩,h3⟩:=h;have d0:decide (min x y < -65536)=false:=ak (by omega);have d1:decide (65536<max x y)=false:=ak (by omega);have H2:=lh h2;have H3:=lh h3;clear h0 h1 h2 h3;go_enter func188,ntmps188;go_wp2_with (first
  | (refine iV rfl _ _ rfl rfl rfl ?_)
  | (refine iG rfl _ _ rfl rfl rfl ?_)
  | fail)
 all_goals
  go_ret;have e2:=H2.o;have e3:=H3.o;exact⟨by first | rfl | (simp;done) | (simp;omega),(tR w).alloc _⟩
def jy(ps:List (Int×Int)): Bool:=decide (3≤ps.length) && decide (ps.length≤64) && ps.all (fun p=>!uG p.1 p.2)
def iL(w:World)(A:Option Addr)(n:Nat)(ps:List (Int×Int)): Prop:=n=ps.length∧∀j,j<n→∃g o,A=some ⟨g,o,none⟩∧w.cell? ⟨g,o+j*2,none⟩=some (.int .i64 (ps.getD j (0,0)).1)∧w.cell? ⟨g,o+j*2+1,none⟩=some (.int .i64 (ps.getD j (0,0)).2)
theorem iL.turn{w w':World}{A:Option Addr}{n:Nat}{ps:List (Int×Int)}(h:iL w A n ps)(t:bH [] w w'): iL w' A n ps:=by
 refine⟨h.1,fun j hj=>?_⟩;obtain⟨g,o,e,hc,hd⟩:=h.2 j hj;refine⟨g,o,e,?_,?_⟩
 ·rw [(bY t).1 g _ (ai hc)];exact hc
 rw [(bY t).1 g _ (ai hd)];exact hd
theorem Ql(ps:List (Int×Int))(A:Option Addr)(n cap:Nat)(w:World)(hi:iL w A n ps)(h1:3≤n)(h2:n≤64):
  Calls prog 150 #[.slice A n cap] w fun e w'=>e=.returned (.bool (jy ps))∧bH [] w w':=by
 obtain⟨hn,hA⟩:=hi;obtain⟨g,o,rfl,_⟩:=hA 0 (by omega);have hA':∀w',bH [] w w'→∀j,j<n→w'.cell? ⟨g,o+j*2,none⟩=some (.int .i64 (ps.getD j (0,0)).1)∧w'.cell? ⟨g,o+j*2+1,none⟩=some (.int .i64 (ps.getD j (0,0)).2):=by intro w' t j hj;obtain⟨g',o',e,hc,hd⟩:=hA j hj;injection e with e;injection e with e1 e2 e3;subst e1;subst e2;exact⟨by rw [(bY t).1 g _ (ai hc)];exact hc,by rw [(bY t).1 g _ (ai hd)];exact hd⟩
 have HA:=lh hA';have HN:=lh hn;have HF:=lh SC;clear hA hA' hn;have d1:decide ((n:Int)<3)=false:=ak (by omega);have d2:decide (64<(n:Int))=false:=ak (by omega);go_enter func150,ntmps150;go_wp2_with fail
 go_loopw [3] (fun s3 wr=>∃k:Nat,k≤n∧s3=k∧bH [] w wr∧∀j,j<k→uG (ps.getD j (0,0)).1 (ps.getD j (0,0)).2=false) (fun s3 _=>n - (intOf s3).toNat);case atStart=>exact⟨0,by omega,rfl,tR w,fun j hj=>absurd hj (aU j)⟩
 obtain⟨k,hk,rfl,T,hall⟩:=hrel;have HALL:=lh hall;clear hall;by_cases hlt:k<n
 ·obtain⟨c0,c1⟩:=HA.o _ T k hlt;have hp:ps.getD k (0,0)∈ps:=by have hl:k<ps.length:=(by rw [←HN.o];exact hlt);simp [List.getD,hl]
  have HP:=lh hp;clear hp;generalize hz:ps.getD k (0,0)=z at *;obtain⟨x,y⟩:=z;simp only at c0 c1;have hq:=HF.o x y;have HZ:=lh hz;clear hz;have b0:(0:Int)≤(k:Int):=by omega
  have b1:(k:Int)<(n:Int):=by omega
  cases hb:uG x y with
  | true=>
   rw [hb]at hq;have HQ:=lh hq;have HB:=lh hb;clear hq hb;go_wp2_with (first
    | (go_at_call 190;refine (HQ.o _).mono ?_;rintro e w1 ⟨rfl,ht⟩)
    | fail)
   go_ret;have hf:jy ps=false:=(by have:ps.all (fun p=>!uG p.1 p.2)=false:=List.all_eq_false.2 ⟨(x,y),HP.o,by simp [HB.o]⟩;rw [jy,this,Bool.and_false]);exact⟨by rw [hf];rfl,T.trans ht⟩
  | false=>
   rw [hb]at hq;have HQ:=lh hq;have HB:=lh hb;clear hq hb;go_wp2_with (first
    | (go_at_call 190;refine (HQ.o _).mono ?_;rintro e w1 ⟨rfl,ht⟩)
    | fail)
   go_roundw;case rel=>exact⟨k+1,by omega,by go_num,T.trans ht,fun j hj=>by
    by_cases h:j<k
    ·exact HALL.o j h
    obtain rfl:j=k:=(by omega);rw [HZ.o];exact HB.o⟩
   simp [intOf];omega
 obtain rfl:k=n:=by omega
 go_wp2_with fail
 go_ret;have hf:jy ps=true:=by
  have:ps.all (fun p=>!uG p.1 p.2)=true:=by rw [aZ];intro p hp;obtain⟨j,hj,rfl⟩:=List.getElem_of_mem hp;have:=HALL.o j (by rw [HN.o];exact hj);simpa [List.getD,hj]using this
  rw [jy,this,←HN.o];simp;omega
 exact⟨by rw [hf];rfl,T⟩
end Go.Proofs.YtbpklgllihhgpaaGreat
