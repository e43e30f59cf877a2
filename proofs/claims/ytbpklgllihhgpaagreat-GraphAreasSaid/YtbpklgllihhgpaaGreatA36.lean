import Derived.Test.YtbpklgllihhgpaaGreatA34
import Derived.Test.YtbpklgllihhgpaaGreatA35
set_option maxRecDepth 100000
set_option maxHeartbeats 16000000
namespace Go.Proofs.YtbpklgllihhgpaaGreat
open Tryz Go.RowKit Go.Den
def mX(p:Af): bI:={ dF with place:=p }
structure NV(l p:bI): Prop where
 place:p.place=l.place
 space:p.space=l.space
 tn:p.tn=l.tn
 Xh:p.Xh=l.Xh
 of_:p.of=l.of
 Xg:p.Xg=l.Xg
 f0:p.f0=l.f0
 f1:p.f1=l.f1
 f2:p.f2=l.f2
 f3:p.f3=l.f3
 pn:p.pn=l.pn
def Us(l:bI): bI:={ mX l.place with space:=l.space,tA:=l.tA,tn:=l.tn,tc:=l.tc }
def Um(l:bI): bI:={ mX l.place with Xi:=l.Xi,Xh:=l.Xh,Xj:=l.Xj }
def Iw(l:bI): bI:={ mX l.place with Xg:=l.Xg }
def Un(l:bI): bI:={ mX l.place with of:=l.of }
def UE(l:bI): bI:={ mX l.place with pA:=l.pA,pn:=l.pn,pc:=l.pc,f0:=l.f0,f1:=l.f1,f2:=l.f2,f3:=l.f3 }
theorem O0{l:bI}{ns:Int}(ht:l.Tidy ns)(hk:l.kind=1): NV l (Us l):=by constructor <;> first | rfl | exact (ht.Xp (by omega)).1.symm | exact (ht.Xp (by omega)).2.symm | exact (ht.Xq (by omega)).symm | exact (ht.noof (by omega)).symm | exact (ht.Xr (by omega)).symm | exact (ht.Xo (by omega)).1.symm | exact (ht.Xo (by omega)).2.1.symm | exact (ht.Xo (by omega)).2.2.1.symm | exact (ht.Xo (by omega)).2.2.2.1.symm | exact (ht.Xo (by omega)).2.2.2.2.symm
theorem QF{l:bI}{ns:Int}(ht:l.Tidy ns)(hk:l.kind=2): NV l (Um l):=by constructor <;> first | rfl | exact (ht.Xp (by omega)).1.symm | exact (ht.Xp (by omega)).2.symm | exact (ht.Xq (by omega)).symm | exact (ht.noof (by omega)).symm | exact (ht.Xr (by omega)).symm | exact (ht.Xo (by omega)).1.symm | exact (ht.Xo (by omega)).2.1.symm | exact (ht.Xo (by omega)).2.2.1.symm | exact (ht.Xo (by omega)).2.2.2.1.symm | exact (ht.Xo (by omega)).2.2.2.2.symm
theorem P6{l:bI}{ns:Int}(ht:l.Tidy ns)(hk:l.kind=3): NV l (Iw l):=by constructor <;> first | rfl | exact (ht.Xp (by omega)).1.symm | exact (ht.Xp (by omega)).2.symm | exact (ht.Xq (by omega)).symm | exact (ht.noof (by omega)).symm | exact (ht.Xr (by omega)).symm | exact (ht.Xo (by omega)).1.symm | exact (ht.Xo (by omega)).2.1.symm | exact (ht.Xo (by omega)).2.2.1.symm | exact (ht.Xo (by omega)).2.2.2.1.symm | exact (ht.Xo (by omega)).2.2.2.2.symm
theorem Qq{l:bI}{ns:Int}(ht:l.Tidy ns)(hk:l.kind=4): NV l (Un l):=by constructor <;> first | rfl | exact (ht.Xp (by omega)).1.symm | exact (ht.Xp (by omega)).2.symm | exact (ht.Xq (by omega)).symm | exact (ht.noof (by omega)).symm | exact (ht.Xr (by omega)).symm | exact (ht.Xo (by omega)).1.symm | exact (ht.Xo (by omega)).2.1.symm | exact (ht.Xo (by omega)).2.2.1.symm | exact (ht.Xo (by omega)).2.2.2.1.symm | exact (ht.Xo (by omega)).2.2.2.2.symm
theorem QU{l:bI}{ns:Int}(ht:l.Tidy ns)(hk:l.kind=5): NV l (UE l):=by constructor <;> first | rfl | exact (ht.Xp (by omega)).1.symm | exact (ht.Xp (by omega)).2.symm | exact (ht.Xq (by omega)).symm | exact (ht.noof (by omega)).symm | exact (ht.Xr (by omega)).symm | exact (ht.Xo (by omega)).1.symm | exact (ht.Xo (by omega)).2.1.symm | exact (ht.Xo (by omega)).2.2.1.symm | exact (ht.Xo (by omega)).2.2.2.1.symm | exact (ht.Xo (by omega)).2.2.2.2.symm
theorem IA(d:df)(l:bI)(t mb:Nat)(w:World)(hT:qI w t mb d)(h:l.At w)(ht:l.Tidy d.sn)(hg:l.good=true)(hth:l.Thin):
  Calls prog 166 #[.pointer (some ⟨t,0,none⟩),l.v] w fun e w'=>e=.returned (.tuple #[])∧bH [] w w':=by
 obtain⟨W,hW⟩:∃W,W=w.alloc (.cells ⟨l.row⟩ 89):=⟨_,rfl⟩;have T0:bH [] w W:=by rw [hW];exact (tR w).alloc _
 have x3:W.heap[w.heap.size]?=some (.cells ⟨l.row⟩ 89 (0,0)):=by rw [hW];exact heap_alloc_new _ _
 have hN:=fun u=>CS l.name ht.name u;have hB3:∀u,bH [] W u→u.heap[w.heap.size]?=some (.cells ⟨l.row⟩ 89 (0,0)):=fun u T=>T.ox x3;have hcells:∀u,bH [] W u→u.cell? ⟨w,0,none⟩=some (.int .i64 l.id)∧u.cell? ⟨w,1,none⟩=some (.int .i64 l.kind)∧u.cell? ⟨w,2,none⟩=some (.string l.name)∧u.cell? ⟨w,4,none⟩=some (.int .i64 l.Xl)∧u.cell? ⟨w,5,none⟩=some (.int .i64 l.mode)∧u.cell? ⟨w,29,none⟩=some (.bool l.Xt)∧u.cell? ⟨w,30,none⟩=some (.slice l.mA l.mn l.mc):=fun u T=>⟨bJ (hB3 u T) rfl,bJ (hB3 u T) rfl,bJ (hB3 u T) rfl,bJ (hB3 u T) rfl,bJ (hB3 u T) rfl,bJ (hB3 u T) rfl,bJ (hB3 u T) rfl⟩;obtain⟨hk1,hk2⟩:=ht.kind;obtain⟨ho1,ho2⟩:=ht.opac;obtain⟨hm1,hm2⟩:=ht.mode;have hC0:=hcells W (bH.refl _ _);obtain⟨p0,p1,p2,p4,p5,p29,p30⟩:=hC0;have k1:decide (1≤l.kind)=true:=aC hk1;have k2:decide (l.kind≤5)=true:=aC hk2;have k3:decide (0≤l.Xl)=true:=aC ho1;have k4:decide (l.Xl≤255)=true:=aC ho2;have k5:decide (0≤l.mode)=true:=aC hm1;have k6:decide (l.mode≤15)=true:=aC hm2;have HN:=lh hN;have HA:=lh h;have HTI:=lh ht;have HG:=lh hg;have HB:=lh hB3;have HCE:=lh hcells;have HT:=lh hT;have HTH:=lh hth;clear hth hN h ht hg hB3 hcells hT x3;unfold bI.v;go_enter func166,ntmps166;go_upto_region 1 with fail
 rw [←hW];clear hW;go_upto_region 2 with (go_at_call 161;refine (dX _ _ _).mono ?_;rintro e w3 ⟨rfl,rfl⟩)
 have HK2:Hid (∀u,bH [] W u→bH [] W u∧u.cell? ⟨w,0,none⟩=some (.int .i64 l.id)∧u.cell? ⟨w,2,none⟩=some (.string l.name)):=lh fun u T=>⟨T,(HCE.o u T).1,(HCE.o u T).2.2.1⟩;have TD:=(tR W).drawn 1;have HK2:Hid (∀u,bH [] W u→bH [] W u∧u.cell? ⟨w,0,none⟩=some (.int .i64 l.id)∧u.cell? ⟨w,2,none⟩=some (.string l.name)):=lh fun u T=>⟨T,(HCE.o u T).1,(HCE.o u T).2.2.1⟩;have TD:=(tR W).drawn 1;go_region_held3 (fun w'=>bH [] W w'∧w'.cell? ⟨w,0,none⟩=some (.int .i64 l.id)∧w'.cell? ⟨w,2,none⟩=some (.string l.name)) (first | assumption | exact HK2.o _ TD | exact HK2.o _ ((And.left (by assumption:bH [] W _∧_)).trans ht1)) (first
  | (go_at_call 196;refine (HN.o _).mono ?_;rintro e w1 ⟨rfl,ht1⟩)
  | (go_at_call 161;refine (dX _ _ _).mono ?_;rintro e w3 ⟨rfl,rfl⟩))
 rename_i hH;have TW:=hH.1;clear hH p0 p1 p2 p4 p5 p29 p30 HK2 HN;obtain⟨p0,p1,p2,p4,p5,p29,p30⟩:=HCE.o w1 TW;go_upto_region 4 with (go_at_call 161;refine (dX _ _ _).mono ?_;rintro e w3 ⟨rfl,rfl⟩)
 have hgd:=HG.o;unfold bI.good at hgd;rw [az,az]at hgd;have HGT:=lh hgd.1.2;have HGF:=lh hgd.2;have HM:=lh (fun u (T:bH [] W u)=>rU l.mask hgd.1.1 l.mA l.mn l.mc u ((HA.o.turn (T0.trans T)).mask));have HK4:Hid (∀u,bH [] W u→bH [] W u∧u.cell? ⟨w,0,none⟩=some (.int .i64 l.id)∧u.cell? ⟨w,29,none⟩=some (.bool l.Xt)∧u.cell? ⟨w,30,none⟩=some (.slice l.mA l.mn l.mc)):=lh fun u T=>⟨T,(HCE.o u T).1,(HCE.o u T).2.2.2.2.2.1,(HCE.o u T).2.2.2.2.2.2⟩;clear hgd p0 p1 p2 p4 p5 p29 p30 k1 k2 k3 k4 k5 k6;have TD:=TW.drawn 1;have hno:=HTI.o.nomask;go_cut [] (fun wx=>bH [] W wx);case first=>
  cases hmk:l.Xt with
  | true=>
   as_aux_lemma=>
    rw [hmk]at HK4;clear hno hmk;refine cu.start (fun w'=>bH [] W w') 16 (by kernel_rfl) ?_;have hS:bH [] W w1.drew:=TD;generalize w1.drew=Y at *;refine tk 0 (.pointer (some ⟨w,30,none⟩)) ?_;go_frame;refine tk 1 (.agg #[.slice l.mA l.mn l.mc]) ?_ (hy:=fun w' hw=>by obtain⟨_,e0,e29,e30⟩:=HK4.o _ hw;go_simp);go_frame;refine tk 14 (.pointer (some ⟨w,0,none⟩)) ?_;go_frame;refine tk 15 l.id ?_ (hy:=fun w' hw=>by obtain⟨_,e0,e29,e30⟩:=HK4.o _ hw;go_simp);go_frame;refine eH 2 fun K hK=>?_;go_simp;refine (HM.o _ hS).mono ?_;rintro e w2 ⟨rfl,ht1⟩;have hS:=hS.trans ht1;clear ht1;refine hK _ _ (fun _=>hS) ?_;clear hK K;(try go_frame);refine tk 3 (.bool true) ?_;go_frame;refine tk 4 (.pointer (some ⟨w,29,none⟩)) ?_;go_frame;refine tk 5 (.bool true) ?_ (hy:=fun w' hw=>by obtain⟨_,e0,e29,e30⟩:=HK4.o _ hw;go_simp);go_frame;refine tk 6 (.bool true) ?_;go_frame;refine je 7 ?_;go_frame;refine je 8 ?_;go_frame;refine je 9 ?_;go_frame;refine je 10 ?_;go_frame;refine je 11 ?_;go_frame;refine tk 12 (.bool true) ?_;go_frame;refine tk 13 (.bool true) ?_;go_frame;refine eH 16 fun K hK=>?_;go_simp;refine (dX _ _ _).mono ?_;rintro e w3 ⟨rfl,rfl⟩;refine hK _ _ (fun _=>hS) ?_;clear hK K;(try go_frame);refine Wy ?_;(go_wp2_with fail);go_meet;exact hS
  | false=>
   as_aux_lemma=>
    have hz:l.mn=0:=hno hmk;rw [hmk,hz]at HK4;rw [hz]at HM;clear hno hmk hz;go_region_held3 (fun w'=>bH [] W w'∧w'.cell? ⟨w,0,none⟩=some (.int .i64 l.id)∧w'.cell? ⟨w,29,none⟩=some (.bool false)∧w'.cell? ⟨w,30,none⟩=some (.slice l.mA 0 l.mc)) (first | assumption | exact HK4.o _ TD | exact HK4.o _ ((And.left (by assumption:bH [] W _∧_)).trans ht1)) (first
     | (go_at_call 186;refine (HM.o _ (And.left (by assumption:bH [] W _∧_))).mono ?_;rintro e w1 ⟨rfl,ht1⟩)
     | (go_at_call 161;refine (dX _ _ _).mono ?_;rintro e w3 ⟨rfl,rfl⟩))
    rename_i hH;(go_wp2_with fail);go_meet;exact hH.1
 clear TW TD HK4 HM hno;have hbz:∀u,(Instr.build 89 #[]).run prog u=.ok (.agg ⟨dF.row⟩) u:=fun u=>by kernel_rfl
 have HBZ:=lh hbz;have HAL:=lh gI;have HST:=lh (fun u=>gX u dF);clear hbz;go_upto_region 6 with (first
  | (refine bQ (o:=⟨some 61,_,_,_,_,_⟩) rfl (iU (vs:=#[]) (v:=.agg ⟨dF.row⟩) rfl rfl (HBZ.o _)) ?_;try go_frame)
  | (refine bQ (o:=⟨some 4,_,_,_,_,_⟩) rfl (di (t:=89) rfl (HAL.o _)) ?_;try go_frame)
  | (refine bU rfl 89 (.tmp 4) (.tmp 61) rfl rfl rfl (HST.o _) ?_;try go_frame))
 obtain⟨V,hV⟩:∃V,V=wc.alloc (.cells ⟨dF.row⟩ 89):=⟨_,rfl⟩;have TV:bH [] W V:=by rw [hV];exact hcut.alloc _
 have h4:V.heap[wc.heap.size]?=some (.cells ⟨dF.row⟩ 89 (0,0)):=by rw [hV];exact heap_alloc_new _ _
 have hW0:W.heap.size≤wc.heap.size:=hcut.size;rw [←hV];clear hV HBZ HAL HST hcut;generalize wc.heap.size=b4 at *;go_cut [5] (fun s5 wx=>s5=.bool (l.kind == 1 || l.kind == 4)∧wx.heap[b4]?=some (.cells ⟨dF.row⟩ 89 (0,0))∧bH [] W wx);case first=>
  as_aux_lemma=>
   obtain⟨_,p1,_⟩:=HCE.o V TV;have HV:=lh (bg h4 TV);clear h4 TV;by_cases e1:l.kind=1
   ·have c1:(l.kind == 1)=true:=(by simp [e1]);rw [e1]at p1;(go_wp2_with fail);go_meet;exact⟨by simp [e1],HV.o.1,HV.o.2⟩
   have c1:(l.kind == 1)=false:=(by simp [e1]);by_cases e4:l.kind=4
   ·rw [e4]at p1;(go_wp2_with fail);go_meet;exact⟨by simp [e4],HV.o.1,HV.o.2⟩
   have c4:(l.kind == 4)=false:=(by simp [e4]);(go_wp2_with fail);go_meet;exact⟨by simp [e1,e4],HV.o.1,HV.o.2⟩
 obtain⟨rfl,h4,TV⟩:=hcut;go_upto_if 70 with fail
 go_cut [5] (fun s5 wx=>s5=.bool (l.kind == 1 || l.kind == 4)∧wx.heap[b4]?=some (.cells ⟨(mX l.place).row⟩ 89 (0,0))∧bH [] W wx);case first=>
  have h3:=HB.o wc TV;cases hu:(l.kind == 1 || l.kind == 4)with
  | true=>
   as_aux_lemma=>
    have p7:=bJ (i:=7) h3 rfl;have p8:=bJ (i:=8) h3 rfl;have p9:=bJ (i:=9) h3 rfl;have p10:=bJ (i:=10) h3 rfl;have p11:=bJ (i:=11) h3 rfl;have p12:=bJ (i:=12) h3 rfl;have p13:=bJ (i:=13) h3 rfl;have HST:=lh (dQ (o:=7) (ty:=80) (p:=[l.place.a,l.place.b,l.place.c,l.place.d,l.place.e,l.place.f,l.place.den]) (L':=(mX l.place).row) h4 zo (by simp [bI.row]) (by simp [Value.oneCell']) rfl);have HEND:=lh (bg (eQ (L':=(mX l.place).row) h4) (TV.setRow (g:=b4) ⟨(mX l.place).row⟩ (.inr hW0)));clear h3 h4 TV;(go_wp2_with (refine bU rfl 80 (.tmp 73) (.tmp 72) rfl rfl rfl HST.o ?_;try go_frame));go_meet;exact⟨by rw [hu],HEND.o⟩
  | false=>
   as_aux_lemma=>
    have hk:l.kind≠1∧l.kind≠4:=(by simpa using hu);have hp:=HTI.o.noplace hk.1 hk.2;have HV:=lh (bg h4 TV);clear h3 h4 TV;(go_wp2_with fail);go_meet;exact⟨by rw [hu],by rw [hp];exact HV.o⟩
 obtain⟨rfl,h4,TV⟩:=hcut;go_step;go_step;go_cut [5] (fun s5 wx=>s5=.bool (l.kind == 1 || l.kind == 4)∧(∃p:bI,NV l p∧wx.heap[b4]?=some (.cells ⟨p.row⟩ 89 (0,0)))∧bH [] W wx);case first=>
  have h3:=HB.o wc TV;have y1:=bJ (i:=1) h3 rfl;obtain hk | hk | hk | hk | hk:l.kind=1∨l.kind=2∨l.kind=3∨l.kind=4∨l.kind=5:=by have:=HTI.o.kind;omega
  ·as_aux_lemma=>
    rw [hk]at y1;have hu:=O0 HTI.o hk;have p14:=bJ (i:=14) h3 rfl;have p28:=bJ (i:=28) h3 rfl;have q14:=bJ (i:=14) h4 rfl;have q28:=bJ (i:=28) h4 rfl;have zf:=fun i=>dD h4 i;have HV:=lh (bg h4 TV);have HU:=lh hu;clear h3 h4 TV hu hk;(go_upto_region 11 with fail);go_region;(all_goals (go_wp2_with fail;go_meet));all_goals exact⟨rfl,⟨Us l,HU.o,(dU (dU HV.o.1 rfl) rfl)⟩,((HV.o.2.setCell (a:=⟨b4,14,none⟩) _ (.inr hW0)).setCell (a:=⟨b4,28,none⟩) _ (.inr hW0)).drawn 1⟩
  ·as_aux_lemma=>
    rw [hk]at y1;have hu:=QF HTI.o hk;have p15:=bJ (i:=15) h3 rfl;have q15:=bJ (i:=15) h4 rfl;have zf:=fun i=>dD h4 i;have HV:=lh (bg h4 TV);have HU:=lh hu;clear h3 h4 TV hu hk;(go_wp2_with fail);go_meet;exact⟨rfl,⟨Um l,HU.o,(dU HV.o.1 rfl)⟩,(HV.o.2.setCell (a:=⟨b4,15,none⟩) _ (.inr hW0))⟩
  ·as_aux_lemma=>
    rw [hk]at y1;have hu:=P6 HTI.o hk;have p17:=bJ (i:=17) h3 rfl;have p18:=bJ (i:=18) h3 rfl;have p19:=bJ (i:=19) h3 rfl;have p20:=bJ (i:=20) h3 rfl;have p21:=bJ (i:=21) h3 rfl;have p22:=bJ (i:=22) h3 rfl;have HST:=lh (dQ (o:=17) (ty:=83) (p:=[l.Xg.kind,l.Xg.Xf,.slice l.Xg.kA l.Xg.kn l.Xg.kc,l.Xg.div,l.Xg.value,.slice l.Xg.cA l.Xg.cn l.Xg.cc]) (L':=(Iw l).row) h4 wQ (by simp [bI.row]) (by simp [Value.oneCell']) rfl);have HEND:=lh (bg (eQ (L':=(Iw l).row) h4) (TV.setRow (g:=b4) ⟨(Iw l).row⟩ (.inr hW0)));have HU:=lh hu;clear h3 h4 TV hu hk;(go_wp2_with (refine bU rfl 83 (.tmp 93) (.tmp 92) rfl rfl rfl HST.o ?_;try go_frame));go_meet;exact⟨rfl,⟨Iw l,HU.o,HEND.o.1⟩,HEND.o.2⟩
  ·as_aux_lemma=>
    rw [hk]at y1;have hu:=Qq HTI.o hk;have p16:=bJ (i:=16) h3 rfl;have q16:=bJ (i:=16) h4 rfl;have zf:=fun i=>dD h4 i;have HV:=lh (bg h4 TV);have HU:=lh hu;clear h3 h4 TV hu hk;(go_wp2_with fail);go_meet;exact⟨rfl,⟨Un l,HU.o,(dU HV.o.1 rfl)⟩,(HV.o.2.setCell (a:=⟨b4,16,none⟩) _ (.inr hW0))⟩
  as_aux_lemma=>
   rw [hk]at y1;have hu:=QU HTI.o hk;have p27:=bJ (i:=27) h3 rfl;have p23:=bJ (i:=23) h3 rfl;have p24:=bJ (i:=24) h3 rfl;have p25:=bJ (i:=25) h3 rfl;have p26:=bJ (i:=26) h3 rfl;have q27:=bJ (i:=27) h4 rfl;have q23:=bJ (i:=23) h4 rfl;have q24:=bJ (i:=24) h4 rfl;have q25:=bJ (i:=25) h4 rfl;have q26:=bJ (i:=26) h4 rfl;have zf:=fun i=>dD h4 i;have HV:=lh (bg h4 TV);have HU:=lh hu;clear h3 h4 TV hu hk;(go_upto_region 19 with fail);go_region;(all_goals (go_wp2_with fail;go_meet));all_goals exact⟨rfl,⟨UE l,HU.o,(dU (dU (dU (dU (dU HV.o.1 rfl) rfl) rfl) rfl) rfl)⟩,(((((HV.o.2.setCell (a:=⟨b4,27,none⟩) _ (.inr hW0)).setCell (a:=⟨b4,23,none⟩) _ (.inr hW0)).setCell (a:=⟨b4,24,none⟩) _ (.inr hW0)).setCell (a:=⟨b4,25,none⟩) _ (.inr hW0)).setCell (a:=⟨b4,26,none⟩) _ (.inr hW0)).drawn 1⟩
 obtain⟨rfl,⟨p,hu,h4⟩,TV⟩:=hcut;obtain⟨wz,hwz⟩:∃z,z=wc:=⟨_,rfl⟩;subst hwz;have h3:=HB.o wz TV;have p0:=bJ (i:=0) h3 rfl;have p7:=bJ (i:=7) h3 rfl;have q7:wz.cell? ⟨b4,7,none⟩=some (.int .i64 l.place.a):=by rw [←hu.place];exact bJ h4 rfl
 have p8:=bJ (i:=8) h3 rfl;have q8:wz.cell? ⟨b4,8,none⟩=some (.int .i64 l.place.b):=by rw [←hu.place];exact bJ h4 rfl
 have p9:=bJ (i:=9) h3 rfl;have q9:wz.cell? ⟨b4,9,none⟩=some (.int .i64 l.place.c):=by rw [←hu.place];exact bJ h4 rfl
 have p10:=bJ (i:=10) h3 rfl;have q10:wz.cell? ⟨b4,10,none⟩=some (.int .i64 l.place.d):=by rw [←hu.place];exact bJ h4 rfl
 have p11:=bJ (i:=11) h3 rfl;have q11:wz.cell? ⟨b4,11,none⟩=some (.int .i64 l.place.e):=by rw [←hu.place];exact bJ h4 rfl
 have p12:=bJ (i:=12) h3 rfl;have q12:wz.cell? ⟨b4,12,none⟩=some (.int .i64 l.place.f):=by rw [←hu.place];exact bJ h4 rfl
 have p13:=bJ (i:=13) h3 rfl;have q13:wz.cell? ⟨b4,13,none⟩=some (.int .i64 l.place.den):=by rw [←hu.place];exact bJ h4 rfl
 have p14:=bJ (i:=14) h3 rfl;have q14:wz.cell? ⟨b4,14,none⟩=some (.int .i64 l.space):=by rw [←hu.space];exact bJ h4 rfl
 have p15:=bJ (i:=15) h3 rfl;have q15:wz.cell? ⟨b4,15,none⟩=some (.slice p.Xi l.Xh p.Xj):=by rw [←hu.Xh];exact bJ h4 rfl
 have p16:=bJ (i:=16) h3 rfl;have q16:wz.cell? ⟨b4,16,none⟩=some (.int .i64 l.of):=by rw [←hu.of_];exact bJ h4 rfl
 have p23:=bJ (i:=23) h3 rfl;have q23:wz.cell? ⟨b4,23,none⟩=some (.int .u8 l.f0):=by rw [←hu.f0];exact bJ h4 rfl
 have p24:=bJ (i:=24) h3 rfl;have q24:wz.cell? ⟨b4,24,none⟩=some (.int .u8 l.f1):=by rw [←hu.f1];exact bJ h4 rfl
 have p25:=bJ (i:=25) h3 rfl;have q25:wz.cell? ⟨b4,25,none⟩=some (.int .u8 l.f2):=by rw [←hu.f2];exact bJ h4 rfl
 have p26:=bJ (i:=26) h3 rfl;have q26:wz.cell? ⟨b4,26,none⟩=some (.int .u8 l.f3):=by rw [←hu.f3];exact bJ h4 rfl
 have p27:=bJ (i:=27) h3 rfl;have q27:wz.cell? ⟨b4,27,none⟩=some (.slice p.pA l.pn p.pc):=by rw [←hu.pn];exact bJ h4 rfl
 have p28:=bJ (i:=28) h3 rfl;have q28:wz.cell? ⟨b4,28,none⟩=some (.slice p.tA l.tn p.tc):=by rw [←hu.tn];exact bJ h4 rfl
 have HD:Hid (∀(e id:Int) (u:World),Calls prog 161 #[.bool true,e,id] u fun x w'=>x=.returned (.tuple #[])∧w'=u):=lh fun e id u=>(dX e id u).mono fun _ _ h=>⟨h.1,h.2.symm⟩;have HF:Hid (∀u,bH [] wz u→u.heap[w.heap.size]?=some (.cells ⟨l.row⟩ 89 (0,0))∧u.heap[b4]?=some (.cells ⟨p.row⟩ 89 (0,0))):=lh fun u t=>⟨HB.o u (TV.trans t),t.ox h4⟩;have HPF:=lh hu.Xg;have HTV:=lh TV;clear h3 h4 hu TV;go_upto_region 20 with fail
 go_cut [] (fun wx=>bH [] wz wx);case first=>
  as_aux_lemma=>
   go_quiet ((go_at_call 161;exact Calls.quiet_of_same (HD.o _ _ _)))
   (go_wp2_with fail);go_meet;exact (tR wz).drawn nq
 clear p0 p7 p8 p9 p10 p11 p12 p13 p14 p15 p16 p23 p24 p25 p26 p27 p28 q7 q8 q9 q10 q11 q12 q13 q14 q15 q16 q23 q24 q25 q26 q27 q28;have TC:=hcut;clear hcut;have hby:=fun u (t:bH [] wz u)=>JB l.Xg l.ks l.cs u ((HA.o.turn (T0.trans (HTV.o.trans t))).ks) ((HA.o.turn (T0.trans (HTV.o.trans t))).cs) (by have:=HTH.o.a;omega) (by have:=HTH.o.b;omega);unfold Fv.v at hby;generalize U8 l.Xg l.ks l.cs=fs at *;have HBY:=lh hby;clear hby;go_upto_region 21 with fail
 go_cut [] (fun wx=>bH [] wz wx);case first=>
  as_aux_lemma=>
   refine sN 9 TC fun Y hS=>?_;refine tk 0 (.pointer (some ⟨w,17,none⟩)) ?_;go_frame;refine tk 1 (.agg #[l.Xg.kind,l.Xg.Xf,.slice l.Xg.kA l.Xg.kn l.Xg.kc,l.Xg.div,l.Xg.value,.slice l.Xg.cA l.Xg.cn l.Xg.cc]) ?_ rfl (hy:=fun w' hw=>dw rfl rfl (run_loadAt_mid _ w.heap.size 17 83 [l.Xg.kind,l.Xg.Xf,.slice l.Xg.kA l.Xg.kn l.Xg.kc,l.Xg.div,l.Xg.value,.slice l.Xg.cA l.Xg.cn l.Xg.cc] _ (gp (HF.o _ hw).1 rfl) underlying83 rfl wQ));go_frame;refine tk 3 (.pointer (some ⟨b4,17,none⟩)) ?_;go_frame;refine tk 4 (.agg #[l.Xg.kind,l.Xg.Xf,.slice l.Xg.kA l.Xg.kn l.Xg.kc,l.Xg.div,l.Xg.value,.slice l.Xg.cA l.Xg.cn l.Xg.cc]) ?_ rfl (hy:=fun w' hw=>dw rfl rfl (run_loadAt_mid _ b4 17 83 [l.Xg.kind,l.Xg.Xf,.slice l.Xg.kA l.Xg.kn l.Xg.kc,l.Xg.div,l.Xg.value,.slice l.Xg.cA l.Xg.cn l.Xg.cc] _ (gp (HF.o _ hw).2 (by unfold bI.row;rw [HPF.o];rfl)) underlying83 rfl wQ));go_frame;refine tk 7 (.pointer (some ⟨w,0,none⟩)) ?_;go_frame;refine tk 8 l.id ?_ (hy:=fun w' hw=>by have f0:=bJ (i:=0) (HF.o _ hw).1 rfl;go_simp);go_frame;refine eH 2 fun K hK=>?_;go_simp;refine (HBY.o _ hS).mono ?_;rintro e w5 ⟨rfl,ht5⟩;have hS:=hS.trans ht5;refine hK _ _ (fun _=>hS) ?_;clear hK K ht5;(try go_frame);refine eH 5 fun K hK=>?_;go_simp;refine (HBY.o _ hS).mono ?_;rintro e w6 ⟨rfl,ht6⟩;have hS:=hS.trans ht6;refine hK _ _ (fun _=>hS) ?_;clear hK K ht6;(try go_frame);refine tk 6 (.bool true) ?_;go_frame;refine iZ fun K hK=>?_;go_simp;refine (dX _ _ _).mono ?_;rintro e w3 ⟨rfl,rfl⟩;refine hK _ _ ?_;clear hK K;(try go_frame);(go_wp2_with fail);go_meet;exact hS
 clear HBY HPF TC;have TC:=hcut;clear hcut;go_upto_region 22 with fail
 go_cut [5] (fun _ wx=>bH [] wz wx);case first=>
  cases hpl:(l.kind == 1 || l.kind == 4)with
   | true=>
    as_aux_lemma=>
     have hok:l.place.ok=true:=HTI.o.place (by simpa using hpl);have haf:=fun u=>wX l.place u;unfold Af.v at haf;rw [hok]at haf;have HAF:=lh haf;clear haf hok hpl;refine sN 9 TC fun Y hS=>?_;refine tk 0 (.bool true) ?_;go_frame;refine tk 1 (.bool false) ?_;go_frame;refine tk 2 (.bool false) ?_;go_frame;refine tk 7 (.pointer (some ⟨w,0,none⟩)) ?_;go_frame;refine tk 8 l.id ?_ (hy:=fun w' hw=>by have f0:=bJ (i:=0) (HF.o _ hw).1 rfl;go_simp);go_frame;refine tk 3 (.pointer (some ⟨w,7,none⟩)) ?_;go_frame;refine tk 4 (.agg #[l.place.a,l.place.b,l.place.c,l.place.d,l.place.e,l.place.f,l.place.den]) ?_ rfl (hy:=fun w' hw=>dw rfl rfl (run_loadAt_mid _ w.heap.size 7 80 [l.place.a,l.place.b,l.place.c,l.place.d,l.place.e,l.place.f,l.place.den] _ (gp (HF.o _ hw).1 rfl) underlying80 rfl zo));go_frame;refine eH 5 fun K hK=>?_;go_simp;refine (HAF.o _).mono ?_;rintro e w7 ⟨rfl,ht7⟩;have hS:=hS.trans ht7;refine hK _ _ (fun _=>hS) ?_;clear hK K ht7;(try go_frame);refine tk 6 (.bool true) ?_;go_frame;refine iZ fun K hK=>?_;go_simp;refine (dX _ _ _).mono ?_;rintro e w3 ⟨rfl,rfl⟩;refine hK _ _ ?_;clear hK K;(try go_frame);(go_wp2_with fail);go_meet;exact hS
   | false=>
    as_aux_lemma=>
     clear hpl;refine sN 9 TC fun Y hS=>?_;refine tk 0 (.bool false) ?_;go_frame;refine tk 1 (.bool true) ?_;go_frame;refine tk 2 (.bool true) ?_;go_frame;refine tk 7 (.pointer (some ⟨w,0,none⟩)) ?_;go_frame;refine tk 8 l.id ?_ (hy:=fun w' hw=>by have f0:=bJ (i:=0) (HF.o _ hw).1 rfl;go_simp);go_frame;refine je 3 ?_;go_frame;refine je 4 ?_;go_frame;refine je 5 ?_;go_frame;refine tk 6 (.bool true) ?_;go_frame;refine iZ fun K hK=>?_;go_simp;refine (dX _ _ _).mono ?_;rintro e w3 ⟨rfl,rfl⟩;refine hK _ _ ?_;clear hK K;(try go_frame);(go_wp2_with fail);go_meet;exact hS
 clear TC;have TC:=hcut;clear hcut;have h3:=(HF.o _ TC).1;have p0:=bJ (i:=0) h3 rfl;have p14:=bJ (i:=14) h3 rfl;have h5:=(T0.trans (HTV.o.trans TC)).ox HT.o.ht;have t0:=bK h5 (i:=0) (v:=.slice d.sA d.sn d.sc) rfl;have b0:decide (0≤l.space)=true:=aC HTI.o.space.1;have b1:decide (l.space≤(d.sn:Int))=true:=aC HTI.o.space.2;have HTC:=lh TC;clear h3 h5 TC;go_upto_region 23 with fail
 go_cut [] (fun wx=>bH [] wz wx);case first=>
  as_aux_lemma=>
   go_quiet ((go_at_call 161;exact Calls.quiet_of_same (HD.o _ _ _)))
   (go_wp2_with fail);go_meet;exact HTC.o.drawn nq
 clear p0 p14 t0 b0 b1 HTC;have TC:=hcut;clear hcut;have hra:=fun u (t:bH [] wz u)=>rU l.Xm HGT.o l.tA l.tn l.tc u ((HA.o.turn (T0.trans (HTV.o.trans t))).Xm);have HRA:=lh hra;clear hra;by_cases hk:l.kind=3
 ·as_aux_lemma=>
   have hfl:jC l.Xg l.ks l.cs=true:=(by have:=HGF.o;rw [hk]at this;simpa using this);have hfv:=fun u (t:bH [] wz u)=>Bc l.Xg l.ks l.cs hfl u ((HA.o.turn (T0.trans (HTV.o.trans t))).ks) ((HA.o.turn (T0.trans (HTV.o.trans t))).cs);unfold Fv.v at hfv;have HFV:=lh hfv;clear hfv hfl;have HK:=lh hk;clear hk;(go_upto_region 24 with fail);refine sN 25 TC fun Y hS=>?_;refine tk 0 (.pointer (some ⟨w,28,none⟩)) ?_;go_frame;refine tk 1 (.agg #[.slice l.tA l.tn l.tc]) ?_ (hy:=fun w' hw=>by have f28:=bJ (i:=28) (HF.o _ hw).1 rfl;go_simp);go_frame;refine tk 23 (.pointer (some ⟨w,0,none⟩)) ?_;go_frame;refine tk 24 l.id ?_ (hy:=fun w' hw=>by have f0:=bJ (i:=0) (HF.o _ hw).1 rfl;go_simp);go_frame;refine eH 2 fun K hK=>?_;go_simp;refine (HRA.o _ hS).mono ?_;rintro e w7 ⟨rfl,ht7⟩;have hS:=hS.trans ht7;refine hK _ _ (fun _=>hS) ?_;clear hK K ht7;(try go_frame);refine tk 3 (.bool true) ?_;go_frame;refine tk 4 (.pointer (some ⟨w,1,none⟩)) ?_;go_frame;refine tk 5 ((3:Int)) ?_ (hy:=fun w' hw=>by have f1:=bJ (i:=1) (HF.o _ hw).1 rfl;rw [HK.o]at f1;go_simp);go_frame;refine tk 6 (.bool false) ?_;go_frame;refine tk 7 (.bool false) ?_;go_frame;refine tk 8 (.pointer (some ⟨w,17,none⟩)) ?_;go_frame;refine tk 9 (.agg #[l.Xg.kind,l.Xg.Xf,.slice l.Xg.kA l.Xg.kn l.Xg.kc,l.Xg.div,l.Xg.value,.slice l.Xg.cA l.Xg.cn l.Xg.cc]) ?_ rfl (hy:=fun w' hw=>dw rfl rfl (run_loadAt_mid _ w.heap.size 17 83 [l.Xg.kind,l.Xg.Xf,.slice l.Xg.kA l.Xg.kn l.Xg.kc,l.Xg.div,l.Xg.value,.slice l.Xg.cA l.Xg.cn l.Xg.cc] _ (gp (HF.o _ hw).1 rfl) underlying83 rfl wQ));go_frame;refine eH 10 fun K hK=>?_;go_simp;refine (HFV.o _ hS).mono ?_;rintro e w8 ⟨rfl,ht8⟩;have hS:=hS.trans ht8;refine hK _ _ (fun _=>hS) ?_;clear hK K ht8;(try go_frame);refine tk 11 (.bool true) ?_;go_frame;refine tk 12 (.bool true) ?_;go_frame;refine tk 13 (.bool true) ?_;go_frame;refine tk 14 (.pointer (some ⟨w,1,none⟩)) ?_;go_frame;refine tk 15 ((3:Int)) ?_ (hy:=fun w' hw=>by have f1:=bJ (i:=1) (HF.o _ hw).1 rfl;rw [HK.o]at f1;go_simp);go_frame;refine tk 16 (.bool true) ?_;go_frame;refine tk 17 (.bool true) ?_;go_frame;refine je 18 ?_;go_frame;refine je 19 ?_;go_frame;refine je 20 ?_;go_frame;refine tk 21 (.bool true) ?_;go_frame;refine tk 22 (.bool true) ?_;go_frame;refine iZ fun K hK=>?_;go_simp;refine (dX _ _ _).mono ?_;rintro e w3 ⟨rfl,rfl⟩;refine hK _ _ ?_;clear hK K;(try go_frame);(go_wp2_with fail);go_end0;exact⟨rfl,T0.trans (HTV.o.trans hS)⟩
 have hk3:=hk;clear hk;by_cases hk:l.kind=5
 ·as_aux_lemma=>
   have hsv:=fun u (t:bH [] wz u)=>Dw l.pts (HTI.o.path hk) l.pA l.pn l.pc u ((HA.o.turn (T0.trans (HTV.o.trans t))).pts);have HSV:=lh hsv;clear hsv;have HK:=lh hk;clear hk;(go_upto_region 24 with fail);refine sN 25 TC fun Y hS=>?_;refine tk 0 (.pointer (some ⟨w,28,none⟩)) ?_;go_frame;refine tk 1 (.agg #[.slice l.tA l.tn l.tc]) ?_ (hy:=fun w' hw=>by have f28:=bJ (i:=28) (HF.o _ hw).1 rfl;go_simp);go_frame;refine tk 23 (.pointer (some ⟨w,0,none⟩)) ?_;go_frame;refine tk 24 l.id ?_ (hy:=fun w' hw=>by have f0:=bJ (i:=0) (HF.o _ hw).1 rfl;go_simp);go_frame;refine eH 2 fun K hK=>?_;go_simp;refine (HRA.o _ hS).mono ?_;rintro e w7 ⟨rfl,ht7⟩;have hS:=hS.trans ht7;refine hK _ _ (fun _=>hS) ?_;clear hK K ht7;(try go_frame);refine tk 3 (.bool true) ?_;go_frame;refine tk 4 (.pointer (some ⟨w,1,none⟩)) ?_;go_frame;refine tk 5 ((5:Int)) ?_ (hy:=fun w' hw=>by have f1:=bJ (i:=1) (HF.o _ hw).1 rfl;rw [HK.o]at f1;go_simp);go_frame;refine tk 6 (.bool true) ?_;go_frame;refine tk 7 (.bool true) ?_;go_frame;refine je 8 ?_;go_frame;refine je 9 ?_;go_frame;refine je 10 ?_;go_frame;refine tk 11 (.bool true) ?_;go_frame;refine tk 12 (.bool true) ?_;go_frame;refine tk 13 (.bool true) ?_;go_frame;refine tk 14 (.pointer (some ⟨w,1,none⟩)) ?_;go_frame;refine tk 15 ((5:Int)) ?_ (hy:=fun w' hw=>by have f1:=bJ (i:=1) (HF.o _ hw).1 rfl;rw [HK.o]at f1;go_simp);go_frame;refine tk 16 (.bool false) ?_;go_frame;refine tk 17 (.bool false) ?_;go_frame;refine tk 18 (.pointer (some ⟨w,27,none⟩)) ?_;go_frame;refine tk 19 (.slice l.pA l.pn l.pc) ?_ (hy:=fun w' hw=>by have f27:=bJ (i:=27) (HF.o _ hw).1 rfl;go_simp);go_frame;refine eH 20 fun K hK=>?_;go_simp;refine (HSV.o _ hS).mono ?_;rintro e w9 ⟨rfl,ht9⟩;have hS:=hS.trans ht9;refine hK _ _ (fun _=>hS) ?_;clear hK K ht9;(try go_frame);refine tk 21 (.bool true) ?_;go_frame;refine tk 22 (.bool true) ?_;go_frame;refine iZ fun K hK=>?_;go_simp;refine (dX _ _ _).mono ?_;rintro e w3 ⟨rfl,rfl⟩;refine hK _ _ ?_;clear hK K;(try go_frame);(go_wp2_with fail);go_end0;exact⟨rfl,T0.trans (HTV.o.trans hS)⟩
 as_aux_lemma=>
  have hk5:=hk;clear hk;have HK3:=lh hk3;have HK5:=lh hk5;have x3:(l.kind != 3)=true:=by simpa using hk3
  have x5:(l.kind != 5)=true:=by simpa using hk5
  clear hk3 hk5;go_upto_region 24 with fail
  refine sN 25 TC fun Y hS=>?_;refine tk 0 (.pointer (some ⟨w,28,none⟩)) ?_;go_frame;refine tk 1 (.agg #[.slice l.tA l.tn l.tc]) ?_ (hy:=fun w' hw=>by have f28:=bJ (i:=28) (HF.o _ hw).1 rfl;go_simp);go_frame;refine tk 23 (.pointer (some ⟨w,0,none⟩)) ?_;go_frame;refine tk 24 l.id ?_ (hy:=fun w' hw=>by have f0:=bJ (i:=0) (HF.o _ hw).1 rfl;go_simp);go_frame;refine eH 2 fun K hK=>?_;go_simp;refine (HRA.o _ hS).mono ?_;rintro e w7 ⟨rfl,ht7⟩;have hS:=hS.trans ht7;refine hK _ _ (fun _=>hS) ?_;clear hK K ht7;try go_frame
  refine tk 3 (.bool true) ?_;go_frame;refine tk 4 (.pointer (some ⟨w,1,none⟩)) ?_;go_frame;refine tk 5 l.kind ?_ (hy:=fun w' hw=>by have f1:=bJ (i:=1) (HF.o _ hw).1 rfl;go_simp);go_frame;refine tk 6 (.bool true) ?_;go_frame;refine tk 7 (.bool true) ?_;go_frame;refine je 8 ?_;go_frame;refine je 9 ?_;go_frame;refine je 10 ?_;go_frame;refine tk 11 (.bool true) ?_;go_frame;refine tk 12 (.bool true) ?_;go_frame;refine tk 13 (.bool true) ?_;go_frame;refine tk 14 (.pointer (some ⟨w,1,none⟩)) ?_;go_frame;refine tk 15 l.kind ?_ (hy:=fun w' hw=>by have f1:=bJ (i:=1) (HF.o _ hw).1 rfl;go_simp);go_frame;refine tk 16 (.bool true) ?_;go_frame;refine tk 17 (.bool true) ?_;go_frame;refine je 18 ?_;go_frame;refine je 19 ?_;go_frame;refine je 20 ?_;go_frame;refine tk 21 (.bool true) ?_;go_frame;refine tk 22 (.bool true) ?_;go_frame;refine iZ fun K hK=>?_;go_simp;refine (dX _ _ _).mono ?_;rintro e w3 ⟨rfl,rfl⟩;refine hK _ _ ?_;clear hK K;try go_frame
  go_wp2_with fail
  go_end0;exact⟨rfl,T0.trans (HTV.o.trans hS)⟩
end Go.Proofs.YtbpklgllihhgpaaGreat
