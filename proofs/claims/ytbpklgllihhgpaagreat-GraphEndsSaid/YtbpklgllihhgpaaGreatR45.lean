import Derived.Test.YtbpklgllihhgpaaGreatR42
import Derived.Test.YtbpklgllihhgpaaGreatR44
set_option maxRecDepth 100000
set_option maxHeartbeats 16000000
namespace Go.Proofs.YtbpklgllihhgpaaGreat
open Tryz Go.RowKit Go.Den
def placedA(p:Af): LayerM:={ zeroL with place:=p }
structure Used(l p:LayerM): Prop where
 place:p.place=l.place
 space:p.space=l.space
 tn:p.tn=l.tn
 kidn:p.kidn=l.kidn
 of_:p.of=l.of
 filt:p.filt=l.filt
 f0:p.f0=l.f0
 f1:p.f1=l.f1
 f2:p.f2=l.f2
 f3:p.f3=l.f3
 pn:p.pn=l.pn
def used1(l:LayerM): LayerM:={ placedA l.place with space:=l.space,tA:=l.tA,tn:=l.tn,tc:=l.tc }
def used2(l:LayerM): LayerM:={ placedA l.place with kidA:=l.kidA,kidn:=l.kidn,kidc:=l.kidc }
def used3(l:LayerM): LayerM:={ placedA l.place with filt:=l.filt }
def used4(l:LayerM): LayerM:={ placedA l.place with of:=l.of }
def used5(l:LayerM): LayerM:={ placedA l.place with pA:=l.pA,pn:=l.pn,pc:=l.pc,f0:=l.f0,f1:=l.f1,f2:=l.f2,f3:=l.f3 }
theorem used1_ok{l:LayerM}{ns:Int}(ht:l.Tidy ns)(hk:l.kind=1): Used l (used1 l):=by constructor <;> first | rfl | exact (ht.nospace (by omega)).1.symm | exact (ht.nospace (by omega)).2.symm | exact (ht.nokids (by omega)).symm | exact (ht.noof (by omega)).symm | exact (ht.nofilt (by omega)).symm | exact (ht.nopath (by omega)).1.symm | exact (ht.nopath (by omega)).2.1.symm | exact (ht.nopath (by omega)).2.2.1.symm | exact (ht.nopath (by omega)).2.2.2.1.symm | exact (ht.nopath (by omega)).2.2.2.2.symm
theorem used2_ok{l:LayerM}{ns:Int}(ht:l.Tidy ns)(hk:l.kind=2): Used l (used2 l):=by constructor <;> first | rfl | exact (ht.nospace (by omega)).1.symm | exact (ht.nospace (by omega)).2.symm | exact (ht.nokids (by omega)).symm | exact (ht.noof (by omega)).symm | exact (ht.nofilt (by omega)).symm | exact (ht.nopath (by omega)).1.symm | exact (ht.nopath (by omega)).2.1.symm | exact (ht.nopath (by omega)).2.2.1.symm | exact (ht.nopath (by omega)).2.2.2.1.symm | exact (ht.nopath (by omega)).2.2.2.2.symm
theorem used3_ok{l:LayerM}{ns:Int}(ht:l.Tidy ns)(hk:l.kind=3): Used l (used3 l):=by constructor <;> first | rfl | exact (ht.nospace (by omega)).1.symm | exact (ht.nospace (by omega)).2.symm | exact (ht.nokids (by omega)).symm | exact (ht.noof (by omega)).symm | exact (ht.nofilt (by omega)).symm | exact (ht.nopath (by omega)).1.symm | exact (ht.nopath (by omega)).2.1.symm | exact (ht.nopath (by omega)).2.2.1.symm | exact (ht.nopath (by omega)).2.2.2.1.symm | exact (ht.nopath (by omega)).2.2.2.2.symm
theorem used4_ok{l:LayerM}{ns:Int}(ht:l.Tidy ns)(hk:l.kind=4): Used l (used4 l):=by constructor <;> first | rfl | exact (ht.nospace (by omega)).1.symm | exact (ht.nospace (by omega)).2.symm | exact (ht.nokids (by omega)).symm | exact (ht.noof (by omega)).symm | exact (ht.nofilt (by omega)).symm | exact (ht.nopath (by omega)).1.symm | exact (ht.nopath (by omega)).2.1.symm | exact (ht.nopath (by omega)).2.2.1.symm | exact (ht.nopath (by omega)).2.2.2.1.symm | exact (ht.nopath (by omega)).2.2.2.2.symm
theorem used5_ok{l:LayerM}{ns:Int}(ht:l.Tidy ns)(hk:l.kind=5): Used l (used5 l):=by constructor <;> first | rfl | exact (ht.nospace (by omega)).1.symm | exact (ht.nospace (by omega)).2.symm | exact (ht.nokids (by omega)).symm | exact (ht.noof (by omega)).symm | exact (ht.nofilt (by omega)).symm | exact (ht.nopath (by omega)).1.symm | exact (ht.nopath (by omega)).2.1.symm | exact (ht.nopath (by omega)).2.2.1.symm | exact (ht.nopath (by omega)).2.2.2.1.symm | exact (ht.nopath (by omega)).2.2.2.2.symm
theorem tree_fields(d:DocM)(l:LayerM)(t mb:Nat)(w:World)(hT:TreeW w t mb d)(h:l.At w)(ht:l.Tidy d.sn)(hg:l.good=true)(hth:l.Thin):
  Calls prog 166 #[.pointer (some ⟨t,0,none⟩),l.v] w fun e w'=>e=.returned (.tuple #[])∧Turn [] w w':=by
 obtain⟨W,hW⟩:∃W,W=w.alloc (.cells ⟨l.row⟩ 89):=⟨_,rfl⟩;have T0:Turn [] w W:=by rw [hW];exact (tR w).alloc _
 have x3:W.heap[w.heap.size]?=some (.cells ⟨l.row⟩ 89 (0,0)):=by rw [hW];exact heap_alloc_new _ _
 have hN:=fun u=>prog_name l.name ht.name u;have hB3:∀u,Turn [] W u→u.heap[w.heap.size]?=some (.cells ⟨l.row⟩ 89 (0,0)):=fun u T=>(T.old _ (Array.getElem?_eq_some_iff.1 x3).1 (by simp)).trans x3;have hcells:∀u,Turn [] W u→u.cell? ⟨w,0,none⟩=some (.int .i64 l.id)∧u.cell? ⟨w,1,none⟩=some (.int .i64 l.kind)∧u.cell? ⟨w,2,none⟩=some (.string l.name)∧u.cell? ⟨w,4,none⟩=some (.int .i64 l.opacity)∧u.cell? ⟨w,5,none⟩=some (.int .i64 l.mode)∧u.cell? ⟨w,29,none⟩=some (.bool l.hasMask)∧u.cell? ⟨w,30,none⟩=some (.slice l.mA l.mn l.mc):=fun u T=>⟨cell_at (hB3 u T) rfl,cell_at (hB3 u T) rfl,cell_at (hB3 u T) rfl,cell_at (hB3 u T) rfl,cell_at (hB3 u T) rfl,cell_at (hB3 u T) rfl,cell_at (hB3 u T) rfl⟩;obtain⟨hk1,hk2⟩:=ht.kind;obtain⟨ho1,ho2⟩:=ht.opac;obtain⟨hm1,hm2⟩:=ht.mode;have hC0:=hcells W (Turn.refl _ _);obtain⟨p0,p1,p2,p4,p5,p29,p30⟩:=hC0;have k1:decide (1≤l.kind)=true:=decide_eq_true hk1;have k2:decide (l.kind≤5)=true:=decide_eq_true hk2;have k3:decide (0≤l.opacity)=true:=decide_eq_true ho1;have k4:decide (l.opacity≤255)=true:=decide_eq_true ho2;have k5:decide (0≤l.mode)=true:=decide_eq_true hm1;have k6:decide (l.mode≤15)=true:=decide_eq_true hm2;have HN:=lh hN;have HA:=lh h;have HTI:=lh ht;have HG:=lh hg;have HB:=lh hB3;have HCE:=lh hcells;have HT:=lh hT;have HTH:=lh hth;clear hth hN h ht hg hB3 hcells hT x3;unfold LayerM.v;go_enter func166,ntmps166;go_upto_region 1 with fail
 rw [←hW];clear hW;go_upto_region 2 with (go_at_call 161;refine (demand_ok _ _ _).mono ?_;rintro e w3 ⟨rfl,rfl⟩)
 have HK2:Hid (∀u,Turn [] W u→Turn [] W u∧u.cell? ⟨w,0,none⟩=some (.int .i64 l.id)∧u.cell? ⟨w,2,none⟩=some (.string l.name)):=lh fun u T=>⟨T,(HCE.out u T).1,(HCE.out u T).2.2.1⟩;have TD:=(tR W).drawn 1;have HK2:Hid (∀u,Turn [] W u→Turn [] W u∧u.cell? ⟨w,0,none⟩=some (.int .i64 l.id)∧u.cell? ⟨w,2,none⟩=some (.string l.name)):=lh fun u T=>⟨T,(HCE.out u T).1,(HCE.out u T).2.2.1⟩;have TD:=(tR W).drawn 1;go_region_held3 (fun w'=>Turn [] W w'∧w'.cell? ⟨w,0,none⟩=some (.int .i64 l.id)∧w'.cell? ⟨w,2,none⟩=some (.string l.name)) (first | assumption | exact HK2.out _ TD | exact HK2.out _ ((And.left (by assumption:Turn [] W _∧_)).trans ht1)) (first
  | (go_at_call 196;refine (HN.out _).mono ?_;rintro e w1 ⟨rfl,ht1⟩)
  | (go_at_call 161;refine (demand_ok _ _ _).mono ?_;rintro e w3 ⟨rfl,rfl⟩))
 rename_i hH;have TW:=hH.1;clear hH p0 p1 p2 p4 p5 p29 p30 HK2 HN;obtain⟨p0,p1,p2,p4,p5,p29,p30⟩:=HCE.out w1 TW;go_upto_region 4 with (go_at_call 161;refine (demand_ok _ _ _).mono ?_;rintro e w3 ⟨rfl,rfl⟩)
 have hgd:=HG.out;unfold LayerM.good at hgd;rw [Bool.and_eq_true,Bool.and_eq_true]at hgd;have HGT:=lh hgd.1.2;have HGF:=lh hgd.2;have HM:=lh (fun u (T:Turn [] W u)=>prog_raster l.mask hgd.1.1 l.mA l.mn l.mc u ((HA.out.turn (T0.trans T)).mask));have HK4:Hid (∀u,Turn [] W u→Turn [] W u∧u.cell? ⟨w,0,none⟩=some (.int .i64 l.id)∧u.cell? ⟨w,29,none⟩=some (.bool l.hasMask)∧u.cell? ⟨w,30,none⟩=some (.slice l.mA l.mn l.mc)):=lh fun u T=>⟨T,(HCE.out u T).1,(HCE.out u T).2.2.2.2.2.1,(HCE.out u T).2.2.2.2.2.2⟩;clear hgd p0 p1 p2 p4 p5 p29 p30 k1 k2 k3 k4 k5 k6;have TD:=TW.drawn 1;have hno:=HTI.out.nomask;go_cut [] (fun wx=>Turn [] W wx);case first=>
  cases hmk:l.hasMask with
  | true=>
   as_aux_lemma=>
    rw [hmk]at HK4;clear hno hmk;refine AnyTill.start (fun w'=>Turn [] W w') 16 (by kernel_rfl) ?_;have hS:Turn [] W w1.drew:=TD;generalize w1.drew=Y at *;refine tk 0 9 44 (.pointer (some ⟨w,30,none⟩)) hS ?_;(try go_frame);refine tk 1 9 45 (.agg #[.slice l.mA l.mn l.mc]) hS ?_ (hy:=fun w' hw=>by obtain⟨_,e0,e29,e30⟩:=HK4.out _ hw;go_simp);(try go_frame);refine tk 14 9 58 (.pointer (some ⟨w,0,none⟩)) hS ?_;(try go_frame);refine tk 15 9 59 l.id hS ?_ (hy:=fun w' hw=>by obtain⟨_,e0,e29,e30⟩:=HK4.out _ hw;go_simp);(try go_frame);refine tk1 2 fun K hK=>?_;go_simp;refine (HM.out _ hS).mono ?_;rintro e w2 ⟨rfl,ht1⟩;have hS:=hS.trans ht1;clear ht1;refine hK _ _ (fun _=>hS) ?_;clear hK K;(try go_frame);refine tk 3 9 47 (.bool true) hS ?_;(try go_frame);refine tk 4 9 48 (.pointer (some ⟨w,29,none⟩)) hS ?_;(try go_frame);refine tk 5 9 49 (.bool true) hS ?_ (hy:=fun w' hw=>by obtain⟨_,e0,e29,e30⟩:=HK4.out _ hw;go_simp);(try go_frame);refine tk 6 9 50 (.bool true) hS ?_;(try go_frame);refine tks 7 9 51 hS ?_;(try go_frame);refine tks 8 9 52 hS ?_;(try go_frame);refine tks 9 9 53 hS ?_;(try go_frame);refine tks 10 9 54 hS ?_;(try go_frame);refine tks 11 9 55 hS ?_;(try go_frame);refine tk 12 9 56 (.bool true) hS ?_;(try go_frame);refine tk 13 9 57 (.bool true) hS ?_;(try go_frame);refine tk1 16 fun K hK=>?_;go_simp;refine (demand_ok _ _ _).mono ?_;rintro e w3 ⟨rfl,rfl⟩;refine hK _ _ (fun _=>hS) ?_;clear hK K;(try go_frame);refine tkd ?_;(go_wp2_with fail);go_meet;exact hS
  | false=>
   as_aux_lemma=>
    have hz:l.mn=0:=hno hmk;rw [hmk,hz]at HK4;rw [hz]at HM;clear hno hmk hz;go_region_held3 (fun w'=>Turn [] W w'∧w'.cell? ⟨w,0,none⟩=some (.int .i64 l.id)∧w'.cell? ⟨w,29,none⟩=some (.bool false)∧w'.cell? ⟨w,30,none⟩=some (.slice l.mA 0 l.mc)) (first | assumption | exact HK4.out _ TD | exact HK4.out _ ((And.left (by assumption:Turn [] W _∧_)).trans ht1)) (first
     | (go_at_call 186;refine (HM.out _ (And.left (by assumption:Turn [] W _∧_))).mono ?_;rintro e w1 ⟨rfl,ht1⟩)
     | (go_at_call 161;refine (demand_ok _ _ _).mono ?_;rintro e w3 ⟨rfl,rfl⟩))
    rename_i hH;(go_wp2_with fail);go_meet;exact hH.1
 clear TW TD HK4 HM hno;have hbz:∀u,(Instr.build 89 #[]).run prog u=.ok (.agg ⟨zeroL.row⟩) u:=fun u=>by kernel_rfl
 have HBZ:=lh hbz;have HAL:=lh alloc_LY;have HST:=lh (fun u=>store_LY u zeroL);clear hbz;go_upto_region 6 with (first
  | (refine wpList_yield (o:=⟨some 61,_,_,_,_,_⟩) rfl (exec_build (vs:=#[]) (v:=.agg ⟨zeroL.row⟩) rfl rfl (HBZ.out _)) ?_;try go_frame)
  | (refine wpList_yield (o:=⟨some 4,_,_,_,_,_⟩) rfl (exec_alloc (t:=89) rfl (HAL.out _)) ?_;try go_frame)
  | (refine wpList_store_run rfl 89 (.tmp 4) (.tmp 61) rfl rfl rfl (HST.out _) ?_;try go_frame))
 obtain⟨V,hV⟩:∃V,V=wc.alloc (.cells ⟨zeroL.row⟩ 89):=⟨_,rfl⟩;have TV:Turn [] W V:=by rw [hV];exact hcut.alloc _
 have h4:V.heap[wc.heap.size]?=some (.cells ⟨zeroL.row⟩ 89 (0,0)):=by rw [hV];exact heap_alloc_new _ _
 have hW0:W.heap.size≤wc.heap.size:=hcut.size;rw [←hV];clear hV HBZ HAL HST hcut;generalize wc.heap.size=b4 at *;go_cut [5] (fun s5 wx=>s5=.bool (l.kind == 1 || l.kind == 4)∧wx.heap[b4]?=some (.cells ⟨zeroL.row⟩ 89 (0,0))∧Turn [] W wx);case first=>
  as_aux_lemma=>
   obtain⟨_,p1,_⟩:=HCE.out V TV;have HV:=lh (And.intro h4 TV);clear h4 TV;by_cases e1:l.kind=1
   ·have c1:(l.kind == 1)=true:=(by simp [e1]);rw [e1]at p1;(go_wp2_with fail);go_meet;exact⟨by simp [e1],HV.out.1,HV.out.2⟩
   have c1:(l.kind == 1)=false:=(by simp [e1]);by_cases e4:l.kind=4
   ·rw [e4]at p1;(go_wp2_with fail);go_meet;exact⟨by simp [e4],HV.out.1,HV.out.2⟩
   have c4:(l.kind == 4)=false:=(by simp [e4]);(go_wp2_with fail);go_meet;exact⟨by simp [e1,e4],HV.out.1,HV.out.2⟩
 obtain⟨rfl,h4,TV⟩:=hcut;go_upto_if 70 with fail
 go_cut [5] (fun s5 wx=>s5=.bool (l.kind == 1 || l.kind == 4)∧wx.heap[b4]?=some (.cells ⟨(placedA l.place).row⟩ 89 (0,0))∧Turn [] W wx);case first=>
  have h3:=HB.out wc TV;cases hu:(l.kind == 1 || l.kind == 4)with
  | true=>
   as_aux_lemma=>
    have p7:=cell_at (i:=7) h3 rfl;have p8:=cell_at (i:=8) h3 rfl;have p9:=cell_at (i:=9) h3 rfl;have p10:=cell_at (i:=10) h3 rfl;have p11:=cell_at (i:=11) h3 rfl;have p12:=cell_at (i:=12) h3 rfl;have p13:=cell_at (i:=13) h3 rfl;have HST:=lh (part_store (o:=7) (ty:=80) (p:=[l.place.a,l.place.b,l.place.c,l.place.d,l.place.e,l.place.f,l.place.den]) (L':=(placedA l.place).row) h4 infoAFn (by simp [LayerM.row]) (by simp [Value.oneCell']) rfl);have HEND:=lh (And.intro (setRow_at (L':=(placedA l.place).row) h4) (TV.setRow (g:=b4) ⟨(placedA l.place).row⟩ (.inr hW0)));clear h3 h4 TV;(go_wp2_with (refine wpList_store_run rfl 80 (.tmp 73) (.tmp 72) rfl rfl rfl HST.out ?_;try go_frame));go_meet;exact⟨by rw [hu],HEND.out⟩
  | false=>
   as_aux_lemma=>
    have hk:l.kind≠1∧l.kind≠4:=(by simpa using hu);have hp:=HTI.out.noplace hk.1 hk.2;have HV:=lh (And.intro h4 TV);clear h3 h4 TV;(go_wp2_with fail);go_meet;exact⟨by rw [hu],by rw [hp];exact HV.out⟩
 obtain⟨rfl,h4,TV⟩:=hcut;go_step;go_step;go_cut [5] (fun s5 wx=>s5=.bool (l.kind == 1 || l.kind == 4)∧(∃p:LayerM,Used l p∧wx.heap[b4]?=some (.cells ⟨p.row⟩ 89 (0,0)))∧Turn [] W wx);case first=>
  have h3:=HB.out wc TV;have y1:=cell_at (i:=1) h3 rfl;obtain hk | hk | hk | hk | hk:l.kind=1∨l.kind=2∨l.kind=3∨l.kind=4∨l.kind=5:=by have:=HTI.out.kind;omega
  ·as_aux_lemma=>
    rw [hk]at y1;have hu:=used1_ok HTI.out hk;have p14:=cell_at (i:=14) h3 rfl;have p28:=cell_at (i:=28) h3 rfl;have q14:=cell_at (i:=14) h4 rfl;have q28:=cell_at (i:=28) h4 rfl;have zf:=fun i=>frozen_at h4 i;have HV:=lh (And.intro h4 TV);have HU:=lh hu;clear h3 h4 TV hu hk;(go_upto_region 11 with fail);go_region;(all_goals (go_wp2_with fail;go_meet));all_goals exact⟨rfl,⟨used1 l,HU.out,(setCell_at (setCell_at HV.out.1 rfl) rfl)⟩,((HV.out.2.setCell (a:=⟨b4,14,none⟩) _ (.inr hW0)).setCell (a:=⟨b4,28,none⟩) _ (.inr hW0)).drawn 1⟩
  ·as_aux_lemma=>
    rw [hk]at y1;have hu:=used2_ok HTI.out hk;have p15:=cell_at (i:=15) h3 rfl;have q15:=cell_at (i:=15) h4 rfl;have zf:=fun i=>frozen_at h4 i;have HV:=lh (And.intro h4 TV);have HU:=lh hu;clear h3 h4 TV hu hk;(go_wp2_with fail);go_meet;exact⟨rfl,⟨used2 l,HU.out,(setCell_at HV.out.1 rfl)⟩,(HV.out.2.setCell (a:=⟨b4,15,none⟩) _ (.inr hW0))⟩
  ·as_aux_lemma=>
    rw [hk]at y1;have hu:=used3_ok HTI.out hk;have p17:=cell_at (i:=17) h3 rfl;have p18:=cell_at (i:=18) h3 rfl;have p19:=cell_at (i:=19) h3 rfl;have p20:=cell_at (i:=20) h3 rfl;have p21:=cell_at (i:=21) h3 rfl;have p22:=cell_at (i:=22) h3 rfl;have HST:=lh (part_store (o:=17) (ty:=83) (p:=[l.filt.kind,l.filt.radius,.slice l.filt.kA l.filt.kn l.filt.kc,l.filt.div,l.filt.value,.slice l.filt.cA l.filt.cn l.filt.cc]) (L':=(used3 l).row) h4 infoFIL (by simp [LayerM.row]) (by simp [Value.oneCell']) rfl);have HEND:=lh (And.intro (setRow_at (L':=(used3 l).row) h4) (TV.setRow (g:=b4) ⟨(used3 l).row⟩ (.inr hW0)));have HU:=lh hu;clear h3 h4 TV hu hk;(go_wp2_with (refine wpList_store_run rfl 83 (.tmp 93) (.tmp 92) rfl rfl rfl HST.out ?_;try go_frame));go_meet;exact⟨rfl,⟨used3 l,HU.out,HEND.out.1⟩,HEND.out.2⟩
  ·as_aux_lemma=>
    rw [hk]at y1;have hu:=used4_ok HTI.out hk;have p16:=cell_at (i:=16) h3 rfl;have q16:=cell_at (i:=16) h4 rfl;have zf:=fun i=>frozen_at h4 i;have HV:=lh (And.intro h4 TV);have HU:=lh hu;clear h3 h4 TV hu hk;(go_wp2_with fail);go_meet;exact⟨rfl,⟨used4 l,HU.out,(setCell_at HV.out.1 rfl)⟩,(HV.out.2.setCell (a:=⟨b4,16,none⟩) _ (.inr hW0))⟩
  as_aux_lemma=>
   rw [hk]at y1;have hu:=used5_ok HTI.out hk;have p27:=cell_at (i:=27) h3 rfl;have p23:=cell_at (i:=23) h3 rfl;have p24:=cell_at (i:=24) h3 rfl;have p25:=cell_at (i:=25) h3 rfl;have p26:=cell_at (i:=26) h3 rfl;have q27:=cell_at (i:=27) h4 rfl;have q23:=cell_at (i:=23) h4 rfl;have q24:=cell_at (i:=24) h4 rfl;have q25:=cell_at (i:=25) h4 rfl;have q26:=cell_at (i:=26) h4 rfl;have zf:=fun i=>frozen_at h4 i;have HV:=lh (And.intro h4 TV);have HU:=lh hu;clear h3 h4 TV hu hk;(go_upto_region 19 with fail);go_region;(all_goals (go_wp2_with fail;go_meet));all_goals exact⟨rfl,⟨used5 l,HU.out,(setCell_at (setCell_at (setCell_at (setCell_at (setCell_at HV.out.1 rfl) rfl) rfl) rfl) rfl)⟩,(((((HV.out.2.setCell (a:=⟨b4,27,none⟩) _ (.inr hW0)).setCell (a:=⟨b4,23,none⟩) _ (.inr hW0)).setCell (a:=⟨b4,24,none⟩) _ (.inr hW0)).setCell (a:=⟨b4,25,none⟩) _ (.inr hW0)).setCell (a:=⟨b4,26,none⟩) _ (.inr hW0)).drawn 1⟩
 obtain⟨rfl,⟨p,hu,h4⟩,TV⟩:=hcut;obtain⟨wz,hwz⟩:∃z,z=wc:=⟨_,rfl⟩;subst hwz;have h3:=HB.out wz TV;have p0:=cell_at (i:=0) h3 rfl;have p7:=cell_at (i:=7) h3 rfl;have q7:wz.cell? ⟨b4,7,none⟩=some (.int .i64 l.place.a):=by rw [←hu.place];exact cell_at h4 rfl
 have p8:=cell_at (i:=8) h3 rfl;have q8:wz.cell? ⟨b4,8,none⟩=some (.int .i64 l.place.b):=by rw [←hu.place];exact cell_at h4 rfl
 have p9:=cell_at (i:=9) h3 rfl;have q9:wz.cell? ⟨b4,9,none⟩=some (.int .i64 l.place.c):=by rw [←hu.place];exact cell_at h4 rfl
 have p10:=cell_at (i:=10) h3 rfl;have q10:wz.cell? ⟨b4,10,none⟩=some (.int .i64 l.place.d):=by rw [←hu.place];exact cell_at h4 rfl
 have p11:=cell_at (i:=11) h3 rfl;have q11:wz.cell? ⟨b4,11,none⟩=some (.int .i64 l.place.e):=by rw [←hu.place];exact cell_at h4 rfl
 have p12:=cell_at (i:=12) h3 rfl;have q12:wz.cell? ⟨b4,12,none⟩=some (.int .i64 l.place.f):=by rw [←hu.place];exact cell_at h4 rfl
 have p13:=cell_at (i:=13) h3 rfl;have q13:wz.cell? ⟨b4,13,none⟩=some (.int .i64 l.place.den):=by rw [←hu.place];exact cell_at h4 rfl
 have p14:=cell_at (i:=14) h3 rfl;have q14:wz.cell? ⟨b4,14,none⟩=some (.int .i64 l.space):=by rw [←hu.space];exact cell_at h4 rfl
 have p15:=cell_at (i:=15) h3 rfl;have q15:wz.cell? ⟨b4,15,none⟩=some (.slice p.kidA l.kidn p.kidc):=by rw [←hu.kidn];exact cell_at h4 rfl
 have p16:=cell_at (i:=16) h3 rfl;have q16:wz.cell? ⟨b4,16,none⟩=some (.int .i64 l.of):=by rw [←hu.of_];exact cell_at h4 rfl
 have p23:=cell_at (i:=23) h3 rfl;have q23:wz.cell? ⟨b4,23,none⟩=some (.int .u8 l.f0):=by rw [←hu.f0];exact cell_at h4 rfl
 have p24:=cell_at (i:=24) h3 rfl;have q24:wz.cell? ⟨b4,24,none⟩=some (.int .u8 l.f1):=by rw [←hu.f1];exact cell_at h4 rfl
 have p25:=cell_at (i:=25) h3 rfl;have q25:wz.cell? ⟨b4,25,none⟩=some (.int .u8 l.f2):=by rw [←hu.f2];exact cell_at h4 rfl
 have p26:=cell_at (i:=26) h3 rfl;have q26:wz.cell? ⟨b4,26,none⟩=some (.int .u8 l.f3):=by rw [←hu.f3];exact cell_at h4 rfl
 have p27:=cell_at (i:=27) h3 rfl;have q27:wz.cell? ⟨b4,27,none⟩=some (.slice p.pA l.pn p.pc):=by rw [←hu.pn];exact cell_at h4 rfl
 have p28:=cell_at (i:=28) h3 rfl;have q28:wz.cell? ⟨b4,28,none⟩=some (.slice p.tA l.tn p.tc):=by rw [←hu.tn];exact cell_at h4 rfl
 have HD:Hid (∀(e id:Int) (u:World),Calls prog 161 #[.bool true,e,id] u fun x w'=>x=.returned (.tuple #[])∧w'=u):=lh fun e id u=>(demand_ok e id u).mono fun _ _ h=>⟨h.1,h.2.symm⟩;have HF:Hid (∀u,Turn [] wz u→u.heap[w.heap.size]?=some (.cells ⟨l.row⟩ 89 (0,0))∧u.heap[b4]?=some (.cells ⟨p.row⟩ 89 (0,0))):=lh fun u t=>⟨HB.out u (TV.trans t),(t.old _ (Array.getElem?_eq_some_iff.1 h4).1 (by simp)).trans h4⟩;have HPF:=lh hu.filt;have HTV:=lh TV;clear h3 h4 hu TV;go_upto_region 20 with fail
 go_cut [] (fun wx=>Turn [] wz wx);case first=>
  as_aux_lemma=>
   go_quiet ((go_at_call 161;exact Calls.quiet_of_same (HD.out _ _ _)))
   (go_wp2_with fail);go_meet;exact (tR wz).drawn nq
 clear p0 p7 p8 p9 p10 p11 p12 p13 p14 p15 p16 p23 p24 p25 p26 p27 p28 q7 q8 q9 q10 q11 q12 q13 q14 q15 q16 q23 q24 q25 q26 q27 q28;have TC:=hcut;clear hcut;have hby:=fun u (t:Turn [] wz u)=>filt_bytes l.filt l.ks l.cs u ((HA.out.turn (T0.trans (HTV.out.trans t))).ks) ((HA.out.turn (T0.trans (HTV.out.trans t))).cs) (by have:=HTH.out.a;omega) (by have:=HTH.out.b;omega);unfold Fv.v at hby;generalize fltS l.filt l.ks l.cs=fs at *;have HBY:=lh hby;clear hby;go_upto_region 21 with fail
 go_cut [] (fun wx=>Turn [] wz wx);case first=>
  as_aux_lemma=>
   refine AnyTill.start (fun w'=>Turn [] wz w') 9 (by kernel_rfl) ?_;have hS:Turn [] wz wc.drew:=TC.drawn 1;generalize wc.drew=Y at *;refine tk 0 99 165 (.pointer (some ⟨w,17,none⟩)) hS ?_;(try go_frame);refine tk 1 99 166 (.agg #[l.filt.kind,l.filt.radius,.slice l.filt.kA l.filt.kn l.filt.kc,l.filt.div,l.filt.value,.slice l.filt.cA l.filt.cn l.filt.cc]) hS ?_ rfl (hy:=fun w' hw=>exec_load rfl rfl (run_loadAt_mid _ w.heap.size 17 83 [l.filt.kind,l.filt.radius,.slice l.filt.kA l.filt.kn l.filt.kc,l.filt.div,l.filt.value,.slice l.filt.cA l.filt.cn l.filt.cc] _ (part_range (HF.out _ hw).1 rfl) underlying83 rfl infoFIL));(try go_frame);refine tk 3 99 168 (.pointer (some ⟨b4,17,none⟩)) hS ?_;(try go_frame);refine tk 4 99 169 (.agg #[l.filt.kind,l.filt.radius,.slice l.filt.kA l.filt.kn l.filt.kc,l.filt.div,l.filt.value,.slice l.filt.cA l.filt.cn l.filt.cc]) hS ?_ rfl (hy:=fun w' hw=>exec_load rfl rfl (run_loadAt_mid _ b4 17 83 [l.filt.kind,l.filt.radius,.slice l.filt.kA l.filt.kn l.filt.kc,l.filt.div,l.filt.value,.slice l.filt.cA l.filt.cn l.filt.cc] _ (part_range (HF.out _ hw).2 (by unfold LayerM.row;rw [HPF.out];rfl)) underlying83 rfl infoFIL));(try go_frame);refine tk 7 99 172 (.pointer (some ⟨w,0,none⟩)) hS ?_;(try go_frame);refine tk 8 99 173 l.id hS ?_ (hy:=fun w' hw=>by have f0:=cell_at (i:=0) (HF.out _ hw).1 rfl;go_simp);(try go_frame);refine tk1 2 fun K hK=>?_;go_simp;refine (HBY.out _ hS).mono ?_;rintro e w5 ⟨rfl,ht5⟩;have hS:=hS.trans ht5;refine hK _ _ (fun _=>hS) ?_;clear hK K ht5;(try go_frame);refine tk1 5 fun K hK=>?_;go_simp;refine (HBY.out _ hS).mono ?_;rintro e w6 ⟨rfl,ht6⟩;have hS:=hS.trans ht6;refine hK _ _ (fun _=>hS) ?_;clear hK K ht6;(try go_frame);refine tk 6 99 171 (.bool true) hS ?_;(try go_frame);refine tk1 9 fun K hK=>?_;go_simp;refine (demand_ok _ _ _).mono ?_;rintro e w3 ⟨rfl,rfl⟩;refine hK _ _ (fun h=>absurd rfl h) ?_;clear hK K;(try go_frame);refine tkd ?_;(go_wp2_with fail);go_meet;exact hS
 clear HBY HPF TC;have TC:=hcut;clear hcut;go_upto_region 22 with fail
 go_cut [5] (fun _ wx=>Turn [] wz wx);case first=>
  cases hpl:(l.kind == 1 || l.kind == 4)with
   | true=>
    as_aux_lemma=>
     have hok:l.place.ok=true:=HTI.out.place (by simpa using hpl);have haf:=fun u=>aff_valid l.place u;unfold Af.v at haf;rw [hok]at haf;have HAF:=lh haf;clear haf hok hpl;refine AnyTill.start (fun w'=>Turn [] wz w') 9 (by kernel_rfl) ?_;have hS:Turn [] wz wc.drew:=TC.drawn 1;generalize wc.drew=Y at *;refine tk 0 99 175 (.bool true) hS ?_;(try go_frame);refine tk 1 99 176 (.bool false) hS ?_;(try go_frame);refine tk 2 99 177 (.bool false) hS ?_;(try go_frame);refine tk 7 99 182 (.pointer (some ⟨w,0,none⟩)) hS ?_;(try go_frame);refine tk 8 99 183 l.id hS ?_ (hy:=fun w' hw=>by have f0:=cell_at (i:=0) (HF.out _ hw).1 rfl;go_simp);(try go_frame);refine tk 3 99 178 (.pointer (some ⟨w,7,none⟩)) hS ?_;(try go_frame);refine tk 4 99 179 (.agg #[l.place.a,l.place.b,l.place.c,l.place.d,l.place.e,l.place.f,l.place.den]) hS ?_ rfl (hy:=fun w' hw=>exec_load rfl rfl (run_loadAt_mid _ w.heap.size 7 80 [l.place.a,l.place.b,l.place.c,l.place.d,l.place.e,l.place.f,l.place.den] _ (part_range (HF.out _ hw).1 rfl) underlying80 rfl infoAFn));(try go_frame);refine tk1 5 fun K hK=>?_;go_simp;refine (HAF.out _).mono ?_;rintro e w7 ⟨rfl,ht7⟩;have hS:=hS.trans ht7;refine hK _ _ (fun _=>hS) ?_;clear hK K ht7;(try go_frame);refine tk 6 99 181 (.bool true) hS ?_;(try go_frame);refine tk1 9 fun K hK=>?_;go_simp;refine (demand_ok _ _ _).mono ?_;rintro e w3 ⟨rfl,rfl⟩;refine hK _ _ (fun h=>absurd rfl h) ?_;clear hK K;(try go_frame);refine tkd ?_;(go_wp2_with fail);go_meet;exact hS
   | false=>
    as_aux_lemma=>
     clear hpl;refine AnyTill.start (fun w'=>Turn [] wz w') 9 (by kernel_rfl) ?_;have hS:Turn [] wz wc.drew:=TC.drawn 1;generalize wc.drew=Y at *;refine tk 0 99 175 (.bool false) hS ?_;(try go_frame);refine tk 1 99 176 (.bool true) hS ?_;(try go_frame);refine tk 2 99 177 (.bool true) hS ?_;(try go_frame);refine tk 7 99 182 (.pointer (some ⟨w,0,none⟩)) hS ?_;(try go_frame);refine tk 8 99 183 l.id hS ?_ (hy:=fun w' hw=>by have f0:=cell_at (i:=0) (HF.out _ hw).1 rfl;go_simp);(try go_frame);refine tks 3 99 178 hS ?_;(try go_frame);refine tks 4 99 179 hS ?_;(try go_frame);refine tks 5 99 180 hS ?_;(try go_frame);refine tk 6 99 181 (.bool true) hS ?_;(try go_frame);refine tk1 9 fun K hK=>?_;go_simp;refine (demand_ok _ _ _).mono ?_;rintro e w3 ⟨rfl,rfl⟩;refine hK _ _ (fun h=>absurd rfl h) ?_;clear hK K;(try go_frame);refine tkd ?_;(go_wp2_with fail);go_meet;exact hS
 clear TC;have TC:=hcut;clear hcut;have h3:=(HF.out _ TC).1;have p0:=cell_at (i:=0) h3 rfl;have p14:=cell_at (i:=14) h3 rfl;have h5:=((T0.trans (HTV.out.trans TC)).old _ (Array.getElem?_eq_some_iff.1 HT.out.ht).1 (by simp)).trans HT.out.ht;have t0:=cell_of h5 (i:=0) (v:=.slice d.sA d.sn d.sc) rfl;have b0:decide (0≤l.space)=true:=decide_eq_true HTI.out.space.1;have b1:decide (l.space≤(d.sn:Int))=true:=decide_eq_true HTI.out.space.2;have HTC:=lh TC;clear h3 h5 TC;go_upto_region 23 with fail
 go_cut [] (fun wx=>Turn [] wz wx);case first=>
  as_aux_lemma=>
   go_quiet ((go_at_call 161;exact Calls.quiet_of_same (HD.out _ _ _)))
   (go_wp2_with fail);go_meet;exact HTC.out.drawn nq
 clear p0 p14 t0 b0 b1 HTC;have TC:=hcut;clear hcut;have hra:=fun u (t:Turn [] wz u)=>prog_raster l.tiles HGT.out l.tA l.tn l.tc u ((HA.out.turn (T0.trans (HTV.out.trans t))).tiles);have HRA:=lh hra;clear hra;by_cases hk:l.kind=3
 ·as_aux_lemma=>
   have hfl:fltB l.filt l.ks l.cs=true:=(by have:=HGF.out;rw [hk]at this;simpa using this);have hfv:=fun u (t:Turn [] wz u)=>filt_valid l.filt l.ks l.cs hfl u ((HA.out.turn (T0.trans (HTV.out.trans t))).ks) ((HA.out.turn (T0.trans (HTV.out.trans t))).cs);unfold Fv.v at hfv;have HFV:=lh hfv;clear hfv hfl;have HK:=lh hk;clear hk;(go_upto_region 24 with fail);refine AnyTill.start (fun w'=>Turn [] wz w') 25 (by kernel_rfl) ?_;have hS:Turn [] wz wc.drew:=TC.drawn 1;generalize wc.drew=Y at *;refine tk 0 99 202 (.pointer (some ⟨w,28,none⟩)) hS ?_;(try go_frame);refine tk 1 99 203 (.agg #[.slice l.tA l.tn l.tc]) hS ?_ (hy:=fun w' hw=>by have f28:=cell_at (i:=28) (HF.out _ hw).1 rfl;go_simp);(try go_frame);refine tk 23 99 225 (.pointer (some ⟨w,0,none⟩)) hS ?_;(try go_frame);refine tk 24 99 226 l.id hS ?_ (hy:=fun w' hw=>by have f0:=cell_at (i:=0) (HF.out _ hw).1 rfl;go_simp);(try go_frame);refine tk1 2 fun K hK=>?_;go_simp;refine (HRA.out _ hS).mono ?_;rintro e w7 ⟨rfl,ht7⟩;have hS:=hS.trans ht7;refine hK _ _ (fun _=>hS) ?_;clear hK K ht7;(try go_frame);refine tk 3 99 205 (.bool true) hS ?_;(try go_frame);refine tk 4 99 206 (.pointer (some ⟨w,1,none⟩)) hS ?_;(try go_frame);refine tk 5 99 207 ((3:Int)) hS ?_ (hy:=fun w' hw=>by have f1:=cell_at (i:=1) (HF.out _ hw).1 rfl;rw [HK.out]at f1;go_simp);(try go_frame);refine tk 6 99 208 (.bool false) hS ?_;(try go_frame);refine tk 7 99 209 (.bool false) hS ?_;(try go_frame);refine tk 8 99 210 (.pointer (some ⟨w,17,none⟩)) hS ?_;(try go_frame);refine tk 9 99 211 (.agg #[l.filt.kind,l.filt.radius,.slice l.filt.kA l.filt.kn l.filt.kc,l.filt.div,l.filt.value,.slice l.filt.cA l.filt.cn l.filt.cc]) hS ?_ rfl (hy:=fun w' hw=>exec_load rfl rfl (run_loadAt_mid _ w.heap.size 17 83 [l.filt.kind,l.filt.radius,.slice l.filt.kA l.filt.kn l.filt.kc,l.filt.div,l.filt.value,.slice l.filt.cA l.filt.cn l.filt.cc] _ (part_range (HF.out _ hw).1 rfl) underlying83 rfl infoFIL));(try go_frame);refine tk1 10 fun K hK=>?_;go_simp;refine (HFV.out _ hS).mono ?_;rintro e w8 ⟨rfl,ht8⟩;have hS:=hS.trans ht8;refine hK _ _ (fun _=>hS) ?_;clear hK K ht8;(try go_frame);refine tk 11 99 213 (.bool true) hS ?_;(try go_frame);refine tk 12 99 214 (.bool true) hS ?_;(try go_frame);refine tk 13 99 215 (.bool true) hS ?_;(try go_frame);refine tk 14 99 216 (.pointer (some ⟨w,1,none⟩)) hS ?_;(try go_frame);refine tk 15 99 217 ((3:Int)) hS ?_ (hy:=fun w' hw=>by have f1:=cell_at (i:=1) (HF.out _ hw).1 rfl;rw [HK.out]at f1;go_simp);(try go_frame);refine tk 16 99 218 (.bool true) hS ?_;(try go_frame);refine tk 17 99 219 (.bool true) hS ?_;(try go_frame);refine tks 18 99 220 hS ?_;(try go_frame);refine tks 19 99 221 hS ?_;(try go_frame);refine tks 20 99 222 hS ?_;(try go_frame);refine tk 21 99 223 (.bool true) hS ?_;(try go_frame);refine tk 22 99 224 (.bool true) hS ?_;(try go_frame);refine tk1 25 fun K hK=>?_;go_simp;refine (demand_ok _ _ _).mono ?_;rintro e w3 ⟨rfl,rfl⟩;refine hK _ _ (fun h=>absurd rfl h) ?_;clear hK K;(try go_frame);refine tkd ?_;(go_wp2_with fail);go_end0;exact⟨rfl,T0.trans (HTV.out.trans hS)⟩
 have hk3:=hk;clear hk;by_cases hk:l.kind=5
 ·as_aux_lemma=>
   have hsv:=fun u (t:Turn [] wz u)=>sel_valid l.pts (HTI.out.path hk) l.pA l.pn l.pc u ((HA.out.turn (T0.trans (HTV.out.trans t))).pts);have HSV:=lh hsv;clear hsv;have HK:=lh hk;clear hk;(go_upto_region 24 with fail);refine AnyTill.start (fun w'=>Turn [] wz w') 25 (by kernel_rfl) ?_;have hS:Turn [] wz wc.drew:=TC.drawn 1;generalize wc.drew=Y at *;refine tk 0 99 202 (.pointer (some ⟨w,28,none⟩)) hS ?_;(try go_frame);refine tk 1 99 203 (.agg #[.slice l.tA l.tn l.tc]) hS ?_ (hy:=fun w' hw=>by have f28:=cell_at (i:=28) (HF.out _ hw).1 rfl;go_simp);(try go_frame);refine tk 23 99 225 (.pointer (some ⟨w,0,none⟩)) hS ?_;(try go_frame);refine tk 24 99 226 l.id hS ?_ (hy:=fun w' hw=>by have f0:=cell_at (i:=0) (HF.out _ hw).1 rfl;go_simp);(try go_frame);refine tk1 2 fun K hK=>?_;go_simp;refine (HRA.out _ hS).mono ?_;rintro e w7 ⟨rfl,ht7⟩;have hS:=hS.trans ht7;refine hK _ _ (fun _=>hS) ?_;clear hK K ht7;(try go_frame);refine tk 3 99 205 (.bool true) hS ?_;(try go_frame);refine tk 4 99 206 (.pointer (some ⟨w,1,none⟩)) hS ?_;(try go_frame);refine tk 5 99 207 ((5:Int)) hS ?_ (hy:=fun w' hw=>by have f1:=cell_at (i:=1) (HF.out _ hw).1 rfl;rw [HK.out]at f1;go_simp);(try go_frame);refine tk 6 99 208 (.bool true) hS ?_;(try go_frame);refine tk 7 99 209 (.bool true) hS ?_;(try go_frame);refine tks 8 99 210 hS ?_;(try go_frame);refine tks 9 99 211 hS ?_;(try go_frame);refine tks 10 99 212 hS ?_;(try go_frame);refine tk 11 99 213 (.bool true) hS ?_;(try go_frame);refine tk 12 99 214 (.bool true) hS ?_;(try go_frame);refine tk 13 99 215 (.bool true) hS ?_;(try go_frame);refine tk 14 99 216 (.pointer (some ⟨w,1,none⟩)) hS ?_;(try go_frame);refine tk 15 99 217 ((5:Int)) hS ?_ (hy:=fun w' hw=>by have f1:=cell_at (i:=1) (HF.out _ hw).1 rfl;rw [HK.out]at f1;go_simp);(try go_frame);refine tk 16 99 218 (.bool false) hS ?_;(try go_frame);refine tk 17 99 219 (.bool false) hS ?_;(try go_frame);refine tk 18 99 220 (.pointer (some ⟨w,27,none⟩)) hS ?_;(try go_frame);refine tk 19 99 221 (.slice l.pA l.pn l.pc) hS ?_ (hy:=fun w' hw=>by have f27:=cell_at (i:=27) (HF.out _ hw).1 rfl;go_simp);(try go_frame);refine tk1 20 fun K hK=>?_;go_simp;refine (HSV.out _ hS).mono ?_;rintro e w9 ⟨rfl,ht9⟩;have hS:=hS.trans ht9;refine hK _ _ (fun _=>hS) ?_;clear hK K ht9;(try go_frame);refine tk 21 99 223 (.bool true) hS ?_;(try go_frame);refine tk 22 99 224 (.bool true) hS ?_;(try go_frame);refine tk1 25 fun K hK=>?_;go_simp;refine (demand_ok _ _ _).mono ?_;rintro e w3 ⟨rfl,rfl⟩;refine hK _ _ (fun h=>absurd rfl h) ?_;clear hK K;(try go_frame);refine tkd ?_;(go_wp2_with fail);go_end0;exact⟨rfl,T0.trans (HTV.out.trans hS)⟩
 as_aux_lemma=>
  have hk5:=hk;clear hk;have HK3:=lh hk3;have HK5:=lh hk5;have x3:(l.kind != 3)=true:=by simpa using hk3
  have x5:(l.kind != 5)=true:=by simpa using hk5
  clear hk3 hk5;go_upto_region 24 with fail
  refine AnyTill.start (fun w'=>Turn [] wz w') 25 (by kernel_rfl) ?_;have hS:Turn [] wz wc.drew:=TC.drawn 1;generalize wc.drew=Y at *;refine tk 0 99 202 (.pointer (some ⟨w,28,none⟩)) hS ?_;try go_frame
  refine tk 1 99 203 (.agg #[.slice l.tA l.tn l.tc]) hS ?_ (hy:=fun w' hw=>by have f28:=cell_at (i:=28) (HF.out _ hw).1 rfl;go_simp);try go_frame
  refine tk 23 99 225 (.pointer (some ⟨w,0,none⟩)) hS ?_;try go_frame
  refine tk 24 99 226 l.id hS ?_ (hy:=fun w' hw=>by have f0:=cell_at (i:=0) (HF.out _ hw).1 rfl;go_simp);try go_frame
  refine tk1 2 fun K hK=>?_;go_simp;refine (HRA.out _ hS).mono ?_;rintro e w7 ⟨rfl,ht7⟩;have hS:=hS.trans ht7;refine hK _ _ (fun _=>hS) ?_;clear hK K ht7;try go_frame
  refine tk 3 99 205 (.bool true) hS ?_;try go_frame
  refine tk 4 99 206 (.pointer (some ⟨w,1,none⟩)) hS ?_;try go_frame
  refine tk 5 99 207 l.kind hS ?_ (hy:=fun w' hw=>by have f1:=cell_at (i:=1) (HF.out _ hw).1 rfl;go_simp);try go_frame
  refine tk 6 99 208 (.bool true) hS ?_;try go_frame
  refine tk 7 99 209 (.bool true) hS ?_;try go_frame
  refine tks 8 99 210 hS ?_;try go_frame
  refine tks 9 99 211 hS ?_;try go_frame
  refine tks 10 99 212 hS ?_;try go_frame
  refine tk 11 99 213 (.bool true) hS ?_;try go_frame
  refine tk 12 99 214 (.bool true) hS ?_;try go_frame
  refine tk 13 99 215 (.bool true) hS ?_;try go_frame
  refine tk 14 99 216 (.pointer (some ⟨w,1,none⟩)) hS ?_;try go_frame
  refine tk 15 99 217 l.kind hS ?_ (hy:=fun w' hw=>by have f1:=cell_at (i:=1) (HF.out _ hw).1 rfl;go_simp);try go_frame
  refine tk 16 99 218 (.bool true) hS ?_;try go_frame
  refine tk 17 99 219 (.bool true) hS ?_;try go_frame
  refine tks 18 99 220 hS ?_;try go_frame
  refine tks 19 99 221 hS ?_;try go_frame
  refine tks 20 99 222 hS ?_;try go_frame
  refine tk 21 99 223 (.bool true) hS ?_;try go_frame
  refine tk 22 99 224 (.bool true) hS ?_;try go_frame
  refine tk1 25 fun K hK=>?_;go_simp;refine (demand_ok _ _ _).mono ?_;rintro e w3 ⟨rfl,rfl⟩;refine hK _ _ (fun h=>absurd rfl h) ?_;clear hK K;try go_frame
  refine tkd ?_;go_wp2_with fail
  go_end0;exact⟨rfl,T0.trans (HTV.out.trans hS)⟩
end Go.Proofs.YtbpklgllihhgpaaGreat
