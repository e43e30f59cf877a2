import Derived.Test.YtbpklgllihhgpaaGreatR41
set_option maxRecDepth 100000
set_option maxHeartbeats 16000000
namespace Go.Proofs.YtbpklgllihhgpaaGreat
open Tryz Go.RowKit Go.Den
def cntV(c:Int→Nat): Int→Option Value:=fun k=>if c k=0 then none else some (.int .i64 (c k:Nat))
theorem cntV_get(c:Int→Nat)(k:Int): (cntV c k).getD (0:Int)=.int .i64 (c k:Nat):=by
 unfold cntV;by_cases h:c k=0
 ·rw [if_pos h,h];rfl
 rw [if_neg h];rfl
theorem cntV_upd(c:Int→Nat)(k:Int): updI (cntV c) k (.int .i64 (c k+1:Nat))=cntV (fun q=>c q+if k=q then 1 else 0):=by
 funext q;unfold updI cntV;by_cases h:q=k
 ·subst h;simp
 have h2:¬k=q:=fun e=>h e.symm;simp [h,h2]
structure LinkW(w:World)(d:DocM)(t mb cb:Nat)(c:Int→Nat): Prop where
 tr:TreeW w t mb d
 old:t<cb∧mb<cb
 cnt:MapI w cb (cntV c)
 dat:Stab [cb] w fun u=>d.At u
theorem LinkW.step{w w':World}{d:DocM}{t mb cb:Nat}{c c':Int→Nat}(h:LinkW w d t mb cb c)(T:Turn [cb] w w')(hm:MapI w' cb (cntV c')): LinkW w' d t mb cb c':=
 ⟨h.tr.turn T (by have:=h.old.1;simp;omega) (by have:=h.old.2;simp;omega),h.old,hm,fun u hsz hu=>h.dat u (Nat.le_trans T.size hsz) fun q hq hb=>(hu q (Nat.lt_of_lt_of_le hq T.size) hb).trans (T.old q hq hb)⟩
theorem LinkW.turn{w w':World}{d:DocM}{t mb cb:Nat}{c:Int→Nat}(h:LinkW w d t mb cb c)(T:Turn [] w w'): LinkW w' d t mb cb c:=h.step (T.mono (by simp)) (h.cnt.turn T (by simp))
theorem LinkW.look{w:World}{d:DocM}{t mb cb:Nat}{c:Int→Nat}(h:LinkW w d t mb cb c)(k:Int): (Instr.lookup 219 (.map (some cb)) k false).run prog w=.ok (.int .i64 (c k:Nat)) w:=by rw [h.cnt.look (P:=prog) (mt:=219) underlying219 underlying3 (zeroI w) k,cntV_get]
theorem LinkW.put{w:World}{d:DocM}{t mb cb:Nat}{c:Int→Nat}(h:LinkW w d t mb cb c)(k:Int):
  ∃w',(Instr.mapUpdate 219 (.map (some cb)) k (.int .i64 ((c k:Nat)+1))).run prog w=.ok () w'∧LinkW w' d t mb cb (fun q=>c q+if k=q then 1 else 0)∧Turn [cb] w w':=by
 obtain⟨w',h1,h2,h3⟩:=h.cnt.upd (P:=prog) (mt:=219) underlying219 underlying3 k (.int .i64 (c k+1:Nat));rw [cntV_upd]at h2;exact⟨w',h1,h.step h3 h2,h3⟩
theorem DocM.At.load{d:DocM}{w:World}(h:d.At w){i:Nat}(hi:i<d.ln): ∃g o l,d.lA=some ⟨g,o,none⟩∧d.layers[i]?=some l∧l.At w∧(Instr.loadAt 89 (.pointer (some ⟨g,o+i*31,none⟩))).run prog w=.ok (.agg ⟨l.row⟩) w:=by
 obtain⟨g,o,e,hR⟩:=h.layers.cell (by omega);have hls:i<d.layers.length:=by have:=h.layers.1;omega
 obtain⟨hA,hr⟩:=hR w (tR w) i d.layers[i] (by simp [hls]);exact⟨g,o,d.layers[i],e,by simp [hls],hA,run_loadAt_mid w g (o+i*31) 89 d.layers[i].row _ hr underlying89 rfl (zero_of_info infoLYR).2⟩
theorem cnt_bd{d:DocM}{w:World}(h:d.At w)(x:Int)(i:Nat): cntL d.layers x i≤50*i:=by
 induction i with
 | zero=>unfold cntL;simp
 | succ i ih=>
  by_cases hi:i<d.layers.length
  ·have hl:d.layers[i]?=some d.layers[i]:=(by simp [hi]);rw [cntL_step hl];have hA:=(h.layers.2 i _ hl).1;have hb:=hA.kidb;have hk:=hA.kids.1;have:d.layers[i].kids.count x≤d.layers[i].kids.length:=List.count_le_length;omega
  have:cntL d.layers x (i+1)=cntL d.layers x i:=by unfold cntL;rw [List.take_of_length_le (by omega),List.take_of_length_le (by omega)]
  omega
theorem tree_links(d:DocM)(t mb:Nat)(hk:∀(k:Nat) (l:LayerM),d.layers[k]?=some l→kidsM d.layers d.root l=true)(hcl:∀(k:Nat) (l:LayerM),d.layers[k]?=some l→cloneOK d.layers l)(w:World)(hT:TreeW w t mb d)(h:d.At w):
  Calls prog 167 #[.pointer (some ⟨t,0,none⟩)] w fun e w'=>e=.returned (.tuple #[])∧Turn [] w w':=by
 have hmk:=fun u:World=>run_makeMap (P:=prog) 219 u;have hsm:=h.small;have hln:=h.layers.1;have HK:=lh hk;have HCL:=lh hcl;have HT:=lh hT;have HA:=lh h;have HLN:=lh hln;have HAL:=lh alloc_LY;have q3:=cell_of hT.ht (i:=3) (v:=.slice d.lA d.ln d.lc) rfl;clear hk hcl hT h hln;go_enter func167,ntmps167;go_upto_region 1 with fail
 obtain⟨W,hW⟩:∃W,W=w.alloc (.map #[] 0):=⟨_,rfl⟩;have T0:Turn [] w W:=by rw [hW];exact (tR w).alloc _
 have x8:W.heap[w.heap.size]?=some (.map #[] 0):=by rw [hW];exact heap_alloc_new _ _
 have ltt:=(Array.getElem?_eq_some_iff.1 HT.out.ht).1;have ltm:mb<w.heap.size:=by obtain⟨es,cl,h1,_⟩:=HT.out.hm.ex;exact (Array.getElem?_eq_some_iff.1 h1).1
 have L0:LinkW W d t mb w.heap.size (fun q=>cntL d.layers q 0):=⟨HT.out.turn T0 (by simp) (by simp),⟨ltt,ltm⟩,by
  have:=mapI_empty x8;have e:cntV (fun q=>cntL d.layers q 0)=fun _=>none:=by funext q;unfold cntV cntL;simp
  rw [e];exact this,stab_old T0 (fun b hb=>by simp at hb;omega) fun u hu=>HA.out.keepD hu⟩
 have q3:=cell_of L0.tr.ht (i:=3) (v:=.slice d.lA d.ln d.lc) rfl;have HL0:=lh L0;rw [←hW];clear hW x8 L0 ltt ltm hmk;have hcb:=Nat.le_refl w.heap.size;generalize hcbe:w.heap.size=cb at *;have HCB:=lh hcbe;clear hcb hcbe;go_upto_region 2 with fail
 go_loopw [25] (fun s25 wr=>∃i:Nat,i≤d.ln∧s25=i∧LinkW wr d t mb cb (fun q=>cntL d.layers q i)∧Turn [cb] W wr) (fun s25 _=>d.ln - (intOf s25).toNat);case atStart=>exact⟨0,by omega,rfl,HL0.out,Turn.refl _ _⟩
 obtain⟨i,hi,rfl,hL,T⟩:=hrel;by_cases hlt:i<d.ln
 ·obtain⟨g,o,l,hlA,hls,hAt,hload⟩:=hL.dat.now.load hlt;have hst:=fun x=>cntL_step (id:=x) hls;have HST:=lh (fun u=>store_LY u l);have HLA:=lh hload;have HSTP:=lh hst;have HLL:=lh hL;have HTT:=lh T;have HLS:=lh hls;have HAT:=lh hAt;have HDA:=lh hlA;have hkb:=hAt.kidb;have b0:(0:Int)≤(i:Int):=by omega
  have b1:(i:Int)<(d.ln:Int):=by omega
  clear hload hst hL T hls hAt;rw [hlA];clear hlA;go_upto_region 4 with (first
   | (refine wpList_yield (o:=⟨some 28,_,_,_,_,_⟩) rfl (exec_load (p:=.pointer (some ⟨g,o+i*31,none⟩)) (v:=.agg ⟨l.row⟩) rfl rfl HLA.out) ?_;try go_frame)
   | (refine wpList_yield (o:=⟨some 4,_,_,_,_,_⟩) rfl (exec_alloc (t:=89) rfl (HAL.out _)) ?_;try go_frame)
   | (refine wpList_store_run rfl 89 (.tmp 4) (.tmp 28) rfl rfl rfl (HST.out _) ?_;try go_frame))
  obtain⟨V,hV⟩:∃V,V=wr.alloc (.cells ⟨l.row⟩ 89):=⟨_,rfl⟩;have TV:Turn [] wr V:=by rw [hV];exact (tR wr).alloc _
  have h9:V.heap[wr.heap.size]?=some (.cells ⟨l.row⟩ 89 (0,0)):=by rw [hV];exact heap_alloc_new _ _
  have y15:=cell_at (i:=15) h9 rfl;rw [←hV];clear hV h9;generalize wr.heap.size=b4 at *;have HLV:=lh (HLL.out.turn TV);have HTV:=lh (HTT.out.trans (TV.mono (by simp)));clear TV;go_upto_region 5 with fail
  clear y15;go_loopw [32] (fun s32 wi=>∃j:Nat,j≤l.kidn∧s32=j∧LinkW wi d t mb cb (fun q=>cntL d.layers q i+(l.kids.take j).count q)∧Turn [cb] W wi) (fun s32 _=>l.kidn - (intOf s32).toNat);case atStart=>exact⟨0,by omega,rfl,by simpa using HLV.out,HTV.out⟩
  obtain⟨j,hj,rfl,hL,T⟩:=hrel;by_cases hjl:j<l.kidn
  ·obtain⟨_,_,l',_,hl',hAt,_⟩:=hL.dat.now.load hlt;obtain rfl:l=l':=(by rw [HLS.out]at hl';injection hl');obtain⟨g2,o2,hga,hR⟩:=hAt.kids.cell (by omega);have hcell:=hR wr (Turn.refl _ _) j hjl;have hct:=fun q=>count_take (c:=l.kids) (id:=q) (k:=j) (by have:=hAt.kids.1;omega);have hb1:=cnt_bd hL.dat.now (l.kids.getD j 0) i;have hb2:(l.kids.take j).count (l.kids.getD j 0)≤50:=Nat.le_trans List.count_le_length (by have:=hAt.kids.1;simp;omega);obtain⟨w3,hup,hL3,hT3⟩:=hL.put (l.kids.getD j 0);have hlk:=hL.look (l.kids.getD j 0);have hL3:LinkW w3 d t mb cb (fun q=>cntL d.layers q i+(l.kids.take (j+1)).count q):=(by have e:(fun q=>cntL d.layers q i+(l.kids.take (j+1)).count q)=(fun q=>(cntL d.layers q i+(l.kids.take j).count q)+if l.kids.getD j 0=q then 1 else 0):=(by funext q;rw [hct q];omega);rw [e];exact hL3);have HL3:=lh hL3;have HT3:=lh (T.trans hT3);have hci:i≤50:=(by omega);have hb3:cntL d.layers (l.kids.getD j 0) i≤2500:=(by omega);clear hR hct hl' hAt hL T hL3 hT3 hb1;rw [hga];clear hga;generalize l.kids.getD j 0=x at *;have hcs:cntL d.layers x i+(l.kids.take j).count x≤2550:=(by omega);generalize cntL d.layers x i+(l.kids.take j).count x=c at *;clear hb2 hb3;have c0:(0:Int)≤(j:Int):=(by omega);have c1:(j:Int)<(l.kidn:Int):=(by omega);have c2:(j:Int)≤50:=(by omega);(go_wp2_with fail);go_roundw;case rel=>exact⟨j+1,by omega,by go_num,HL3.out,HT3.out⟩
   simp [intOf];omega
  obtain rfl:j=l.kidn:=by omega
  have HL2:=lh hL;have HT2:=lh T;clear hL T;have htk:l.kids.take l.kidn=l.kids:=List.take_of_length_le (by have:=HAT.out.kids.1;omega);go_wp2_with fail
  go_roundw;case rel=>exact⟨i+1,by omega,by go_num,by
   have:=HL2.out;rw [htk]at this;have e:(fun q=>cntL d.layers q (i+1))=fun q=>cntL d.layers q i+l.kids.count q:=(by funext q;exact HSTP.out q);rw [e];exact this,HT2.out⟩
  simp [intOf];omega
 obtain rfl:i=d.ln:=by omega
 have q3:=cell_of hL.tr.ht (i:=3) (v:=.slice d.lA d.ln d.lc) rfl;have HLL:=lh hL;have HTT:=lh T;clear hL T;go_upto_region 11 with fail
 go_loopw [48] (fun s48 wr=>∃i:Nat,i≤d.ln∧s48=i∧LinkW wr d t mb cb (fun q=>cntL d.layers q d.ln)∧Turn [cb] W wr) (fun s48 _=>d.ln - (intOf s48).toNat);case atStart=>exact⟨0,by omega,rfl,HLL.out,HTT.out⟩
 obtain⟨i,hi,rfl,hL,T⟩:=hrel;by_cases hlt:i<d.ln
 ·obtain⟨g,o,l,hlA,hls,hAt,hload⟩:=hL.dat.now.load hlt;have HST:=lh (fun u=>store_LY u l);have HLA:=lh hload;have HLL:=lh hL;have HTT:=lh T;have HLS:=lh hls;have HAT:=lh hAt;have hkb:=hAt.kidb;have hkm:=HK.out i l hls;have hkm2:l.kids.all (fun k=>(atN (d.layers.map (·.id)) k).isSome)=true∧(if l.id=d.root then cntL d.layers l.id d.layers.length == 0 else cntL d.layers l.id d.layers.length == 1)=true:=by unfold kidsM at hkm;rw [Bool.and_eq_true]at hkm;exact hkm
  have HKA:=lh hkm2.1;have HKB:=lh hkm2.2;have b0:(0:Int)≤(i:Int):=by omega
  have b1:(i:Int)<(d.ln:Int):=by omega
  clear hload hL T hls hAt hkm hkm2;rw [hlA];clear q3;go_upto_region 13 with (first
   | (refine wpList_yield (o:=⟨some 51,_,_,_,_,_⟩) rfl (exec_load (p:=.pointer (some ⟨g,o+i*31,none⟩)) (v:=.agg ⟨l.row⟩) rfl rfl HLA.out) ?_;try go_frame)
   | (refine wpList_yield (o:=⟨some 8,_,_,_,_,_⟩) rfl (exec_alloc (t:=89) rfl (HAL.out _)) ?_;try go_frame)
   | (refine wpList_store_run rfl 89 (.tmp 8) (.tmp 51) rfl rfl rfl (HST.out _) ?_;try go_frame))
  obtain⟨V,hV⟩:∃V,V=wr.alloc (.cells ⟨l.row⟩ 89):=⟨_,rfl⟩;have TV:Turn [] wr V:=by rw [hV];exact (tR wr).alloc _
  have h9:V.heap[wr.heap.size]?=some (.cells ⟨l.row⟩ 89 (0,0)):=by rw [hV];exact heap_alloc_new _ _
  have y15:=cell_at (i:=15) h9 rfl;rw [←hV];clear hV;generalize wr.heap.size=b8 at *;have HLV:=lh (HLL.out.turn TV);have HTV:=lh (HTT.out.trans (TV.mono (by simp)));have H9:=lh h9;clear TV h9;go_upto_region 14 with fail
  clear y15;go_loopw [55] (fun s55 wr=>∃j:Nat,j≤l.kidn∧s55=j∧Turn [] V wr) (fun s55 _=>l.kidn - (intOf s55).toNat);case atStart=>exact⟨0,by omega,rfl,Turn.refl _ _⟩
  obtain⟨j,hj,rfl,T⟩:=hrel;by_cases hjl:j<l.kidn
  ·have hL:=HLV.out.turn T;obtain⟨_,_,l',_,hl',hAt,_⟩:=hL.dat.now.load hlt;obtain rfl:l=l':=(by rw [HLS.out]at hl';injection hl');obtain⟨g2,o2,hga,hR⟩:=hAt.kids.cell (by omega);have hcell:=hR wr (Turn.refl _ _) j hjl;have hmem:l.kids.getD j 0∈l.kids:=(by rw [List.getD,List.getElem?_eq_getElem (by have:=hAt.kids.1;omega)];exact List.getElem_mem _);have hsome:=List.all_eq_true.1 HKA.out _ hmem;have hlk:=hL.tr.hm.lookOk (P:=prog) (mt:=219) underlying219 underlying3 (zeroI wr) (l.kids.getD j 0);obtain⟨kk,hkk⟩:=Option.isSome_iff_exists.1 hsome;have hat:atD d.ids (l.kids.getD j 0)=some (.int .i64 (kk:Int)):=(by unfold atD;rw [show d.ids=d.layers.map (·.id) from rfl,hkk];rfl);rw [hat]at hlk;have hlk:(Instr.lookup 219 (.map (some mb)) (.int .i64 (l.kids.getD j 0)) true).run prog wr=.ok (.tuple #[(kk:Int),.bool true]) wr:=hlk;have z4:=cell_of hL.tr.ht (i:=4) (v:=.map (some mb)) rfl;have y0:=cell_at (i:=0) ((T.old _ (Array.getElem?_eq_some_iff.1 H9.out).1 (by simp)).trans H9.out) rfl;have HT3:=lh T;clear hR hl' hAt hL T hmem hsome hkk hat;rw [hga];clear hga;generalize l.kids.getD j 0=x at *;have c0:(0:Int)≤(j:Int):=(by omega);have c1:(j:Int)<(l.kidn:Int):=(by omega);have c2:(j:Int)≤50:=(by omega);(go_wp2_with (go_at_call 161;refine (demand_ok _ _ _).mono ?_;rintro e w3 ⟨rfl,rfl⟩));go_roundw;case rel=>exact⟨j+1,by omega,by go_num,HT3.out⟩
   simp [intOf];omega
  obtain rfl:j=l.kidn:=by omega
  have H9b:=(T.old _ (Array.getElem?_eq_some_iff.1 H9.out).1 (by simp)).trans H9.out;have y0:=cell_at (i:=0) H9b rfl;have hL:=HLV.out.turn T;have hlk:=fun q:Nat=>(hL.turn ((tR wr).drawn q)).look l.id;have z1:=cell_of hL.tr.ht (i:=1) (v:=d.root) rfl;have HL3:=lh hL;have HT3:=lh (HTV.out.trans (T.mono (by simp)));have hbb:=HKB.out;rw [←HLN.out]at hbb;clear hL T H9b;by_cases hroot:l.id=d.root
  ·rw [if_pos hroot]at hbb;have hcn:=eq_of_beq hbb;simp only [hcn]at hlk;rw [hroot]at hlk y0;clear hbb;(go_upto_region 20 with fail);go_quiet (fail)
   (go_wp2_with (go_at_call 161;refine (demand_ok _ _ _).mono ?_;rintro e w3 ⟨rfl,rfl⟩));go_roundw;case rel=>exact⟨i+1,by omega,by go_num,HL3.out.turn ((tR wr).drawn _),HT3.out.drawn _⟩
   simp [intOf];omega
  rw [if_neg hroot]at hbb;have hcn:=eq_of_beq hbb;simp only [hcn]at hlk;have hne:(l.id == d.root)=false:=by simpa using hroot
  clear hbb;go_upto_region 20 with fail
  go_quiet (fail)
  go_wp2_with (go_at_call 161;refine (demand_ok _ _ _).mono ?_;rintro e w3 ⟨rfl,rfl⟩)
  go_roundw;case rel=>exact⟨i+1,by omega,by go_num,HL3.out.turn ((tR wr).drawn _),HT3.out.drawn _⟩
  simp [intOf];omega
 obtain rfl:i=d.ln:=by omega
 have q3:=cell_of hL.tr.ht (i:=3) (v:=.slice d.lA d.ln d.lc) rfl;have HLL:=lh hL;have HTT:=lh T;clear hL T;go_upto_region 25 with fail
 go_loopw [97] (fun s97 wr=>∃i:Nat,i≤d.ln∧s97=i∧LinkW wr d t mb cb (fun q=>cntL d.layers q d.ln)∧Turn [cb] W wr) (fun s97 _=>d.ln - (intOf s97).toNat);case atStart=>exact⟨0,by omega,rfl,HLL.out,HTT.out⟩
 obtain⟨i,hi,rfl,hL,T⟩:=hrel;by_cases hlt:i<d.ln
 ·obtain⟨g,o,l,hlA,hls,hAt,hload⟩:=hL.dat.now.load hlt;have HST:=lh (fun u=>store_LY u l);have HLA:=lh hload;have HLL:=lh hL;have HTT:=lh T;have HC1:=lh (HCL.out i l hls);have b0:(0:Int)≤(i:Int):=by omega
  have b1:(i:Int)<(d.ln:Int):=by omega
  clear hload hL T hls hAt;rw [hlA];clear q3;go_upto_region 27 with (first
   | (refine wpList_yield (o:=⟨some 100,_,_,_,_,_⟩) rfl (exec_load (p:=.pointer (some ⟨g,o+i*31,none⟩)) (v:=.agg ⟨l.row⟩) rfl rfl HLA.out) ?_;try go_frame)
   | (refine wpList_yield (o:=⟨some 15,_,_,_,_,_⟩) rfl (exec_alloc (t:=89) rfl (HAL.out _)) ?_;try go_frame)
   | (refine wpList_store_run rfl 89 (.tmp 15) (.tmp 100) rfl rfl rfl (HST.out _) ?_;try go_frame))
  obtain⟨V,hV⟩:∃V,V=wr.alloc (.cells ⟨l.row⟩ 89):=⟨_,rfl⟩;have TV:Turn [] wr V:=by rw [hV];exact (tR wr).alloc _
  have h9:V.heap[wr.heap.size]?=some (.cells ⟨l.row⟩ 89 (0,0)):=by rw [hV];exact heap_alloc_new _ _
  have y1:=cell_at (i:=1) h9 rfl;have y16:=cell_at (i:=16) h9 rfl;have HLV:=lh (HLL.out.turn TV);have HTV:=lh (HTT.out.trans (TV.mono (by simp)));have H9:=lh h9;rw [←hV];clear hV TV h9 HST;generalize wr.heap.size=b15 at *;by_cases hk4:l.kind=4
  ·obtain⟨m,hm1,hm2⟩:=HC1.out hk4;have hTL:=tree_layer d t mb l.of V HLV.out.tr HLV.out.dat.now;have hlo:layerOr d.layers l.of=m:=(by unfold layerOr;rw [hm1];rfl);rw [hlo,hm1]at hTL;have hTL:Calls prog 165 #[.pointer (some ⟨t,0,none⟩),l.of] V fun e w'=>e=.returned (.tuple #[m.v,.bool true])∧Turn [] V w':=hTL;have HTL:=lh hTL;have HST:=lh (fun u=>store_LY u m);have HM2:Hid ((m.kind != 3)=true):=lh (by simpa using hm2);rw [hk4]at y1;clear hTL hlo hm1 hm2 hk4;go_upto_region 29 with (first
    | (go_at_call 165;refine HTL.out.mono ?_;rintro e w2 ⟨rfl,ht2⟩)
    | (refine wpList_yield (o:=⟨some 16,_,_,_,_,_⟩) rfl (exec_alloc (t:=89) rfl (HAL.out _)) ?_;try go_frame)
    | (refine wpList_store_run rfl 89 (.tmp 16) (.tmp 109) rfl rfl rfl (HST.out _) ?_;try go_frame))
   obtain⟨U,hU⟩:∃U,U=w2.alloc (.cells ⟨m.row⟩ 89):=⟨_,rfl⟩;have TU:Turn [] V U:=(by rw [hU];exact ht2.alloc _);have h10:U.heap[w2.heap.size]?=some (.cells ⟨m.row⟩ 89 (0,0)):=(by rw [hU];exact heap_alloc_new _ _);have p1:=cell_at (i:=1) h10 rfl;have y0:=cell_at (i:=0) ((TU.old _ (Array.getElem?_eq_some_iff.1 H9.out).1 (by simp)).trans H9.out) rfl;have HLU:=lh (HLV.out.turn TU);have HTU:=lh (HTV.out.trans (TU.mono (by simp)));have hm3:=HM2.out;rw [←hU];clear hU TU h10 HST HTL ht2 y1 y16;generalize w2.heap.size=b16 at *;(go_wp2_with (go_at_call 161;refine (demand_ok _ _ _).mono ?_;rintro e w3 ⟨rfl,rfl⟩));go_roundw;case rel=>exact⟨i+1,by omega,by go_num,HLU.out,HTU.out⟩
   simp [intOf];omega
  have hne:(l.kind == 4)=false:=by simpa using hk4
  go_wp2_with fail
  go_roundw;case rel=>exact⟨i+1,by omega,by go_num,HLV.out,HTV.out⟩
  simp [intOf];omega
 obtain rfl:i=d.ln:=by omega
 have HTT:=lh T;clear hL T;go_wp2_with fail
 go_end0;exact⟨rfl,T0.fresh HTT.out (fun b hb=>by have:=HCB.out;simp at hb;omega)⟩
structure LayerM.Bad(l:LayerM): Prop where
 kind:1≤l.kind∧l.kind≤5
 name:l.name∈names9
 opac:l.opacity=256
theorem fields_bad(l:LayerM)(t:Nat)(w:World)(hl:l.Bad):
  Calls prog 166 #[.pointer (some ⟨t,0,none⟩),l.v] w fun e w'=>e=.panicked [{ v:=defect 1 l.id,recovered:=false }]∧Turn [] w w':=by
 obtain⟨W,hW⟩:∃W,W=w.alloc (.cells ⟨l.row⟩ 89):=⟨_,rfl⟩;have T0:Turn [] w W:=by rw [hW];exact (tR w).alloc _
 have x3:W.heap[w.heap.size]?=some (.cells ⟨l.row⟩ 89 (0,0)):=by rw [hW];exact heap_alloc_new _ _
 have hN:=fun u=>prog_name l.name hl.name u;have hB3:∀u,Turn [] W u→u.heap[w.heap.size]?=some (.cells ⟨l.row⟩ 89 (0,0)):=fun u T=>(T.old _ (Array.getElem?_eq_some_iff.1 x3).1 (by simp)).trans x3;have hcells:∀u,Turn [] W u→u.cell? ⟨w,0,none⟩=some (.int .i64 l.id)∧u.cell? ⟨w,1,none⟩=some (.int .i64 l.kind)∧u.cell? ⟨w,2,none⟩=some (.string l.name)∧u.cell? ⟨w,4,none⟩=some (.int .i64 256):=fun u T=>⟨cell_at (hB3 u T) rfl,cell_at (hB3 u T) rfl,cell_at (hB3 u T) rfl,by rw [←hl.opac];exact cell_at (hB3 u T) rfl⟩;obtain⟨hk1,hk2⟩:=hl.kind;have hC0:=hcells W (Turn.refl _ _);obtain⟨p0,p1,p2,p4⟩:=hC0;have k1:decide (1≤l.kind)=true:=decide_eq_true hk1;have k2:decide (l.kind≤5)=true:=decide_eq_true hk2;have HN:=lh hN;have HCE:=lh hcells;clear hN hl hB3 hcells x3;unfold LayerM.v;go_enter func166,ntmps166;go_upto_region 1 with fail
 rw [←hW];clear hW;go_upto_region 2 with (go_at_call 161;refine (demand_ok _ _ _).mono ?_;rintro e w3 ⟨rfl,rfl⟩)
 have HK2:Hid (∀u,Turn [] W u→Turn [] W u∧u.cell? ⟨w,0,none⟩=some (.int .i64 l.id)∧u.cell? ⟨w,2,none⟩=some (.string l.name)):=lh fun u T=>⟨T,(HCE.out u T).1,(HCE.out u T).2.2.1⟩;have TD:=(tR W).drawn 1;go_region_held3 (fun w'=>Turn [] W w'∧w'.cell? ⟨w,0,none⟩=some (.int .i64 l.id)∧w'.cell? ⟨w,2,none⟩=some (.string l.name)) (first | assumption | exact HK2.out _ TD | exact HK2.out _ ((And.left (by assumption:Turn [] W _∧_)).trans ht1)) (first
  | (go_at_call 196;refine (HN.out _).mono ?_;rintro e w1 ⟨rfl,ht1⟩)
  | (go_at_call 161;refine (demand_ok _ _ _).mono ?_;rintro e w3 ⟨rfl,rfl⟩))
 rename_i hH;have TW:=hH.1;clear hH p0 p1 p2 p4 HK2 HN;obtain⟨p0,p1,p2,p4⟩:=HCE.out w1 TW;clear HCE;go_wp2_with (go_at_call 161;refine (demand_no _ _ _).mono ?_;rintro e w3 ⟨rfl,rfl⟩)
 exact⟨rfl,rfl,T0.trans TW⟩
end Go.Proofs.YtbpklgllihhgpaaGreat
