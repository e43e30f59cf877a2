import Derived.Test.YtbpklgllihhgpaaGreatA33
set_option maxRecDepth 100000
set_option maxHeartbeats 16000000
namespace Go.Proofs.YtbpklgllihhgpaaGreat
open Tryz Go.RowKit Go.Den
def Eg(c:Int→Nat): Int→Option Value:=fun k=>if c k=0 then none else some (.int .i64 (c k:Nat))
theorem Qm(c:Int→Nat)(k:Int): (Eg c k).getD (0:Int)=.int .i64 (c k:Nat):=by
 unfold Eg;by_cases h:c k=0
 ·rw [aG h,h];rfl
 rw [aF h];rfl
theorem PH(c:Int→Nat)(k:Int): o6 (Eg c) k (.int .i64 (c k+1:Nat))=Eg (fun q=>c q+if k=q then 1 else 0):=by
 funext q;unfold o6 Eg;by_cases h:q=k
 ·subst h;simp
 have h2:¬k=q:=fun e=>h e.symm;simp [h,h2]
structure mi(w:World)(d:df)(t mb cb:Nat)(c:Int→Nat): Prop where
 tr:qI w t mb d
 old:t<cb∧mb<cb
 cnt:lq w cb (Eg c)
 dat:gG [cb] w fun u=>d.At u
theorem mi.step{w w':World}{d:df}{t mb cb:Nat}{c c':Int→Nat}(h:mi w d t mb cb c)(T:bH [cb] w w')(hm:lq w' cb (Eg c')): mi w' d t mb cb c':=
 ⟨h.tr.turn T (by have:=h.old.1;simp;omega) (by have:=h.old.2;simp;omega),h.old,hm,fun u hsz hu=>h.dat u (aK T.size hsz) fun q hq hb=>(hu q (aj hq T.size) hb).trans (T.old q hq hb)⟩
theorem mi.turn{w w':World}{d:df}{t mb cb:Nat}{c:Int→Nat}(h:mi w d t mb cb c)(T:bH [] w w'): mi w' d t mb cb c:=h.step (T.mono (by simp)) (h.cnt.turn T (by simp))
theorem mi.look{w:World}{d:df}{t mb cb:Nat}{c:Int→Nat}(h:mi w d t mb cb c)(k:Int): (Instr.lookup 219 (.map (some cb)) k false).run prog w=.ok (.int .i64 (c k:Nat)) w:=by rw [h.cnt.look (P:=prog) (mt:=219) underlying219 underlying3 (KQ w) k,Qm]
theorem mi.put{w:World}{d:df}{t mb cb:Nat}{c:Int→Nat}(h:mi w d t mb cb c)(k:Int):
  ∃w',(Instr.mapUpdate 219 (.map (some cb)) k (.int .i64 ((c k:Nat)+1))).run prog w=.ok () w'∧mi w' d t mb cb (fun q=>c q+if k=q then 1 else 0)∧bH [cb] w w':=by
 obtain⟨w',h1,h2,h3⟩:=h.cnt.upd (P:=prog) (mt:=219) underlying219 underlying3 k (.int .i64 (c k+1:Nat));rw [PH]at h2;exact⟨w',h1,h.step h3 h2,h3⟩
theorem df.At.load{d:df}{w:World}(h:d.At w){i:Nat}(hi:i<d.ln): ∃g o l,d.lA=some ⟨g,o,none⟩∧d.layers[i]?=some l∧l.At w∧(Instr.loadAt 89 (.pointer (some ⟨g,o+i*31,none⟩))).run prog w=.ok (.agg ⟨l.row⟩) w:=by
 obtain⟨g,o,e,hR⟩:=h.layers.cell (by omega);have hls:i<d.layers.length:=by have:=h.layers.1;omega
 obtain⟨hA,hr⟩:=hR w (tR w) i d.layers[i] (by simp [hls]);exact⟨g,o,d.layers[i],e,by simp [hls],hA,run_loadAt_mid w g (o+i*31) 89 d.layers[i].row _ hr underlying89 rfl (zero_of_info dS).2⟩
theorem VM{d:df}{w:World}(h:d.At w)(x:Int)(i:Nat): jJ d.layers x i≤50*i:=by
 induction i with
 | zero=>unfold jJ;simp
 | succ i ih=>
  by_cases hi:i<d.layers.length
  ·have hl:d.layers[i]?=some d.layers[i]:=(by simp [hi]);rw [wW hl];have hA:=(h.layers.2 i _ hl).1;have hb:=hA.Xk;have hk:=hA.kids.1;have:d.layers[i].kids.count x≤d.layers[i].kids.length:=List.count_le_length;omega
  have:jJ d.layers x (i+1)=jJ d.layers x i:=by unfold jJ;rw [aY (by omega),aY (by omega)]
  omega
theorem JG(d:df)(t mb:Nat)(hk:∀(k:Nat) (l:bI),d.layers[k]?=some l→pM d.layers d.root l=true)(hcl:∀(k:Nat) (l:bI),d.layers[k]?=some l→tK d.layers l)(w:World)(hT:qI w t mb d)(h:d.At w):
  Calls prog 167 #[.pointer (some ⟨t,0,none⟩)] w fun e w'=>e=.returned (.tuple #[])∧bH [] w w':=by
 have hmk:=fun u:World=>run_makeMap (P:=prog) 219 u;have hsm:=h.small;have hln:=h.layers.1;have HK:=lh hk;have HCL:=lh hcl;have HT:=lh hT;have HA:=lh h;have HLN:=lh hln;have HAL:=lh gI;have q3:=bK hT.ht (i:=3) (v:=.slice d.lA d.ln d.lc) rfl;clear hk hcl hT h hln;go_enter func167,ntmps167;go_upto_region 1 with fail
 obtain⟨W,hW⟩:∃W,W=w.alloc (.map #[] 0):=⟨_,rfl⟩;have T0:bH [] w W:=by rw [hW];exact (tR w).alloc _
 have x8:W.heap[w.heap.size]?=some (.map #[] 0):=by rw [hW];exact heap_alloc_new _ _
 have ltt:=(ae.1 HT.o.ht).1;have ltm:mb<w.heap.size:=by obtain⟨es,cl,h1,_⟩:=HT.o.hm.ex;exact (ae.1 h1).1
 have L0:mi W d t mb w.heap.size (fun q=>jJ d.layers q 0):=⟨HT.o.turn T0 (by simp) (by simp),⟨ltt,ltm⟩,by
  have:=uS x8;have e:Eg (fun q=>jJ d.layers q 0)=fun _=>none:=by funext q;unfold Eg jJ;simp
  rw [e];exact this,AC T0 (fun b hb=>by simp at hb;omega) fun u hu=>HA.o.keepD hu⟩
 have q3:=bK L0.tr.ht (i:=3) (v:=.slice d.lA d.ln d.lc) rfl;have HL0:=lh L0;rw [←hW];clear hW x8 L0 ltt ltm hmk;have hcb:=aQ w.heap.size;generalize hcbe:w.heap.size=cb at *;have HCB:=lh hcbe;clear hcb hcbe;go_upto_region 2 with fail
 go_loopw [25] (fun s25 wr=>∃i:Nat,i≤d.ln∧s25=i∧mi wr d t mb cb (fun q=>jJ d.layers q i)∧bH [cb] W wr) (fun s25 _=>d.ln - (intOf s25).toNat);case atStart=>exact⟨0,by omega,rfl,HL0.o,bH.refl _ _⟩
 obtain⟨i,hi,rfl,hL,T⟩:=hrel;by_cases hlt:i<d.ln
 ·obtain⟨g,o,l,hlA,hls,hAt,hload⟩:=hL.dat.now.load hlt;have hst:=fun x=>wW (id:=x) hls;have HST:=lh (fun u=>gX u l);have HLA:=lh hload;have HSTP:=lh hst;have HLL:=lh hL;have HTT:=lh T;have HLS:=lh hls;have HAT:=lh hAt;have HDA:=lh hlA;have hkb:=hAt.Xk;have b0:(0:Int)≤(i:Int):=by omega
  have b1:(i:Int)<(d.ln:Int):=by omega
  clear hload hst hL T hls hAt;rw [hlA];clear hlA;go_upto_region 4 with (first
   | (refine bQ (o:=⟨some 28,_,_,_,_,_⟩) rfl (dw (p:=.pointer (some ⟨g,o+i*31,none⟩)) (v:=.agg ⟨l.row⟩) rfl rfl HLA.o) ?_;try go_frame)
   | (refine bQ (o:=⟨some 4,_,_,_,_,_⟩) rfl (di (t:=89) rfl (HAL.o _)) ?_;try go_frame)
   | (refine bU rfl 89 (.tmp 4) (.tmp 28) rfl rfl rfl (HST.o _) ?_;try go_frame))
  obtain⟨V,hV⟩:∃V,V=wr.alloc (.cells ⟨l.row⟩ 89):=⟨_,rfl⟩;have TV:bH [] wr V:=by rw [hV];exact (tR wr).alloc _
  have h9:V.heap[wr.heap.size]?=some (.cells ⟨l.row⟩ 89 (0,0)):=by rw [hV];exact heap_alloc_new _ _
  have y15:=bJ (i:=15) h9 rfl;rw [←hV];clear hV h9;generalize wr.heap.size=b4 at *;have HLV:=lh (HLL.o.turn TV);have HTV:=lh (HTT.o.trans (TV.mono (by simp)));clear TV;go_upto_region 5 with fail
  clear y15;go_loopw [32] (fun s32 wi=>∃j:Nat,j≤l.Xh∧s32=j∧mi wi d t mb cb (fun q=>jJ d.layers q i+(l.kids.take j).count q)∧bH [cb] W wi) (fun s32 _=>l.Xh - (intOf s32).toNat);case atStart=>exact⟨0,by omega,rfl,by simpa using HLV.o,HTV.o⟩
  obtain⟨j,hj,rfl,hL,T⟩:=hrel;by_cases hjl:j<l.Xh
  ·obtain⟨_,_,l',_,hl',hAt,_⟩:=hL.dat.now.load hlt;obtain rfl:l=l':=(by rw [HLS.o]at hl';injection hl');obtain⟨g2,o2,hga,hR⟩:=hAt.kids.cell (by omega);have hcell:=hR wr (bH.refl _ _) j hjl;have hct:=fun q=>BC (c:=l.kids) (id:=q) (k:=j) (by have:=hAt.kids.1;omega);have hb1:=VM hL.dat.now (l.kids.getD j 0) i;have hb2:(l.kids.take j).count (l.kids.getD j 0)≤50:=aK List.count_le_length (by have:=hAt.kids.1;simp;omega);obtain⟨w3,hup,hL3,hT3⟩:=hL.put (l.kids.getD j 0);have hlk:=hL.look (l.kids.getD j 0);have hL3:mi w3 d t mb cb (fun q=>jJ d.layers q i+(l.kids.take (j+1)).count q):=(by have e:(fun q=>jJ d.layers q i+(l.kids.take (j+1)).count q)=(fun q=>(jJ d.layers q i+(l.kids.take j).count q)+if l.kids.getD j 0=q then 1 else 0):=(by funext q;rw [hct q];omega);rw [e];exact hL3);have HL3:=lh hL3;have HT3:=lh (T.trans hT3);have hci:i≤50:=(by omega);have hb3:jJ d.layers (l.kids.getD j 0) i≤2500:=(by omega);clear hR hct hl' hAt hL T hL3 hT3 hb1;rw [hga];clear hga;generalize l.kids.getD j 0=x at *;have hcs:jJ d.layers x i+(l.kids.take j).count x≤2550:=(by omega);generalize jJ d.layers x i+(l.kids.take j).count x=c at *;clear hb2 hb3;have c0:(0:Int)≤(j:Int):=(by omega);have c1:(j:Int)<(l.Xh:Int):=(by omega);have c2:(j:Int)≤50:=(by omega);(go_wp2_with fail);go_roundw;case rel=>exact⟨j+1,by omega,by go_num,HL3.o,HT3.o⟩
   simp [intOf];omega
  obtain rfl:j=l.Xh:=by omega
  have HL2:=lh hL;have HT2:=lh T;clear hL T;have htk:l.kids.take l.Xh=l.kids:=aY (by have:=HAT.o.kids.1;omega);go_wp2_with fail
  go_roundw;case rel=>exact⟨i+1,by omega,by go_num,by
   have:=HL2.o;rw [htk]at this;have e:(fun q=>jJ d.layers q (i+1))=fun q=>jJ d.layers q i+l.kids.count q:=(by funext q;exact HSTP.o q);rw [e];exact this,HT2.o⟩
  simp [intOf];omega
 obtain rfl:i=d.ln:=by omega
 have q3:=bK hL.tr.ht (i:=3) (v:=.slice d.lA d.ln d.lc) rfl;have HLL:=lh hL;have HTT:=lh T;clear hL T;go_upto_region 11 with fail
 go_loopw [48] (fun s48 wr=>∃i:Nat,i≤d.ln∧s48=i∧mi wr d t mb cb (fun q=>jJ d.layers q d.ln)∧bH [cb] W wr) (fun s48 _=>d.ln - (intOf s48).toNat);case atStart=>exact⟨0,by omega,rfl,HLL.o,HTT.o⟩
 obtain⟨i,hi,rfl,hL,T⟩:=hrel;by_cases hlt:i<d.ln
 ·obtain⟨g,o,l,hlA,hls,hAt,hload⟩:=hL.dat.now.load hlt;have HST:=lh (fun u=>gX u l);have HLA:=lh hload;have HLL:=lh hL;have HTT:=lh T;have HLS:=lh hls;have HAT:=lh hAt;have hkb:=hAt.Xk;have hkm:=HK.o i l hls;have hkm2:l.kids.all (fun k=>(mW (d.layers.map (·.id)) k).isSome)=true∧(if l.id=d.root then jJ d.layers l.id d.layers.length == 0 else jJ d.layers l.id d.layers.length == 1)=true:=by unfold pM at hkm;rw [az]at hkm;exact hkm
  have HKA:=lh hkm2.1;have HKB:=lh hkm2.2;have b0:(0:Int)≤(i:Int):=by omega
  have b1:(i:Int)<(d.ln:Int):=by omega
  clear hload hL T hls hAt hkm hkm2;rw [hlA];clear q3;go_upto_region 13 with (first
   | (refine bQ (o:=⟨some 51,_,_,_,_,_⟩) rfl (dw (p:=.pointer (some ⟨g,o+i*31,none⟩)) (v:=.agg ⟨l.row⟩) rfl rfl HLA.o) ?_;try go_frame)
   | (refine bQ (o:=⟨some 8,_,_,_,_,_⟩) rfl (di (t:=89) rfl (HAL.o _)) ?_;try go_frame)
   | (refine bU rfl 89 (.tmp 8) (.tmp 51) rfl rfl rfl (HST.o _) ?_;try go_frame))
  obtain⟨V,hV⟩:∃V,V=wr.alloc (.cells ⟨l.row⟩ 89):=⟨_,rfl⟩;have TV:bH [] wr V:=by rw [hV];exact (tR wr).alloc _
  have h9:V.heap[wr.heap.size]?=some (.cells ⟨l.row⟩ 89 (0,0)):=by rw [hV];exact heap_alloc_new _ _
  have y15:=bJ (i:=15) h9 rfl;rw [←hV];clear hV;generalize wr.heap.size=b8 at *;have HLV:=lh (HLL.o.turn TV);have HTV:=lh (HTT.o.trans (TV.mono (by simp)));have H9:=lh h9;clear TV h9;go_upto_region 14 with fail
  clear y15;go_loopw [55] (fun s55 wr=>∃j:Nat,j≤l.Xh∧s55=j∧bH [] V wr) (fun s55 _=>l.Xh - (intOf s55).toNat);case atStart=>exact⟨0,by omega,rfl,bH.refl _ _⟩
  obtain⟨j,hj,rfl,T⟩:=hrel;by_cases hjl:j<l.Xh
  ·have hL:=HLV.o.turn T;obtain⟨_,_,l',_,hl',hAt,_⟩:=hL.dat.now.load hlt;obtain rfl:l=l':=(by rw [HLS.o]at hl';injection hl');obtain⟨g2,o2,hga,hR⟩:=hAt.kids.cell (by omega);have hcell:=hR wr (bH.refl _ _) j hjl;have hmem:l.kids.getD j 0∈l.kids:=(by rw [List.getD,aB (by have:=hAt.kids.1;omega)];exact List.getElem_mem _);have hsome:=aZ.1 HKA.o _ hmem;have hlk:=hL.tr.hm.lookOk (P:=prog) (mt:=219) underlying219 underlying3 (KQ wr) (l.kids.getD j 0);obtain⟨kk,hkk⟩:=Option.isSome_iff_exists.1 hsome;have hat:BG d.ids (l.kids.getD j 0)=some (.int .i64 (kk:Int)):=(by unfold BG;rw [show d.ids=d.layers.map (·.id) from rfl,hkk];rfl);rw [hat]at hlk;have hlk:(Instr.lookup 219 (.map (some mb)) (.int .i64 (l.kids.getD j 0)) true).run prog wr=.ok (.tuple #[(kk:Int),.bool true]) wr:=hlk;have z4:=bK hL.tr.ht (i:=4) (v:=.map (some mb)) rfl;have y0:=bJ (i:=0) (T.ox H9.o) rfl;have HT3:=lh T;clear hR hl' hAt hL T hmem hsome hkk hat;rw [hga];clear hga;generalize l.kids.getD j 0=x at *;have c0:(0:Int)≤(j:Int):=(by omega);have c1:(j:Int)<(l.Xh:Int):=(by omega);have c2:(j:Int)≤50:=(by omega);(go_wp2_with (go_at_call 161;refine (dX _ _ _).mono ?_;rintro e w3 ⟨rfl,rfl⟩));go_roundw;case rel=>exact⟨j+1,by omega,by go_num,HT3.o⟩
   simp [intOf];omega
  obtain rfl:j=l.Xh:=by omega
  have H9b:=T.ox H9.o;have y0:=bJ (i:=0) H9b rfl;have hL:=HLV.o.turn T;have hlk:=fun q:Nat=>(hL.turn ((tR wr).drawn q)).look l.id;have z1:=bK hL.tr.ht (i:=1) (v:=d.root) rfl;have HL3:=lh hL;have HT3:=lh (HTV.o.trans (T.mono (by simp)));have hbb:=HKB.o;rw [←HLN.o]at hbb;clear hL T H9b;by_cases hroot:l.id=d.root
  ·rw [aG hroot]at hbb;have hcn:=eq_of_beq hbb;simp only [hcn]at hlk;rw [hroot]at hlk y0;clear hbb;(go_upto_region 20 with fail);go_quiet (fail)
   (go_wp2_with (go_at_call 161;refine (dX _ _ _).mono ?_;rintro e w3 ⟨rfl,rfl⟩));go_roundw;case rel=>exact⟨i+1,by omega,by go_num,HL3.o.turn ((tR wr).drawn _),HT3.o.drawn _⟩
   simp [intOf];omega
  rw [aF hroot]at hbb;have hcn:=eq_of_beq hbb;simp only [hcn]at hlk;have hne:(l.id == d.root)=false:=by simpa using hroot
  clear hbb;go_upto_region 20 with fail
  go_quiet (fail)
  go_wp2_with (go_at_call 161;refine (dX _ _ _).mono ?_;rintro e w3 ⟨rfl,rfl⟩)
  go_roundw;case rel=>exact⟨i+1,by omega,by go_num,HL3.o.turn ((tR wr).drawn _),HT3.o.drawn _⟩
  simp [intOf];omega
 obtain rfl:i=d.ln:=by omega
 have q3:=bK hL.tr.ht (i:=3) (v:=.slice d.lA d.ln d.lc) rfl;have HLL:=lh hL;have HTT:=lh T;clear hL T;go_upto_region 25 with fail
 go_loopw [97] (fun s97 wr=>∃i:Nat,i≤d.ln∧s97=i∧mi wr d t mb cb (fun q=>jJ d.layers q d.ln)∧bH [cb] W wr) (fun s97 _=>d.ln - (intOf s97).toNat);case atStart=>exact⟨0,by omega,rfl,HLL.o,HTT.o⟩
 obtain⟨i,hi,rfl,hL,T⟩:=hrel;by_cases hlt:i<d.ln
 ·obtain⟨g,o,l,hlA,hls,hAt,hload⟩:=hL.dat.now.load hlt;have HST:=lh (fun u=>gX u l);have HLA:=lh hload;have HLL:=lh hL;have HTT:=lh T;have HC1:=lh (HCL.o i l hls);have b0:(0:Int)≤(i:Int):=by omega
  have b1:(i:Int)<(d.ln:Int):=by omega
  clear hload hL T hls hAt;rw [hlA];clear q3;go_upto_region 27 with (first
   | (refine bQ (o:=⟨some 100,_,_,_,_,_⟩) rfl (dw (p:=.pointer (some ⟨g,o+i*31,none⟩)) (v:=.agg ⟨l.row⟩) rfl rfl HLA.o) ?_;try go_frame)
   | (refine bQ (o:=⟨some 15,_,_,_,_,_⟩) rfl (di (t:=89) rfl (HAL.o _)) ?_;try go_frame)
   | (refine bU rfl 89 (.tmp 15) (.tmp 100) rfl rfl rfl (HST.o _) ?_;try go_frame))
  obtain⟨V,hV⟩:∃V,V=wr.alloc (.cells ⟨l.row⟩ 89):=⟨_,rfl⟩;have TV:bH [] wr V:=by rw [hV];exact (tR wr).alloc _
  have h9:V.heap[wr.heap.size]?=some (.cells ⟨l.row⟩ 89 (0,0)):=by rw [hV];exact heap_alloc_new _ _
  have y1:=bJ (i:=1) h9 rfl;have y16:=bJ (i:=16) h9 rfl;have HLV:=lh (HLL.o.turn TV);have HTV:=lh (HTT.o.trans (TV.mono (by simp)));have H9:=lh h9;rw [←hV];clear hV TV h9 HST;generalize wr.heap.size=b15 at *;by_cases hk4:l.kind=4
  ·obtain⟨m,hm1,hm2⟩:=HC1.o hk4;have hTL:=ql d t mb l.of V HLV.o.tr HLV.o.dat.now;have hlo:iC d.layers l.of=m:=(by unfold iC;rw [hm1];rfl);rw [hlo,hm1]at hTL;have hTL:Calls prog 165 #[.pointer (some ⟨t,0,none⟩),l.of] V fun e w'=>e=.returned (.tuple #[m.v,.bool true])∧bH [] V w':=hTL;have HTL:=lh hTL;have HST:=lh (fun u=>gX u m);have HM2:Hid ((m.kind != 3)=true):=lh (by simpa using hm2);rw [hk4]at y1;clear hTL hlo hm1 hm2 hk4;go_upto_region 29 with (first
    | (go_at_call 165;refine HTL.o.mono ?_;rintro e w2 ⟨rfl,ht2⟩)
    | (refine bQ (o:=⟨some 16,_,_,_,_,_⟩) rfl (di (t:=89) rfl (HAL.o _)) ?_;try go_frame)
    | (refine bU rfl 89 (.tmp 16) (.tmp 109) rfl rfl rfl (HST.o _) ?_;try go_frame))
   obtain⟨U,hU⟩:∃U,U=w2.alloc (.cells ⟨m.row⟩ 89):=⟨_,rfl⟩;have TU:bH [] V U:=(by rw [hU];exact ht2.alloc _);have h10:U.heap[w2.heap.size]?=some (.cells ⟨m.row⟩ 89 (0,0)):=(by rw [hU];exact heap_alloc_new _ _);have p1:=bJ (i:=1) h10 rfl;have y0:=bJ (i:=0) (TU.ox H9.o) rfl;have HLU:=lh (HLV.o.turn TU);have HTU:=lh (HTV.o.trans (TU.mono (by simp)));have hm3:=HM2.o;rw [←hU];clear hU TU h10 HST HTL ht2 y1 y16;generalize w2.heap.size=b16 at *;(go_wp2_with (go_at_call 161;refine (dX _ _ _).mono ?_;rintro e w3 ⟨rfl,rfl⟩));go_roundw;case rel=>exact⟨i+1,by omega,by go_num,HLU.o,HTU.o⟩
   simp [intOf];omega
  have hne:(l.kind == 4)=false:=by simpa using hk4
  go_wp2_with fail
  go_roundw;case rel=>exact⟨i+1,by omega,by go_num,HLV.o,HTV.o⟩
  simp [intOf];omega
 obtain rfl:i=d.ln:=by omega
 have HTT:=lh T;clear hL T;go_wp2_with fail
 go_end0;exact⟨rfl,T0.fresh HTT.o (fun b hb=>by have:=HCB.o;simp at hb;omega)⟩
structure bI.Bad(l:bI): Prop where
 kind:1≤l.kind∧l.kind≤5
 name:l.name∈kW
 opac:l.Xl=256
theorem Jd(l:bI)(t:Nat)(w:World)(hl:l.Bad):
  Calls prog 166 #[.pointer (some ⟨t,0,none⟩),l.v] w fun e w'=>e=.panicked [{ v:=xQ 1 l.id,recovered:=false }]∧bH [] w w':=by
 obtain⟨W,hW⟩:∃W,W=w.alloc (.cells ⟨l.row⟩ 89):=⟨_,rfl⟩;have T0:bH [] w W:=by rw [hW];exact (tR w).alloc _
 have x3:W.heap[w.heap.size]?=some (.cells ⟨l.row⟩ 89 (0,0)):=by rw [hW];exact heap_alloc_new _ _
 have hN:=fun u=>CS l.name hl.name u;have hB3:∀u,bH [] W u→u.heap[w.heap.size]?=some (.cells ⟨l.row⟩ 89 (0,0)):=fun u T=>T.ox x3;have hcells:∀u,bH [] W u→u.cell? ⟨w,0,none⟩=some (.int .i64 l.id)∧u.cell? ⟨w,1,none⟩=some (.int .i64 l.kind)∧u.cell? ⟨w,2,none⟩=some (.string l.name)∧u.cell? ⟨w,4,none⟩=some (.int .i64 256):=fun u T=>⟨bJ (hB3 u T) rfl,bJ (hB3 u T) rfl,bJ (hB3 u T) rfl,by rw [←hl.opac];exact bJ (hB3 u T) rfl⟩;obtain⟨hk1,hk2⟩:=hl.kind;have hC0:=hcells W (bH.refl _ _);obtain⟨p0,p1,p2,p4⟩:=hC0;have k1:decide (1≤l.kind)=true:=aC hk1;have k2:decide (l.kind≤5)=true:=aC hk2;have HN:=lh hN;have HCE:=lh hcells;clear hN hl hB3 hcells x3;unfold bI.v;go_enter func166,ntmps166;go_upto_region 1 with fail
 rw [←hW];clear hW;go_upto_region 2 with (go_at_call 161;refine (dX _ _ _).mono ?_;rintro e w3 ⟨rfl,rfl⟩)
 have HK2:Hid (∀u,bH [] W u→bH [] W u∧u.cell? ⟨w,0,none⟩=some (.int .i64 l.id)∧u.cell? ⟨w,2,none⟩=some (.string l.name)):=lh fun u T=>⟨T,(HCE.o u T).1,(HCE.o u T).2.2.1⟩;have TD:=(tR W).drawn 1;go_region_held3 (fun w'=>bH [] W w'∧w'.cell? ⟨w,0,none⟩=some (.int .i64 l.id)∧w'.cell? ⟨w,2,none⟩=some (.string l.name)) (first | assumption | exact HK2.o _ TD | exact HK2.o _ ((And.left (by assumption:bH [] W _∧_)).trans ht1)) (first
  | (go_at_call 196;refine (HN.o _).mono ?_;rintro e w1 ⟨rfl,ht1⟩)
  | (go_at_call 161;refine (dX _ _ _).mono ?_;rintro e w3 ⟨rfl,rfl⟩))
 rename_i hH;have TW:=hH.1;clear hH p0 p1 p2 p4 HK2 HN;obtain⟨p0,p1,p2,p4⟩:=HCE.o w1 TW;clear HCE;go_wp2_with (go_at_call 161;refine (Ov _ _ _).mono ?_;rintro e w3 ⟨rfl,rfl⟩)
 exact⟨rfl,rfl,T0.trans TW⟩
end Go.Proofs.YtbpklgllihhgpaaGreat
