import Derived.Test.YtbpklgllihhgpaaGreatR45
import Derived.Test.YtbpklgllihhgpaaGreatR46
set_option maxRecDepth 100000
set_option maxHeartbeats 16000000
namespace Go.Proofs.YtbpklgllihhgpaaGreat
open Tryz Go.RowKit Go.Den
structure CkIn(d:DocM)(bad:Option Nat): Prop where
 spc:∀s∈d.spaces,s.Good
 sn:d.sn≤8
 ln:d.ln≤40
 next:1≤d.next∧d.next≤1048576
 inc:d.ids.Pairwise (· < ·)
 pos:∀x∈d.ids,1≤x∧x<d.next
 root:∃l,layerAt d.layers d.root=some l∧l.kind=2
 lay:∀(i:Nat) (l:LayerM),d.layers[i]?=some l→bad≠some i→l.Tidy d.sn∧l.good=true∧l.Thin
 badl:∀i,bad=some i→∃l,d.layers[i]?=some l∧l.Bad
 kids:bad=none→∀(k:Nat) (l:LayerM),d.layers[k]?=some l→kidsM d.layers d.root l=true
 clone:bad=none→∀(k:Nat) (l:LayerM),d.layers[k]?=some l→cloneOK d.layers l
 acy:bad=none→∀x,¬Reach d.layers x x
 depth:bad=none→depthM d.layers 2501 d.root≤6
def CkPost(d:DocM)(bad:Option Nat)(e:Ending): Prop:=match bad with
 | none=>∃t:Nat,e=.returned (.pointer (some ⟨t,0,none⟩))
 | some i=>∃l,d.layers[i]?=some l∧e=.panicked [{ v:=defect 1 l.id,recovered:=false }]
def DocM.row(d:DocM): List Value:=[.slice d.sA d.sn d.sc,d.root,d.next,.slice d.lA d.ln d.lc]
structure CkW(w wr:World)(d:DocM)(b0 mb t:Nat)(D:Int→Option Value): Prop where
 tu:Turn [] w wr
 h0:wr.heap[b0]?=some (.cells ⟨d.row⟩ 29 (0,0))
 ht:wr.heap[t]?=some (.cells #[.slice d.sA d.sn d.sc,d.root,d.next,.slice d.lA d.ln d.lc,.map (some mb)] 221 (0,0))
 hm:MapI wr mb D
 dat:d.At wr
 lt:w.heap.size≤b0∧b0<mb∧mb<t
theorem CkW.turn{w wr u:World}{d:DocM}{b0 mb t:Nat}{D:Int→Option Value}(P:CkW w wr d b0 mb t D)(T:Turn [] wr u): CkW w u d b0 mb t D:=
 ⟨P.tu.trans T,(T.old _ (Array.getElem?_eq_some_iff.1 P.h0).1 (by simp)).trans P.h0,(T.old _ (Array.getElem?_eq_some_iff.1 P.ht).1 (by simp)).trans P.ht,P.hm.turn T (by simp),P.dat.turn T,P.lt⟩
theorem CkW.tree{w wr:World}{d:DocM}{b0 mb t:Nat}(P:CkW w wr d b0 mb t (atD d.ids)): TreeW wr t mb d:=⟨P.ht,P.hm⟩
theorem CkW.put{w wr u:World}{d:DocM}{b0 mb t:Nat}{D D':Int→Option Value}(P:CkW w wr d b0 mb t D)(h:d.At w)(T:Turn [mb] wr u)(M:MapI u mb D'): CkW w u d b0 mb t D':=by have hlt:=P.lt;have tu:Turn [] w u:=P.tu.fresh T (by simp;omega);exact⟨tu,(T.old _ (Array.getElem?_eq_some_iff.1 P.h0).1 (by simp;omega)).trans P.h0,(T.old _ (Array.getElem?_eq_some_iff.1 P.ht).1 (by simp;omega)).trans P.ht,M,h.turn tu,P.lt⟩
def lastI(ids:List Int)(k:Nat): Int:=if k=0 then 0 else ids.getD (k - 1) 0
theorem lastI_lt{ids:List Int}(hi:ids.Pairwise (· < ·))(hp:∀x∈ids,1≤x){k:Nat}{x:Int}(hk:ids[k]?=some x): lastI ids k<x:=by
 obtain⟨hlt,rfl⟩:=List.getElem?_eq_some_iff.1 hk;unfold lastI;by_cases h:k=0
 ·rw [if_pos h];have:=hp _ (List.getElem_mem hlt);omega
 rw [if_neg h];simp only [List.getD,List.getElem?_eq_getElem (show k - 1<ids.length by omega),Option.getD_some];exact List.pairwise_iff_getElem.1 hi (k - 1) k (by omega) hlt (by omega)
theorem lastI_next{ids:List Int}{k:Nat}{x:Int}(hk:ids[k]?=some x): lastI ids (k+1)=x:=by unfold lastI;simp [List.getD,hk]
theorem atD_next{ids:List Int}(hi:ids.Pairwise (· < ·)){k:Nat}{x:Int}(hk:ids[k]?=some x): atD (ids.take k) x=none∧atD (ids.take (k+1))=updI (atD (ids.take k)) x (k:Int):=by
 obtain⟨hlt,hx⟩:=List.getElem?_eq_some_iff.1 hk;have hne:∀i,i<k→ids[i]?≠some x:=fun i hi2 he=>by have h1:=List.pairwise_iff_getElem.1 hi i k (by omega) hlt hi2;rw [List.getElem?_eq_getElem (by omega)]at he;injection he with he;rw [he,hx]at h1;omega
 have hn:atN (ids.take k) x=none:=atN_none fun i hi2=>by rw [List.length_take]at hi2;rw [List.getElem?_take,if_pos (by omega)];exact hne i (by omega)
 refine⟨by unfold atD;rw [hn];rfl,?_⟩;funext q;unfold updI;by_cases hq:q=x
 ·subst hq;rw [if_pos rfl];have:atN (ids.take (k+1)) q=some k:=atN_some (by rw [List.getElem?_take,if_pos (by omega)];exact hk) (fun i hi2=>by rw [List.getElem?_take,if_pos (by omega)];exact hne i hi2);unfold atD;rw [this];rfl
 rw [if_neg hq];unfold atD atN;rw [List.take_succ_eq_append_getElem hlt,List.findIdx?_append];cases hf:(ids.take k).findIdx? (· == q)with
 | some j=>rfl
 | none=>
  have:([ids[k]]:List Int).findIdx? (· == q)=none:=by rw [List.findIdx?_eq_none_iff];intro y hy;rw [List.mem_singleton]at hy;subst hy;rw [hx];simpa using fun h=>hq h.symm
  rw [this];rfl
theorem doc_check(d:DocM)(bad:Option Nat)(w:World)(h:d.At w)(hc:CkIn d bad):
  Calls prog 115 #[d.v] w fun e w'=>CkPost d bad e∧Turn [] w w':=by
 have hsh:Short d.layers:=h.layers.short (by have:=hc.ln;omega);have hmk:=fun u:World=>run_makeMap (P:=prog) 219 u;have hmf:∀(fn:Fn) (first cap:Array Value) (w:World),(Instr.makeFunc fn first cap).run prog w=.ok (.func fn first cap) w:=fun _ _ _ _=>rfl;have hln:=h.layers.1;have n8:=hc.sn;have n40:=hc.ln;have e1:decide ((d.sn:Int)≤8)=true:=decide_eq_true (by omega);have e2:decide ((d.ln:Int)≤40)=true:=decide_eq_true (by omega);have e3:decide (1≤d.next)=true:=decide_eq_true hc.next.1;have e4:decide (d.next≤1048576)=true:=decide_eq_true hc.next.2;have hsc:=fun u (t:Turn [] w u)=>spc_contains d.spaces hc.spc d.sA d.sn d.sc (by omega) u (h.turn t).spaces;have HSC:=lh hsc;have HA:=lh h;have HC:=lh hc;have HSH:=lh hsh;have HLN:=lh hln;have HAL:=lh alloc_LY;have HMK:=lh hmk;have HMF:=lh hmf;clear hsc h hc hsh hln hmf;unfold DocM.v;obtain⟨W,hW⟩:∃W,W=((w.alloc (.cells ⟨d.row⟩ 29)).alloc (.map #[] 0)).alloc (.cells #[.slice d.sA d.sn d.sc,d.root,d.next,.slice d.lA d.ln d.lc,.map (some (w.heap.size+1))] 221):=⟨_,rfl⟩;have T0:Turn [] w W:=by rw [hW];exact (((tR w).alloc _).alloc _).alloc _
 have x0:W.heap[w.heap.size]?=some (.cells ⟨d.row⟩ 29 (0,0)):=by rw [hW];simp only [heap_at,World.size_alloc];rw [if_neg (by omega),if_neg (by omega),if_pos (by first | trivial | omega)]
 have x1:W.heap[w.heap.size+1]?=some (.map #[] 0):=by rw [hW];simp only [heap_at,World.size_alloc];rw [if_neg (by omega),if_pos (by first | trivial | omega)]
 have x2:W.heap[w.heap.size+1+1]?=some (.cells #[.slice d.sA d.sn d.sc,d.root,d.next,.slice d.lA d.ln d.lc,.map (some (w.heap.size+1))] 221 (0,0)):=by rw [hW];simp only [heap_at,World.size_alloc];rw [if_pos (by first | trivial | omega)]
 have P0:CkW w W d w.heap.size (w.heap.size+1) (w.heap.size+1+1) (atD (d.ids.take 0)):=⟨T0,x0,x2,by
  have:atD (d.ids.take 0)=fun _=>none:=by funext q;rfl
  rw [this];exact mapI_empty x1,HA.out.turn T0,by omega⟩
 have HP0:=lh P0;clear P0 T0 x0 x1 x2;unfold DocM.row at hW;go_enter func115,ntmps115;go_upto_region 2 with fail
 rw [←hW];clear hW HMK hmk;generalize hb0:w.heap.size=b0 at *;generalize hb1:b0+1=mb at *;generalize hb2:mb+1=t at *;clear hb1 hb2;have q0:=cell_of HP0.out.h0 (i:=0) (v:=.slice d.sA d.sn d.sc) rfl;have q1:=cell_of HP0.out.h0 (i:=1) (v:=d.root) rfl;have q2:=cell_of HP0.out.h0 (i:=2) (v:=d.next) rfl;have q3:=cell_of HP0.out.h0 (i:=3) (v:=.slice d.lA d.ln d.lc) rfl;go_upto_region 3 with (go_at_call 161;refine (demand_ok _ _ _).mono ?_;rintro e w3 ⟨rfl,rfl⟩)
 go_upto_region 5 with (first
  | (go_at_call 164;refine (HSC.out _ HP0.out.tu).mono ?_;rintro e w1 ⟨rfl,ht1⟩)
  | (go_at_call 161;refine (demand_ok _ _ _).mono ?_;rintro e w3 ⟨rfl,rfl⟩))
 have HP1:=lh (HP0.out.turn ht1);clear q0 q1 q2 q3 HP0 ht1 HSC e1 e2 e3 e4;have q3:=cell_of HP1.out.h0 (i:=3) (v:=.slice d.lA d.ln d.lc) rfl;go_upto_region 7 with fail
 clear q3;go_loopw [5,48] (fun s5 s48 wr=>∃i:Nat,i≤d.ln∧s5=.int .i64 (lastI d.ids i)∧s48=i∧CkW w wr d b0 mb t (atD (d.ids.take i))) (fun _ s48 _=>d.ln - (intOf s48).toNat);case atStart=>exact⟨0,by omega,rfl,rfl,HP1.out⟩
 obtain⟨i,hi,rfl,rfl,hP⟩:=hrel;by_cases hlt:i<d.ln
 ·obtain⟨gl,ol,l,hlA,hls,hAt,hload⟩:=hP.dat.load hlt;have HST:=lh (fun u=>store_LY u l);have HLA:=lh hload;have HPP:=lh hP;have HLS:=lh hls;have HAT:=lh hAt;have c0:(0:Int)≤(i:Int):=by omega
  have c1:(i:Int)<(d.ln:Int):=by omega
  clear hload hP hls hAt;rw [hlA];clear hlA;go_upto_region 9 with (first
   | (refine wpList_yield (o:=⟨some 52,_,_,_,_,_⟩) rfl (exec_load (p:=.pointer (some ⟨gl,ol+i*31,none⟩)) (v:=.agg ⟨l.row⟩) rfl rfl HLA.out) ?_;try go_frame)
   | (refine wpList_yield (o:=⟨some 7,_,_,_,_,_⟩) rfl (exec_alloc (t:=89) rfl (HAL.out _)) ?_;try go_frame)
   | (refine wpList_store_run rfl 89 (.tmp 7) (.tmp 52) rfl rfl rfl (HST.out _) ?_;try go_frame))
  obtain⟨V,hV⟩:∃V,V=wr.alloc (.cells ⟨l.row⟩ 89):=⟨_,rfl⟩;have TV:Turn [] wr V:=by rw [hV];exact (tR wr).alloc _
  have h9:V.heap[wr.heap.size]?=some (.cells ⟨l.row⟩ 89 (0,0)):=by rw [hV];exact heap_alloc_new _ _
  rw [←hV];clear hV HLA HST c0 c1;generalize wr.heap.size=b4 at *;have HP:=lh (HPP.out.turn TV);clear TV HPP;have hid:d.ids[i]?=some l.id:=by unfold DocM.ids;rw [List.getElem?_map,HLS.out];rfl
  have hmem:l.id∈d.ids:=List.mem_of_getElem? hid;have hlast:=lastI_lt HC.out.inc (fun x hx=>(HC.out.pos x hx).1) hid;have hnx:=(HC.out.pos _ hmem).2;have e1:decide (lastI d.ids i<l.id)=true:=decide_eq_true hlast;have e2:decide (l.id<d.next)=true:=decide_eq_true hnx;have y0:=cell_at (i:=0) h9 rfl;have q2:=cell_of HP.out.h0 (i:=2) (v:=d.next) rfl;have q4:=cell_of HP.out.ht (i:=4) (v:=.map (some mb)) rfl;have hat:=atD_next HC.out.inc hid;have hnl:=lastI_next hid;have HAT2:=lh hat;have HNL:=lh hnl;have HH9:=lh h9;clear hid hmem hlast hnx hat hnl h9;generalize hlw:lastI d.ids i=last at *;clear hlw;go_upto_region 10 with (go_at_call 161;refine (demand_ok _ _ _).mono ?_;rintro e w3 ⟨rfl,rfl⟩)
  obtain⟨sx,u,u2,hen,hTu,hes,hM,hT⟩:∃s u w',(Instr.mapEntry 219 (.map (some mb)) l.id).run prog V.drew=.ok (.tuple #[(0:Int),s]) u∧Turn [mb] V.drew u∧(Instr.entryStore 219 (.map (some mb)) s (i:Int)).run prog u=.ok () w'∧MapI w' mb (updI (atD (d.ids.take i)) l.id (i:Int))∧Turn [mb] V.drew w':=
   (HP.out.turn ((tR V).drawn 1)).hm.entry underlying219 underlying3 (zeroI _) HAT2.out.1 (i:Int)
  have HE:=lh hen;have HES:=lh hes;have HM:=lh (And.intro hM hT);have HTU:=lh hTu;clear hen hes hM hT hTu;refine AnyTill.start (fun u=>Turn [mb] V u) 12 (by kernel_rfl) ?_;have hS:Turn [mb] V V.drew:=(Turn.refl [mb] V).drawn 1;have hbm:b4≠mb:=fun e=>by obtain⟨es,cl,h1,_⟩:=HP.out.hm.ex;rw [←e,HH9.out]at h1;cases h1
  have HF:Hid (∀w',Turn [mb] V w'→w'.cell? ⟨b4,0,none⟩=some (.int .i64 l.id)∧w'.cell? ⟨t,4,none⟩=some (.map (some mb))):=lh fun w' hw=>⟨cell_at (i:=0) ((hw.old _ (Array.getElem?_eq_some_iff.1 HH9.out).1 (by simpa using hbm)).trans HH9.out) rfl,cell_of ((hw.old _ (Array.getElem?_eq_some_iff.1 HP.out.ht).1 (by have:=HP.out.lt;simp;omega)).trans HP.out.ht) (i:=4) (v:=.map (some mb)) rfl⟩;generalize hY:V.drew=Y at *;refine tk 0 99 67 (.pointer (some ⟨t,0,none⟩)) hS ?_;try go_frame
  refine tk 1 99 68 (.pointer (some ⟨t,0,none⟩)) hS ?_;try go_frame
  refine tk 2 99 69 (.pointer (some ⟨t,4,none⟩)) hS ?_;try go_frame
  refine tk 3 99 70 (.map (some mb)) hS ?_ (hy:=fun w' hw=>by obtain⟨f0,f4⟩:=HF.out _ hw;go_simp);try go_frame
  refine tk 4 99 71 (.pointer (some ⟨b4,0,none⟩)) hS ?_;try go_frame
  refine tk 5 99 72 l.id hS ?_ (hy:=fun w' hw=>by obtain⟨f0,f4⟩:=HF.out _ hw;go_simp);try go_frame
  refine tk 6 99 73 ((i:Int)) hS ?_;try go_frame
  refine tk 7 99 74 (.pointer (some ⟨b4,0,none⟩)) hS ?_;try go_frame
  refine tk 8 99 75 l.id hS ?_ (hy:=fun w' hw=>by obtain⟨f0,f4⟩:=HF.out _ hw;go_simp);try go_frame
  have hen:=HE.out;refine tk1 9 fun K hK=>?_;go_simp;have hS2:Turn [mb] V u:=hS.trans HTU.out;refine hK _ _ (fun _=>hS2) ?_;clear hK K hen;try go_frame
  refine AnyTill.take (i:=10) (N:=99) (v:=sx) (d:=some 77) rfl rfl (by kernel_rfl) (fun _ _ _ h=>h) rfl (fun w' hw=>by go_simp) hS2 ?_;try go_frame
  have hes:=HES.out;refine tk1 11 fun K hK=>?_;go_simp;have hS3:Turn [mb] V u2:=hS.trans HM.out.2;refine hK _ _ (fun _=>hS3) ?_;clear hK K hes;try go_frame
  refine tk1 12 fun K hK=>?_;go_simp;refine hK _ _ (fun h=>absurd rfl h) ?_;clear hK K;try go_frame
  refine tkd ?_;have HPN:=lh (HP.out.put HA.out hS3 HM.out.1);go_wp2_with fail
  go_roundw;case rel=>exact⟨i+1,by omega,by rw [HNL.out],by go_num,by rw [HAT2.out.2];exact HPN.out⟩
  simp [intOf];omega
 obtain rfl:i=d.ln:=by omega
 have htk:d.ids.take d.ln=d.ids:=List.take_of_length_le (by have:=HLN.out;unfold DocM.ids;rw [List.length_map];omega);rw [htk]at hP;have HP:=lh hP;clear hP;have hrt:=HC.out.root;have q1:=cell_of HP.out.h0 (i:=1) (v:=d.root) rfl;obtain⟨rl,hrl,hrk⟩:=hrt;have hly:=tree_layer d t mb d.root wr HP.out.tree HP.out.dat;have hro:layerOr d.layers d.root=rl:=by unfold layerOr;rw [hrl];rfl
 rw [hro,hrl,Option.isSome_some]at hly;have HLY:=lh hly;have HST:=lh (fun u=>store_LY u rl);clear hly hro hrl;go_upto_region 13 with (first
  | (go_at_call 165;refine HLY.out.mono ?_;rintro e w4 ⟨rfl,ht4⟩)
  | (refine wpList_yield (o:=⟨some 8,_,_,_,_,_⟩) rfl (exec_alloc (t:=89) rfl (HAL.out _)) ?_;try go_frame)
  | (refine wpList_store_run rfl 89 (.tmp 8) (.tmp 84) rfl rfl rfl (HST.out _) ?_;try go_frame))
 obtain⟨V,hV⟩:∃V,V=w4.alloc (.cells ⟨rl.row⟩ 89):=⟨_,rfl⟩;have TV:Turn [] wr V:=by rw [hV];exact ht4.alloc _
 have h9:V.heap[w4.heap.size]?=some (.cells ⟨rl.row⟩ 89 (0,0)):=by rw [hV];exact heap_alloc_new _ _
 have y1:=cell_at (i:=1) h9 rfl;rw [hrk]at y1;have HP2:=lh (HP.out.turn TV);rw [←hV];clear hV TV h9 q1 ht4 HLY HST HP hrk;generalize w4.heap.size=b8 at *;have q1:=cell_of HP2.out.h0 (i:=1) (v:=d.root) rfl;go_upto_region 14 with (go_at_call 161;refine (demand_ok _ _ _).mono ?_;rintro e w3 ⟨rfl,rfl⟩)
 have q3:=cell_of HP2.out.h0 (i:=3) (v:=.slice d.lA d.ln d.lc) rfl;go_upto_region 15 with fail
 clear q1 q3 y1;go_loopw [98] (fun s98 wr=>∃i:Nat,i≤d.ln∧s98=i∧(∀j,bad=some j→i≤j)∧CkW w wr d b0 mb t (atD d.ids)) (fun s98 _=>d.ln - (intOf s98).toNat);case atStart=>exact⟨0,by omega,rfl,fun _ _=>by omega,HP2.out⟩
 obtain⟨i,hi,rfl,hbd,hP⟩:=hrel;by_cases hlt:i<d.ln
 ·obtain⟨gl,ol,l,hlA,hls,hAt,hload⟩:=hP.dat.load hlt;have HST:=lh (fun u=>store_LY u l);have HLA:=lh hload;have HPP:=lh hP;have HLS:=lh hls;have HAT:=lh hAt;have c0:(0:Int)≤(i:Int):=by omega
  have c1:(i:Int)<(d.ln:Int):=by omega
  clear hload hP hls hAt;rw [hlA];clear hlA;go_upto_region 17 with (first
   | (refine wpList_yield (o:=⟨some 101,_,_,_,_,_⟩) rfl (exec_load (p:=.pointer (some ⟨gl,ol+i*31,none⟩)) (v:=.agg ⟨l.row⟩) rfl rfl HLA.out) ?_;try go_frame)
   | (refine wpList_yield (o:=⟨some 11,_,_,_,_,_⟩) rfl (exec_alloc (t:=89) rfl (HAL.out _)) ?_;try go_frame)
   | (refine wpList_store_run rfl 89 (.tmp 11) (.tmp 101) rfl rfl rfl (HST.out _) ?_;try go_frame))
  obtain⟨V,hV⟩:∃V,V=wr.alloc (.cells ⟨l.row⟩ 89):=⟨_,rfl⟩;have TV:Turn [] wr V:=by rw [hV];exact (tR wr).alloc _
  have h9:V.heap[wr.heap.size]?=some (.cells ⟨l.row⟩ 89 (0,0)):=by rw [hV];exact heap_alloc_new _ _
  rw [←hV];clear hV HLA HST c0 c1;generalize wr.heap.size=b4 at *;have HP:=lh (HPP.out.turn TV);clear TV HPP;have hl17:=run_loadVar_row (P:=prog) _ b4 89 89 ⟨l.row⟩ (0,0) _ h9 underlying89 rfl (zero_of_info infoLYR).2;have HL17:=lh hl17;clear hl17 h9;have hAV:=HAT.out;by_cases hbi:bad=some i
  ·subst hbi;obtain⟨l',hl',hB⟩:=HC.out.badl i rfl;obtain rfl:l=l':=(by rw [HLS.out]at hl';injection hl');have hf:=fields_bad l t V hB;have HF:=lh hf;clear hf hl' hB hbd hAV;go_wp2_with (first
    | (refine wpList_yield (o:=⟨some 103,_,_,_,_,_⟩) rfl (exec_load (p:=.pointer (some ⟨b4,0,none⟩)) (v:=.agg ⟨l.row⟩) rfl rfl HL17.out) ?_;try go_frame)
    | (go_at_call 166;refine HF.out.mono ?_;rintro e w4 ⟨rfl,ht4⟩))
   exact⟨rfl,⟨l,HLS.out,rfl⟩,HP.out.tu.trans ht4⟩
  obtain⟨hty,hgo,hth⟩:=HC.out.lay i l HLS.out hbi;have hf:=tree_fields d l t mb V HP.out.tree ((HP.out.dat.layers.2 i l HLS.out).1) hty hgo hth;have HF:=lh hf;have HBI:=lh hbi;have HBD:=lh hbd;clear hf hty hgo hth hbi hbd hAV;go_wp2_with (first
   | (refine wpList_yield (o:=⟨some 103,_,_,_,_,_⟩) rfl (exec_load (p:=.pointer (some ⟨b4,0,none⟩)) (v:=.agg ⟨l.row⟩) rfl rfl HL17.out) ?_;try go_frame)
   | (go_at_call 166;refine HF.out.mono ?_;rintro e w4 ⟨rfl,ht4⟩))
  have HPN:=lh (HP.out.turn ht4);go_roundw;case rel=>exact⟨i+1,by omega,by go_num,fun j hj=>by have h1:=HBD.out j hj;have h2:j≠i:=fun e=>HBI.out (e ▸ hj);omega,HPN.out⟩
  simp [intOf];omega
 obtain rfl:i=d.ln:=by omega
 obtain rfl:bad=none:=by
  cases hb:bad with
  | none=>rfl
  | some j=>
   exfalso;have:=hbd j hb;obtain⟨l,hl,_⟩:=HC.out.badl j hb;have h1:=(List.getElem?_eq_some_iff.1 hl).1;have:=HLN.out;omega
 clear hbd;have HP:=lh hP;have HLK:=lh (tree_links d t mb (HC.out.kids rfl) (HC.out.clone rfl) wr hP.tree hP.dat);clear hP;go_upto_region 20 with (go_at_call 167;refine HLK.out.mono ?_;rintro e w4 ⟨rfl,ht4⟩)
 have HP2:=lh (HP.out.turn ht4);clear HP HLK ht4;have q3:=cell_of HP2.out.h0 (i:=3) (v:=.slice d.lA d.ln d.lc) rfl;go_upto_region 21 with fail
 clear q3;go_loopw [111] (fun s111 wr=>∃i:Nat,i≤d.ln∧s111=i∧CkW w wr d b0 mb t (atD d.ids)) (fun s111 _=>d.ln - (intOf s111).toNat);case atStart=>exact⟨0,by omega,rfl,HP2.out⟩
 obtain⟨i,hi,rfl,hP⟩:=hrel;by_cases hlt:i<d.ln
 ·obtain⟨gl,ol,l,hlA,hls,hAt,hload⟩:=hP.dat.load hlt;have HST:=lh (fun u=>store_LY u l);have HLA:=lh hload;have HPP:=lh hP;have HLS:=lh hls;have HAT:=lh hAt;have c0:(0:Int)≤(i:Int):=by omega
  have c1:(i:Int)<(d.ln:Int):=by omega
  clear hload hP hls hAt;rw [hlA];clear hlA;go_upto_region 23 with (first
   | (refine wpList_yield (o:=⟨some 114,_,_,_,_,_⟩) rfl (exec_load (p:=.pointer (some ⟨gl,ol+i*31,none⟩)) (v:=.agg ⟨l.row⟩) rfl rfl HLA.out) ?_;try go_frame)
   | (refine wpList_yield (o:=⟨some 13,_,_,_,_,_⟩) rfl (exec_alloc (t:=89) rfl (HAL.out _)) ?_;try go_frame)
   | (refine wpList_store_run rfl 89 (.tmp 13) (.tmp 114) rfl rfl rfl (HST.out _) ?_;try go_frame))
  obtain⟨V,hV⟩:∃V,V=wr.alloc (.cells ⟨l.row⟩ 89):=⟨_,rfl⟩;have TV:Turn [] wr V:=by rw [hV];exact (tR wr).alloc _
  have h9:V.heap[wr.heap.size]?=some (.cells ⟨l.row⟩ 89 (0,0)):=by rw [hV];exact heap_alloc_new _ _
  rw [←hV];clear hV HLA HST c0 c1;generalize wr.heap.size=b4 at *;have HP:=lh (HPP.out.turn TV);clear TV HPP;have hid:d.ids[i]?=some l.id:=by unfold DocM.ids;rw [List.getElem?_map,HLS.out];rfl
  have hre:=fun u (hu:CkW w u d b0 mb t (atD d.ids))=>tree_reaches d t mb l.id l.id HSH.out (HC.out.acy rfl) (HC.out.acy rfl l.id) u hu.tree hu.dat;unfold fPart at hre;have HRE:=lh hre;clear hre hid;have hmf:=HMF.out;refine AnyTill.start (fun u=>CkW w u d b0 mb t (atD d.ids)∧u.cell? ⟨b4,0,none⟩=some (.int .i64 l.id)) 11 (by kernel_rfl) ?_;have hS:CkW w V.drew d b0 mb t (atD d.ids)∧V.drew.cell? ⟨b4,0,none⟩=some (.int .i64 l.id):=⟨HP.out.turn ((tR V).drawn 1),cell_at (i:=0) (w:=V.drew) h9 rfl⟩;clear h9;generalize V.drew=Y at *;refine tk 0 99 115 (.pointer (some ⟨t,0,none⟩)) hS ?_;try go_frame
  refine tk 1 99 116 (.pointer (some ⟨b4,0,none⟩)) hS ?_;try go_frame
  refine tk 2 99 117 l.id hS ?_ (hy:=fun w' hw=>by have f0:=hw.2;go_simp);try go_frame
  refine tk 3 99 118 (.pointer (some ⟨b4,0,none⟩)) hS ?_;try go_frame
  refine tk 4 99 119 l.id hS ?_ (hy:=fun w' hw=>by have f0:=hw.2;go_simp);try go_frame
  refine tk 5 99 120 (.pointer (some ⟨t,0,none⟩)) hS ?_;try go_frame
  refine tk 6 99 121 (.func (.func 169) #[.pointer (some ⟨t,0,none⟩)] #[]) hS ?_;try go_frame
  refine tk 9 99 124 (.pointer (some ⟨b4,0,none⟩)) hS ?_;try go_frame
  refine tk 10 99 125 l.id hS ?_ (hy:=fun w' hw=>by have f0:=hw.2;go_simp);try go_frame
  refine tk1 7 fun K hK=>?_;go_simp;refine (HRE.out _ hS.1).mono ?_;rintro e w4 ⟨rfl,ht4⟩;have hS:=And.intro (hS.1.turn ht4) (((tcell ht4).1 _ _ (block_lt_of_cell hS.2)).trans hS.2);refine hK _ _ (fun _=>hS) ?_;clear hK K ht4;try go_frame
  refine tk 8 99 123 (.bool true) hS ?_;try go_frame
  refine tk1 11 fun K hK=>?_;go_simp;refine (demand_ok _ _ _).mono ?_;rintro e w3 ⟨rfl,rfl⟩;refine hK _ _ (fun h=>absurd rfl h) ?_;clear hK K;try go_frame
  refine tkd ?_;have HPN:=lh hS.1;clear hS;go_wp2_with fail
  go_roundw;case rel=>exact⟨i+1,by omega,by go_num,HPN.out⟩
  simp [intOf];omega
 obtain rfl:i=d.ln:=by omega
 have HP:=lh hP;have HDE:=lh (fun u (hu:CkW w u d b0 mb t (atD d.ids))=>tree_depth d t mb 2501 d.root (low_any HSH.out (HC.out.acy rfl) _) (by omega) u hu.tree hu.dat);have hd6:=HC.out.depth rfl;have e6:decide (depthM d.layers 2501 d.root≤6)=true:=decide_eq_true hd6;clear hP hd6;generalize depthM d.layers 2501 d.root=dep at *;go_upto_region 25 with fail
 refine AnyTill.start (fun u=>CkW w u d b0 mb t (atD d.ids)) 7 (by kernel_rfl) ?_;have hS:CkW w wr.drew d b0 mb t (atD d.ids):=HP.out.turn ((tR wr).drawn 1);generalize wr.drew=Y at *;refine tk 0 99 128 (.pointer (some ⟨t,0,none⟩)) hS ?_;try go_frame
 refine tk 1 99 129 (.pointer (some ⟨b0,1,none⟩)) hS ?_;try go_frame
 refine tk 2 99 130 d.root hS ?_ (hy:=fun w' hw=>by have f1:=cell_of hw.h0 (i:=1) (v:=d.root) rfl;go_simp);try go_frame
 refine tk 5 99 133 (.pointer (some ⟨b0,1,none⟩)) hS ?_;try go_frame
 refine tk 6 99 134 d.root hS ?_ (hy:=fun w' hw=>by have f1:=cell_of hw.h0 (i:=1) (v:=d.root) rfl;go_simp);try go_frame
 refine tk1 3 fun K hK=>?_;go_simp;refine (HDE.out _ hS).mono ?_;rintro e w4 ⟨rfl,ht4⟩;have hS:=hS.turn ht4;refine hK _ _ (fun _=>hS) ?_;clear hK K ht4;try go_frame
 refine tk 4 99 132 (.bool true) hS ?_;try go_frame
 refine tk1 7 fun K hK=>?_;go_simp;refine (demand_ok _ _ _).mono ?_;rintro e w3 ⟨rfl,rfl⟩;refine hK _ _ (fun h=>absurd rfl h) ?_;clear hK K;try go_frame
 refine tkd ?_;have HPN:=lh hS;clear hS;go_wp2_with fail
 go_ret;exact⟨⟨t,rfl⟩,HPN.out.tu⟩
end Go.Proofs.YtbpklgllihhgpaaGreat
