import Derived.Test.YtbpklgllihhgpaaGreatA36
import Derived.Test.YtbpklgllihhgpaaGreatA37
set_option maxRecDepth 100000
set_option maxHeartbeats 16000000
namespace Go.Proofs.YtbpklgllihhgpaaGreat
open Tryz Go.RowKit Go.Den
structure E5(d:df)(bad:Option Nat): Prop where
 spc:∀s∈d.spaces,s.Good
 sn:d.sn≤8
 ln:d.ln≤40
 next:1≤d.next∧d.next≤1048576
 inc:d.ids.Pairwise (· < ·)
 pos:∀x∈d.ids,1≤x∧x<d.next
 root:∃l,dh d.layers d.root=some l∧l.kind=2
 lay:∀(i:Nat) (l:bI),d.layers[i]?=some l→bad≠some i→l.Tidy d.sn∧l.good=true∧l.Thin
 badl:∀i,bad=some i→∃l,d.layers[i]?=some l∧l.Bad
 kids:bad=none→∀(k:Nat) (l:bI),d.layers[k]?=some l→pM d.layers d.root l=true
 clone:bad=none→∀(k:Nat) (l:bI),d.layers[k]?=some l→tK d.layers l
 acy:bad=none→∀x,¬iY d.layers x x
 depth:bad=none→dP d.layers 2501 d.root≤6
def VK(d:df)(bad:Option Nat)(e:Ending): Prop:=match bad with
 | none=>∃t:Nat,e=.returned (.pointer (some ⟨t,0,none⟩))
 | some i=>∃l,d.layers[i]?=some l∧e=.panicked [{ v:=xQ 1 l.id,recovered:=false }]
def df.row(d:df): List Value:=[.slice d.sA d.sn d.sc,d.root,d.next,.slice d.lA d.ln d.lc]
structure FW(w wr:World)(d:df)(b0 mb t:Nat)(D:Int→Option Value): Prop where
 tu:bH [] w wr
 h0:wr.heap[b0]?=some (.cells ⟨d.row⟩ 29 (0,0))
 ht:wr.heap[t]?=some (.cells #[.slice d.sA d.sn d.sc,d.root,d.next,.slice d.lA d.ln d.lc,.map (some mb)] 221 (0,0))
 hm:lq wr mb D
 dat:d.At wr
 lt:w.heap.size≤b0∧b0<mb∧mb<t
theorem FW.turn{w wr u:World}{d:df}{b0 mb t:Nat}{D:Int→Option Value}(P:FW w wr d b0 mb t D)(T:bH [] wr u): FW w u d b0 mb t D:=
 ⟨P.tu.trans T,T.ox P.h0,T.ox P.ht,P.hm.turn T (by simp),P.dat.turn T,P.lt⟩
theorem FW.tree{w wr:World}{d:df}{b0 mb t:Nat}(P:FW w wr d b0 mb t (BG d.ids)): qI wr t mb d:=⟨P.ht,P.hm⟩
theorem FW.put{w wr u:World}{d:df}{b0 mb t:Nat}{D D':Int→Option Value}(P:FW w wr d b0 mb t D)(h:d.At w)(T:bH [mb] wr u)(M:lq u mb D'): FW w u d b0 mb t D':=by have hlt:=P.lt;have tu:bH [] w u:=P.tu.fresh T (by simp;omega);exact⟨tu,(T.old _ (ae.1 P.h0).1 (by simp;omega)).trans P.h0,(T.old _ (ae.1 P.ht).1 (by simp;omega)).trans P.ht,M,h.turn tu,P.lt⟩
def BD(ids:List Int)(k:Nat): Int:=if k=0 then 0 else ids.getD (k - 1) 0
theorem Qx{ids:List Int}(hi:ids.Pairwise (· < ·))(hp:∀x∈ids,1≤x){k:Nat}{x:Int}(hk:ids[k]?=some x): BD ids k<x:=by
 obtain⟨hlt,rfl⟩:=ah.1 hk;unfold BD;by_cases h:k=0
 ·rw [aG h];have:=hp _ (List.getElem_mem hlt);omega
 rw [aF h];simp only [List.getD,aB (show k - 1<ids.length by omega),Option.getD_some];exact List.pairwise_iff_getElem.1 hi (k - 1) k (by omega) hlt (by omega)
theorem JF{ids:List Int}{k:Nat}{x:Int}(hk:ids[k]?=some x): BD ids (k+1)=x:=by unfold BD;simp [List.getD,hk]
theorem Qk{ids:List Int}(hi:ids.Pairwise (· < ·)){k:Nat}{x:Int}(hk:ids[k]?=some x): BG (ids.take k) x=none∧BG (ids.take (k+1))=o6 (BG (ids.take k)) x (k:Int):=by
 obtain⟨hlt,hx⟩:=ah.1 hk;have hne:∀i,i<k→ids[i]?≠some x:=fun i hi2 he=>by have h1:=List.pairwise_iff_getElem.1 hi i k (by omega) hlt hi2;rw [aB (by omega)]at he;injection he with he;rw [he,hx]at h1;omega
 have hn:mW (ids.take k) x=none:=Bg fun i hi2=>by rw [List.length_take]at hi2;rw [List.getElem?_take,aG (by omega)];exact hne i (by omega)
 refine⟨by unfold BG;rw [hn];rfl,?_⟩;funext q;unfold o6;by_cases hq:q=x
 ·subst hq;rw [aG rfl];have:mW (ids.take (k+1)) q=some k:=vS (by rw [List.getElem?_take,aG (by omega)];exact hk) (fun i hi2=>by rw [List.getElem?_take,aG (by omega)];exact hne i hi2);unfold BG;rw [this];rfl
 rw [aF hq];unfold BG mW;rw [aT hlt,List.findIdx?_append];cases hf:(ids.take k).findIdx? (· == q)with
 | some j=>rfl
 | none=>
  have:([ids[k]]:List Int).findIdx? (· == q)=none:=by rw [List.findIdx?_eq_none_iff];intro y hy;rw [aN]at hy;subst hy;rw [hx];simpa using fun h=>hq h.symm
  rw [this];rfl
theorem MF(d:df)(bad:Option Nat)(w:World)(h:d.At w)(hc:E5 d bad):
  Calls prog 115 #[d.v] w fun e w'=>VK d bad e∧bH [] w w':=by
 have hsh:oP d.layers:=h.layers.short (by have:=hc.ln;omega);have hmk:=fun u:World=>run_makeMap (P:=prog) 219 u;have IX:∀(fn:Fn) (first cap:Array Value) (w:World),(Instr.makeFunc fn first cap).run prog w=.ok (.func fn first cap) w:=fun _ _ _ _=>rfl;have hln:=h.layers.1;have n8:=hc.sn;have n40:=hc.ln;have e1:decide ((d.sn:Int)≤8)=true:=aC (by omega);have e2:decide ((d.ln:Int)≤40)=true:=aC (by omega);have e3:decide (1≤d.next)=true:=aC hc.next.1;have e4:decide (d.next≤1048576)=true:=aC hc.next.2;have hsc:=fun u (t:bH [] w u)=>Fh d.spaces hc.spc d.sA d.sn d.sc (by omega) u (h.turn t).spaces;have HSC:=lh hsc;have HA:=lh h;have HC:=lh hc;have HSH:=lh hsh;have HLN:=lh hln;have HAL:=lh gI;have HMK:=lh hmk;have HMF:=lh IX;clear hsc h hc hsh hln IX;unfold df.v;obtain⟨W,hW⟩:∃W,W=((w.alloc (.cells ⟨d.row⟩ 29)).alloc (.map #[] 0)).alloc (.cells #[.slice d.sA d.sn d.sc,d.root,d.next,.slice d.lA d.ln d.lc,.map (some (w.heap.size+1))] 221):=⟨_,rfl⟩;have T0:bH [] w W:=by rw [hW];exact (((tR w).alloc _).alloc _).alloc _
 have x0:W.heap[w.heap.size]?=some (.cells ⟨d.row⟩ 29 (0,0)):=hW ▸ bO (bO bN);have x1:W.heap[w.heap.size+1]?=some (.map #[] 0):=hW ▸ bO bN;have x2:W.heap[w.heap.size+1+1]?=some (.cells #[.slice d.sA d.sn d.sc,d.root,d.next,.slice d.lA d.ln d.lc,.map (some (w.heap.size+1))] 221 (0,0)):=hW ▸ bN;have P0:FW w W d w.heap.size (w.heap.size+1) (w.heap.size+1+1) (BG (d.ids.take 0)):=⟨T0,x0,x2,by
  have:BG (d.ids.take 0)=fun _=>none:=by funext q;rfl
  rw [this];exact uS x1,HA.o.turn T0,by omega⟩
 have HP0:=lh P0;clear P0 T0 x0 x1 x2;unfold df.row at hW;go_enter func115,ntmps115;go_upto_region 2 with fail
 rw [←hW];clear hW HMK hmk;generalize hb0:w.heap.size=b0 at *;generalize hb1:b0+1=mb at *;generalize hb2:mb+1=t at *;clear hb1 hb2;have q0:=bK HP0.o.h0 (i:=0) (v:=.slice d.sA d.sn d.sc) rfl;have q1:=bK HP0.o.h0 (i:=1) (v:=d.root) rfl;have q2:=bK HP0.o.h0 (i:=2) (v:=d.next) rfl;have q3:=bK HP0.o.h0 (i:=3) (v:=.slice d.lA d.ln d.lc) rfl;go_upto_region 3 with (go_at_call 161;refine (dX _ _ _).mono ?_;rintro e w3 ⟨rfl,rfl⟩)
 go_upto_region 5 with (first
  | (go_at_call 164;refine (HSC.o _ HP0.o.tu).mono ?_;rintro e w1 ⟨rfl,ht1⟩)
  | (go_at_call 161;refine (dX _ _ _).mono ?_;rintro e w3 ⟨rfl,rfl⟩))
 have HP1:=lh (HP0.o.turn ht1);clear q0 q1 q2 q3 HP0 ht1 HSC e1 e2 e3 e4;have q3:=bK HP1.o.h0 (i:=3) (v:=.slice d.lA d.ln d.lc) rfl;go_upto_region 7 with fail
 clear q3;go_loopw [5,48] (fun s5 s48 wr=>∃i:Nat,i≤d.ln∧s5=.int .i64 (BD d.ids i)∧s48=i∧FW w wr d b0 mb t (BG (d.ids.take i))) (fun _ s48 _=>d.ln - (intOf s48).toNat);case atStart=>exact⟨0,by omega,rfl,rfl,HP1.o⟩
 obtain⟨i,hi,rfl,rfl,hP⟩:=hrel;by_cases hlt:i<d.ln
 ·obtain⟨gl,ol,l,hlA,hls,hAt,hload⟩:=hP.dat.load hlt;have HST:=lh (fun u=>gX u l);have HLA:=lh hload;have HPP:=lh hP;have HLS:=lh hls;have HAT:=lh hAt;have c0:(0:Int)≤(i:Int):=by omega
  have c1:(i:Int)<(d.ln:Int):=by omega
  clear hload hP hls hAt;rw [hlA];clear hlA;go_upto_region 9 with (first
   | (refine bQ (o:=⟨some 52,_,_,_,_,_⟩) rfl (dw (p:=.pointer (some ⟨gl,ol+i*31,none⟩)) (v:=.agg ⟨l.row⟩) rfl rfl HLA.o) ?_;try go_frame)
   | (refine bQ (o:=⟨some 7,_,_,_,_,_⟩) rfl (di (t:=89) rfl (HAL.o _)) ?_;try go_frame)
   | (refine bU rfl 89 (.tmp 7) (.tmp 52) rfl rfl rfl (HST.o _) ?_;try go_frame))
  obtain⟨V,hV⟩:∃V,V=wr.alloc (.cells ⟨l.row⟩ 89):=⟨_,rfl⟩;have TV:bH [] wr V:=by rw [hV];exact (tR wr).alloc _
  have h9:V.heap[wr.heap.size]?=some (.cells ⟨l.row⟩ 89 (0,0)):=by rw [hV];exact heap_alloc_new _ _
  rw [←hV];clear hV HLA HST c0 c1;generalize wr.heap.size=b4 at *;have HP:=lh (HPP.o.turn TV);clear TV HPP;have hid:d.ids[i]?=some l.id:=by unfold df.ids;rw [aP,HLS.o];rfl
  have hmem:l.id∈d.ids:=aH hid;have hlast:=Qx HC.o.inc (fun x hx=>(HC.o.pos x hx).1) hid;have hnx:=(HC.o.pos _ hmem).2;have e1:decide (BD d.ids i<l.id)=true:=aC hlast;have e2:decide (l.id<d.next)=true:=aC hnx;have y0:=bJ (i:=0) h9 rfl;have q2:=bK HP.o.h0 (i:=2) (v:=d.next) rfl;have q4:=bK HP.o.ht (i:=4) (v:=.map (some mb)) rfl;have hat:=Qk HC.o.inc hid;have hnl:=JF hid;have HAT2:=lh hat;have HNL:=lh hnl;have HH9:=lh h9;clear hid hmem hlast hnx hat hnl h9;generalize hlw:BD d.ids i=last at *;clear hlw;go_upto_region 10 with (go_at_call 161;refine (dX _ _ _).mono ?_;rintro e w3 ⟨rfl,rfl⟩)
  obtain⟨sx,u,u2,hen,hTu,hes,hM,hT⟩:∃s u w',(Instr.mapEntry 219 (.map (some mb)) l.id).run prog V.drew=.ok (.tuple #[(0:Int),s]) u∧bH [mb] V.drew u∧(Instr.entryStore 219 (.map (some mb)) s (i:Int)).run prog u=.ok () w'∧lq w' mb (o6 (BG (d.ids.take i)) l.id (i:Int))∧bH [mb] V.drew w':=
   (HP.o.turn ((tR V).drawn 1)).hm.entry underlying219 underlying3 (KQ _) HAT2.o.1 (i:Int)
  have HE:=lh hen;have HES:=lh hes;have HM:=lh (bg hM hT);have HTU:=lh hTu;clear hen hes hM hT hTu;refine cu.start (fun u=>bH [mb] V u) 12 (by kernel_rfl) ?_;have hS:bH [mb] V V.drew:=(bH.refl [mb] V).drawn 1;have hbm:b4≠mb:=fun e=>by obtain⟨es,cl,h1,_⟩:=HP.o.hm.ex;rw [←e,HH9.o]at h1;cases h1
  have HF:Hid (∀w',bH [mb] V w'→w'.cell? ⟨b4,0,none⟩=some (.int .i64 l.id)∧w'.cell? ⟨t,4,none⟩=some (.map (some mb))):=lh fun w' hw=>⟨bJ (i:=0) ((hw.old _ (ae.1 HH9.o).1 (by simpa using hbm)).trans HH9.o) rfl,bK ((hw.old _ (ae.1 HP.o.ht).1 (by have:=HP.o.lt;simp;omega)).trans HP.o.ht) (i:=4) (v:=.map (some mb)) rfl⟩;generalize hY:V.drew=Y at *;refine tk 0 (.pointer (some ⟨t,0,none⟩)) ?_;go_frame;refine tk 1 (.pointer (some ⟨t,0,none⟩)) ?_;go_frame;refine tk 2 (.pointer (some ⟨t,4,none⟩)) ?_;go_frame;refine tk 3 (.map (some mb)) ?_ (hy:=fun w' hw=>by obtain⟨f0,f4⟩:=HF.o _ hw;go_simp);go_frame;refine tk 4 (.pointer (some ⟨b4,0,none⟩)) ?_;go_frame;refine tk 5 l.id ?_ (hy:=fun w' hw=>by obtain⟨f0,f4⟩:=HF.o _ hw;go_simp);go_frame;refine tk 6 ((i:Int)) ?_;go_frame;refine tk 7 (.pointer (some ⟨b4,0,none⟩)) ?_;go_frame;refine tk 8 l.id ?_ (hy:=fun w' hw=>by obtain⟨f0,f4⟩:=HF.o _ hw;go_simp);go_frame;have hen:=HE.o;refine eH 9 fun K hK=>?_;go_simp;have hS2:bH [mb] V u:=hS.trans HTU.o;refine hK _ _ (fun _=>hS2) ?_;clear hK K hen;try go_frame
  refine cu.take (i:=10) (N:=99) (v:=sx) (d:=some 77) rfl rfl (by kernel_rfl) (fun _ _ _ h=>h) rfl (fun w' hw=>by go_simp) hS2 ?_;try go_frame
  have hes:=HES.o;refine eH 11 fun K hK=>?_;go_simp;have hS3:bH [mb] V u2:=hS.trans HM.o.2;refine hK _ _ (fun _=>hS3) ?_;clear hK K hes;try go_frame
  refine iZ fun K hK=>?_;go_simp;refine hK _ _ ?_;clear hK K;try go_frame
  have HPN:=lh (HP.o.put HA.o hS3 HM.o.1);go_wp2_with fail
  go_roundw;case rel=>exact⟨i+1,by omega,by rw [HNL.o],by go_num,by rw [HAT2.o.2];exact HPN.o⟩
  simp [intOf];omega
 obtain rfl:i=d.ln:=by omega
 have htk:d.ids.take d.ln=d.ids:=aY (by have:=HLN.o;unfold df.ids;rw [aJ];omega);rw [htk]at hP;have HP:=lh hP;clear hP;have hrt:=HC.o.root;have q1:=bK HP.o.h0 (i:=1) (v:=d.root) rfl;obtain⟨rl,hrl,hrk⟩:=hrt;have hly:=ql d t mb d.root wr HP.o.tree HP.o.dat;have hro:iC d.layers d.root=rl:=by unfold iC;rw [hrl];rfl
 rw [hro,hrl,Option.isSome_some]at hly;have HLY:=lh hly;have HST:=lh (fun u=>gX u rl);clear hly hro hrl;go_upto_region 13 with (first
  | (go_at_call 165;refine HLY.o.mono ?_;rintro e w4 ⟨rfl,ht4⟩)
  | (refine bQ (o:=⟨some 8,_,_,_,_,_⟩) rfl (di (t:=89) rfl (HAL.o _)) ?_;try go_frame)
  | (refine bU rfl 89 (.tmp 8) (.tmp 84) rfl rfl rfl (HST.o _) ?_;try go_frame))
 obtain⟨V,hV⟩:∃V,V=w4.alloc (.cells ⟨rl.row⟩ 89):=⟨_,rfl⟩;have TV:bH [] wr V:=by rw [hV];exact ht4.alloc _
 have h9:V.heap[w4.heap.size]?=some (.cells ⟨rl.row⟩ 89 (0,0)):=by rw [hV];exact heap_alloc_new _ _
 have y1:=bJ (i:=1) h9 rfl;rw [hrk]at y1;have HP2:=lh (HP.o.turn TV);rw [←hV];clear hV TV h9 q1 ht4 HLY HST HP hrk;generalize w4.heap.size=b8 at *;have q1:=bK HP2.o.h0 (i:=1) (v:=d.root) rfl;go_upto_region 14 with (go_at_call 161;refine (dX _ _ _).mono ?_;rintro e w3 ⟨rfl,rfl⟩)
 have q3:=bK HP2.o.h0 (i:=3) (v:=.slice d.lA d.ln d.lc) rfl;go_upto_region 15 with fail
 clear q1 q3 y1;go_loopw [98] (fun s98 wr=>∃i:Nat,i≤d.ln∧s98=i∧(∀j,bad=some j→i≤j)∧FW w wr d b0 mb t (BG d.ids)) (fun s98 _=>d.ln - (intOf s98).toNat);case atStart=>exact⟨0,by omega,rfl,fun _ _=>by omega,HP2.o⟩
 obtain⟨i,hi,rfl,hbd,hP⟩:=hrel;by_cases hlt:i<d.ln
 ·obtain⟨gl,ol,l,hlA,hls,hAt,hload⟩:=hP.dat.load hlt;have HST:=lh (fun u=>gX u l);have HLA:=lh hload;have HPP:=lh hP;have HLS:=lh hls;have HAT:=lh hAt;have c0:(0:Int)≤(i:Int):=by omega
  have c1:(i:Int)<(d.ln:Int):=by omega
  clear hload hP hls hAt;rw [hlA];clear hlA;go_upto_region 17 with (first
   | (refine bQ (o:=⟨some 101,_,_,_,_,_⟩) rfl (dw (p:=.pointer (some ⟨gl,ol+i*31,none⟩)) (v:=.agg ⟨l.row⟩) rfl rfl HLA.o) ?_;try go_frame)
   | (refine bQ (o:=⟨some 11,_,_,_,_,_⟩) rfl (di (t:=89) rfl (HAL.o _)) ?_;try go_frame)
   | (refine bU rfl 89 (.tmp 11) (.tmp 101) rfl rfl rfl (HST.o _) ?_;try go_frame))
  obtain⟨V,hV⟩:∃V,V=wr.alloc (.cells ⟨l.row⟩ 89):=⟨_,rfl⟩;have TV:bH [] wr V:=by rw [hV];exact (tR wr).alloc _
  have h9:V.heap[wr.heap.size]?=some (.cells ⟨l.row⟩ 89 (0,0)):=by rw [hV];exact heap_alloc_new _ _
  rw [←hV];clear hV HLA HST c0 c1;generalize wr.heap.size=b4 at *;have HP:=lh (HPP.o.turn TV);clear TV HPP;have hl17:=run_loadVar_row (P:=prog) _ b4 89 89 ⟨l.row⟩ (0,0) _ h9 underlying89 rfl (zero_of_info dS).2;have HL17:=lh hl17;clear hl17 h9;have hAV:=HAT.o;by_cases hbi:bad=some i
  ·subst hbi;obtain⟨l',hl',hB⟩:=HC.o.badl i rfl;obtain rfl:l=l':=(by rw [HLS.o]at hl';injection hl');have hf:=Jd l t V hB;have HF:=lh hf;clear hf hl' hB hbd hAV;go_wp2_with (first
    | (refine bQ (o:=⟨some 103,_,_,_,_,_⟩) rfl (dw (p:=.pointer (some ⟨b4,0,none⟩)) (v:=.agg ⟨l.row⟩) rfl rfl HL17.o) ?_;try go_frame)
    | (go_at_call 166;refine HF.o.mono ?_;rintro e w4 ⟨rfl,ht4⟩))
   exact⟨rfl,⟨l,HLS.o,rfl⟩,HP.o.tu.trans ht4⟩
  obtain⟨hty,hgo,hth⟩:=HC.o.lay i l HLS.o hbi;have hf:=IA d l t mb V HP.o.tree ((HP.o.dat.layers.2 i l HLS.o).1) hty hgo hth;have HF:=lh hf;have HBI:=lh hbi;have HBD:=lh hbd;clear hf hty hgo hth hbi hbd hAV;go_wp2_with (first
   | (refine bQ (o:=⟨some 103,_,_,_,_,_⟩) rfl (dw (p:=.pointer (some ⟨b4,0,none⟩)) (v:=.agg ⟨l.row⟩) rfl rfl HL17.o) ?_;try go_frame)
   | (go_at_call 166;refine HF.o.mono ?_;rintro e w4 ⟨rfl,ht4⟩))
  have HPN:=lh (HP.o.turn ht4);go_roundw;case rel=>exact⟨i+1,by omega,by go_num,fun j hj=>by have h1:=HBD.o j hj;have h2:j≠i:=fun e=>HBI.o (e ▸ hj);omega,HPN.o⟩
  simp [intOf];omega
 obtain rfl:i=d.ln:=by omega
 obtain rfl:bad=none:=by
  cases hb:bad with
  | none=>rfl
  | some j=>
   exfalso;have:=hbd j hb;obtain⟨l,hl,_⟩:=HC.o.badl j hb;have h1:=(ah.1 hl).1;have:=HLN.o;omega
 clear hbd;have HP:=lh hP;have HLK:=lh (JG d t mb (HC.o.kids rfl) (HC.o.clone rfl) wr hP.tree hP.dat);clear hP;go_upto_region 20 with (go_at_call 167;refine HLK.o.mono ?_;rintro e w4 ⟨rfl,ht4⟩)
 have HP2:=lh (HP.o.turn ht4);clear HP HLK ht4;have q3:=bK HP2.o.h0 (i:=3) (v:=.slice d.lA d.ln d.lc) rfl;go_upto_region 21 with fail
 clear q3;go_loopw [111] (fun s111 wr=>∃i:Nat,i≤d.ln∧s111=i∧FW w wr d b0 mb t (BG d.ids)) (fun s111 _=>d.ln - (intOf s111).toNat);case atStart=>exact⟨0,by omega,rfl,HP2.o⟩
 obtain⟨i,hi,rfl,hP⟩:=hrel;by_cases hlt:i<d.ln
 ·obtain⟨gl,ol,l,hlA,hls,hAt,hload⟩:=hP.dat.load hlt;have HST:=lh (fun u=>gX u l);have HLA:=lh hload;have HPP:=lh hP;have HLS:=lh hls;have HAT:=lh hAt;have c0:(0:Int)≤(i:Int):=by omega
  have c1:(i:Int)<(d.ln:Int):=by omega
  clear hload hP hls hAt;rw [hlA];clear hlA;go_upto_region 23 with (first
   | (refine bQ (o:=⟨some 114,_,_,_,_,_⟩) rfl (dw (p:=.pointer (some ⟨gl,ol+i*31,none⟩)) (v:=.agg ⟨l.row⟩) rfl rfl HLA.o) ?_;try go_frame)
   | (refine bQ (o:=⟨some 13,_,_,_,_,_⟩) rfl (di (t:=89) rfl (HAL.o _)) ?_;try go_frame)
   | (refine bU rfl 89 (.tmp 13) (.tmp 114) rfl rfl rfl (HST.o _) ?_;try go_frame))
  obtain⟨V,hV⟩:∃V,V=wr.alloc (.cells ⟨l.row⟩ 89):=⟨_,rfl⟩;have TV:bH [] wr V:=by rw [hV];exact (tR wr).alloc _
  have h9:V.heap[wr.heap.size]?=some (.cells ⟨l.row⟩ 89 (0,0)):=by rw [hV];exact heap_alloc_new _ _
  rw [←hV];clear hV HLA HST c0 c1;generalize wr.heap.size=b4 at *;have HP:=lh (HPP.o.turn TV);clear TV HPP;have hid:d.ids[i]?=some l.id:=by unfold df.ids;rw [aP,HLS.o];rfl
  have hre:=fun u (hu:FW w u d b0 mb t (BG d.ids))=>EH d t mb l.id l.id HSH.o (HC.o.acy rfl) (HC.o.acy rfl l.id) u hu.tree hu.dat;unfold wC at hre;have HRE:=lh hre;clear hre hid;have IX:=HMF.o;refine cu.start (fun u=>FW w u d b0 mb t (BG d.ids)∧u.cell? ⟨b4,0,none⟩=some (.int .i64 l.id)) 11 (by kernel_rfl) ?_;have hS:FW w V.drew d b0 mb t (BG d.ids)∧V.drew.cell? ⟨b4,0,none⟩=some (.int .i64 l.id):=⟨HP.o.turn ((tR V).drawn 1),bJ (i:=0) (w:=V.drew) h9 rfl⟩;clear h9;generalize V.drew=Y at *;refine tk 0 (.pointer (some ⟨t,0,none⟩)) ?_;go_frame;refine tk 1 (.pointer (some ⟨b4,0,none⟩)) ?_;go_frame;refine tk 2 l.id ?_ (hy:=fun w' hw=>by have f0:=hw.2;go_simp);go_frame;refine tk 3 (.pointer (some ⟨b4,0,none⟩)) ?_;go_frame;refine tk 4 l.id ?_ (hy:=fun w' hw=>by have f0:=hw.2;go_simp);go_frame;refine tk 5 (.pointer (some ⟨t,0,none⟩)) ?_;go_frame;refine tk 6 (.func (.func 169) #[.pointer (some ⟨t,0,none⟩)] #[]) ?_;go_frame;refine tk 9 (.pointer (some ⟨b4,0,none⟩)) ?_;go_frame;refine tk 10 l.id ?_ (hy:=fun w' hw=>by have f0:=hw.2;go_simp);go_frame;refine eH 7 fun K hK=>?_;go_simp;refine (HRE.o _ hS.1).mono ?_;rintro e w4 ⟨rfl,ht4⟩;have hS:=bg (hS.1.turn ht4) (((bY ht4).1 _ _ (ai hS.2)).trans hS.2);refine hK _ _ (fun _=>hS) ?_;clear hK K ht4;try go_frame
  refine tk 8 (.bool true) ?_;go_frame;refine iZ fun K hK=>?_;go_simp;refine (dX _ _ _).mono ?_;rintro e w3 ⟨rfl,rfl⟩;refine hK _ _ ?_;clear hK K;try go_frame
  have HPN:=lh hS.1;clear hS;go_wp2_with fail
  go_roundw;case rel=>exact⟨i+1,by omega,by go_num,HPN.o⟩
  simp [intOf];omega
 obtain rfl:i=d.ln:=by omega
 have HP:=lh hP;have HDE:=lh (fun u (hu:FW w u d b0 mb t (BG d.ids))=>AO d t mb 2501 d.root (zk HSH.o (HC.o.acy rfl) _) (by omega) u hu.tree hu.dat);have hd6:=HC.o.depth rfl;have e6:decide (dP d.layers 2501 d.root≤6)=true:=aC hd6;clear hP hd6;generalize dP d.layers 2501 d.root=dep at *;go_upto_region 25 with fail
 refine cu.start (fun u=>FW w u d b0 mb t (BG d.ids)) 7 (by kernel_rfl) ?_;have hS:FW w wr.drew d b0 mb t (BG d.ids):=HP.o.turn ((tR wr).drawn 1);generalize wr.drew=Y at *;refine tk 0 (.pointer (some ⟨t,0,none⟩)) ?_;go_frame;refine tk 1 (.pointer (some ⟨b0,1,none⟩)) ?_;go_frame;refine tk 2 d.root ?_ (hy:=fun w' hw=>by have f1:=bK hw.h0 (i:=1) (v:=d.root) rfl;go_simp);go_frame;refine tk 5 (.pointer (some ⟨b0,1,none⟩)) ?_;go_frame;refine tk 6 d.root ?_ (hy:=fun w' hw=>by have f1:=bK hw.h0 (i:=1) (v:=d.root) rfl;go_simp);go_frame;refine eH 3 fun K hK=>?_;go_simp;refine (HDE.o _ hS).mono ?_;rintro e w4 ⟨rfl,ht4⟩;have hS:=hS.turn ht4;refine hK _ _ (fun _=>hS) ?_;clear hK K ht4;try go_frame
 refine tk 4 (.bool true) ?_;go_frame;refine iZ fun K hK=>?_;go_simp;refine (dX _ _ _).mono ?_;rintro e w3 ⟨rfl,rfl⟩;refine hK _ _ ?_;clear hK K;try go_frame
 have HPN:=lh hS;clear hS;go_wp2_with fail
 go_ret;exact⟨⟨t,rfl⟩,HPN.o.tu⟩
end Go.Proofs.YtbpklgllihhgpaaGreat
