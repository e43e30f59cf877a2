import Derived.Laws.EntriesVeiled
import Derived.Test.YtbpklgllihhgpaaGreatR40
set_option maxRecDepth 100000
set_option maxHeartbeats 16000000
namespace Go.Proofs.YtbpklgllihhgpaaGreat
open Tryz Go.RowKit Go.Den
structure LwW(w wr:World)(dv:Array Value)(q:Rc): Prop where
 t:Turn [] w wr
 h0:wr.heap[w.heap.size]?=some (.cells dv 107 (0,0))
 h1:wr.heap[w.heap.size+1]?=some (.cells (rcs q) 24 (0,0))
theorem LwW.turn{w wr u:World}{dv:Array Value}{q:Rc}(P:LwW w wr dv q)(T:Turn [] wr u): LwW w u dv q:=by have h1:=(Array.getElem?_eq_some_iff.1 P.h1).1;exact⟨P.t.trans T,(T.old _ (by omega) (by simp)).trans P.h0,(T.old _ (by omega) (by simp)).trans P.h1⟩
theorem LwW.set{w wr:World}{dv:Array Value}{q:Rc}(P:LwW w wr dv q)(r:Rc): LwW w ((((wr.setCell ⟨w.heap.size+1,0,none⟩ r.x0).setCell ⟨w.heap.size+1,1,none⟩ r.y0).setCell ⟨w.heap.size+1,2,none⟩ r.x1).setCell ⟨w.heap.size+1,3,none⟩ r.y1) dv r:=
 ⟨(((P.t.sc).sc).sc).sc,(set4_other _ _ _ _ _ _ _ (by omega)).trans P.h0,set4 P.h1⟩
theorem DocM.At.keepD{d:DocM}{w u:World}(h:d.At w)(hu:∀q,q<w.heap.size→u.heap[q]?=w.heap[q]?): d.At u:=by
 refine⟨⟨h.spaces.1,fun j s hs=>?_⟩,⟨h.layers.1,fun j l hl=>?_⟩,h.small⟩
 ·obtain⟨a,g,o,e,hr⟩:=h.spaces.2 j s hs;exact⟨⟨a.h1,a.h2,a.l0.keep hu,a.l1.keep hu,a.l2.keep hu⟩,g,o,e,fun i v hv=>cell_keep hu (hr i v hv)⟩
 obtain⟨a,g,o,e,hr⟩:=h.layers.2 j l hl;exact⟨a.keep hu,g,o,e,fun i v hv=>cell_keep hu (hr i v hv)⟩
theorem exec_make{P:Program}{o:Oper}{a:Act}{w w':World}{t:TypeId}{l c:Operand}{p q v:Value}(ho:o.op=.makeSlice t l c)(hl:a.eval l=p)(hc:a.eval c=q)(hr:(Instr.makeSlice t p q).run P w=.ok v w'): (execOp a.eval o).run P w=.ok (.value v) w':=by simp only [execOp,ho,hl,hc,Sem.run_bind,hr,Result.andThen];rfl
def OwnV(w:World)(base:Nat)(v:Value)(ds:List (LayerM×Rc)): Prop:=Own elemV w base v (ds.map lvRow)
theorem like_fields{l m:LayerM}(h:l.Like m): m.hidden=l.hidden∧m.kind=l.kind∧m.id=l.id∧m.wide=l.wide:=by unfold LayerM.Like at h;rw [h];refine⟨rfl,rfl,rfl,?_⟩;funext r;rfl
theorem OwnV.set4{w:World}{b base:Nat}{v:Value}{ds:List (LayerM×Rc)}(h:OwnV w base v ds)(r:Rc)(hb:b<base): OwnV ((((w.setCell ⟨b,0,none⟩ r.x0).setCell ⟨b,1,none⟩ r.y0).setCell ⟨b,2,none⟩ r.x1).setCell ⟨b,3,none⟩ r.y1) base v ds:=
 Own.kept h (((((Turn.refl [b] w).setCell _ (.inl (by simp))).setCell _ (.inl (by simp))).setCell _ (.inl (by simp))).setCell _ (.inl (by simp))) (fun g hg hm=>by have:=(h.2.lt g hg).1;simp at hm;omega)
theorem graph_levels(d:DocM)(kids:List Int)(kl:List LayerM)(hlen:kl.length=kids.length)(hkl:∀j l,kl[j]?=some l→layerAt d.layers (kids.getD j 0)=some l)(A:Option Addr)(n cap:Nat)(hn:n≤50)(r:Rc)(hr:r.InC)(w:World)(h:d.At w)(hth:∀l∈d.layers,l.Thin)(hA:IntsAt w A n kids)
  (hgd:∀(j:Nat) (l:LayerM),kl[j]?=some l→l.hidden=false→l.kind=3→fltB l.filt l.ks l.cs=true) :
  Calls prog 43 #[d.v,.slice A n cap,r.v] w fun e w'=>(∃v ds,e=.returned v∧OwnV w' w.heap.size v ds∧LikeL (levs kl r) ds)∧Turn [] w w':=by
 have hnl:=hA.1;have hR:=fun h1=>hA.cell h1;have hL:=fun (j:Nat) l (hl:kl[j]?=some l) u (t:Turn [] w u) bs (hbs:∀b∈bs,b<u.heap.size) (hbw:∀b∈bs,w.heap.size≤b)=>walker_layer d (kids.getD j 0) l (hkl j l hl) u bs hbs (stab_old t hbw fun v hv=>(h.keepD hv)) hth;clear h hA hkl hth;obtain⟨sA,sn,sc,spaces,root,next,lA,ln,lc,layers⟩:=d;simp only [DocM.v]at *;obtain⟨W,hW⟩:∃W,W=(w.alloc (.cells #[.slice sA sn sc,root,next,.slice lA ln lc] 107)).alloc (.cells (rcs r) 24):=⟨_,rfl⟩;have T0:Turn [] w W:=hW ▸ ((tR w).alloc _).alloc _;have hWs:w.heap.size+2≤W.heap.size:=by rw [hW];simp
 have P0:LwW w W #[.slice sA sn sc,root,next,.slice lA ln lc] r:=by
  refine⟨T0,?_,?_⟩
  ·rw [hW];simp only [heap_at,World.size_alloc];rw [if_neg (by omega),if_pos (by first | trivial | omega)]
  rw [hW];simp only [heap_at,World.size_alloc];rw [if_pos (by first | trivial | omega)]
 obtain⟨W2,hmk,hO0,hTm⟩:=make_own (k:=elemV) (t:=112) underlying112 n (by omega) W;have P1:=P0.turn hTm;have HR:=lh hR;have HL:=lh hL;have HI:=lh hr;have HLEN:=lh (And.intro hlen hnl);have HGD:=lh hgd;have HMK:=lh hmk;have HO0:Hid (OwnV W2 (w.heap.size+2) (.slice (some ⟨W,0,none⟩) 0 n) []):=lh (Own.base hO0 (by omega));clear hR hL hr hlen hnl T0 P0 hTm hmk hO0 hgd;generalize W.heap.size=m0 at *;unfold Rc.v rcs at *;go_enter func43,ntmps43;go_upto_region 1 with (fail)
 rw [←hW];clear hW;try simp only [World.size_alloc]
 go_wp2_with (refine wpList_yield (o:=⟨some 12,_,_,_,_,_⟩) rfl (exec_make (l:=.const (0:Int)) (c:=.tmp 11) rfl rfl rfl HMK.out) ?_;try go_frame)
 go_loopw [7,8] (fun s7 s8 wr=>∃(j:Nat) (a9:Addr) (n9 c9:Nat) (ds:List (LayerM×Rc)) (q:Rc),j≤n∧s7=.slice (some a9) n9 c9∧s8=.int .i64 ((j:Int) - 1)∧OwnV wr (w.heap.size+2) (.slice (some a9) n9 c9) ds∧LikeL (levs (kl.drop j) r) ds∧q=lowR (kl.drop j) r∧LwW w wr #[.slice sA sn sc,root,next,.slice lA ln lc] q) (fun _ s8 _=>(intOf s8+1).toNat);case atStart=>exact⟨n,_,_,_,[],r,Nat.le_refl _,rfl,rfl,HO0.out,by rw [List.drop_of_length_le (by have:=HLEN.out;omega)];exact .nil,by rw [List.drop_of_length_le (by have:=HLEN.out;omega)];rfl,P1⟩
 clear P1;obtain⟨j,a9,n9,c9,ds,q,hj,rfl,rfl,hO,hLk,hq,P⟩:=hrel;have HQ:=lh hq;have HO:=lh hO;have HLK:=lh hLk;have q0:=cell_of P.h0 (i:=0) (v:=.slice sA sn sc) rfl;have q1:=cell_of P.h0 (i:=1) (v:=root) rfl;have q2:=cell_of P.h0 (i:=2) (v:=next) rfl;have q3:=cell_of P.h0 (i:=3) (v:=.slice lA ln lc) rfl;have HP:=lh P;clear hq hO hLk P;by_cases hj0:0<j
 ·obtain⟨i,rfl⟩:∃i,j=i+1:=⟨j - 1,by omega⟩;obtain⟨g,o,rfl,hR⟩:=HR.out (by omega);obtain⟨l,hl⟩:∃l,kl[i]?=some l:=⟨kl[i]'(by have:=HLEN.out;omega),by rw [List.getElem?_eq_getElem]⟩;have hqi:q.InC:=by rw [HQ.out];exact lowR_in _ HI.out
  have hdr:=lowR_drop hl r;rw [←HQ.out]at hdr;have hlv:levs (kl.drop i) r=if l.hidden=true then levs (kl.drop (i+1)) r else (l,q) :: levs (kl.drop (i+1)) r:=by obtain⟨h1,h2⟩:=List.getElem?_eq_some_iff.1 hl;rw [List.drop_eq_getElem_cons h1,h2,HQ.out];rfl
  have HDR:=lh hdr;have HLV:=lh hlv;have HQI:=lh hqi;have HLL:=lh (fun u t bs h1 h2=>HL.out i l hl u t bs h1 h2);have HG:=lh (HGD.out i l hl);have HK:=lh (fun u t=>hR u t i (by omega));clear hdr hlv hqi hl hR;generalize kids.getD i 0=kid at *;have b0:(0:Int)≤(i:Int):=by omega
  have b1:(i:Int)<(n:Int):=by omega
  have b2:(i:Int)≤50:=by omega
  rw [show (((i+1:Nat):Int) - 1)=(i:Int) by omega];go_upto_region 5 with (fail)
  go_cut [9] (fun s9 wx=>∃c m,s9=.pointer (some ⟨c,0,none⟩)∧l.Like m∧wx.heap[c]?=some (.cells ⟨m.row⟩ 89 (0,0))∧m.At wx∧Turn [] wr wx);case first=>
   refine AnyTill.start (fun w'=>Turn [] wr w') 7 (by kernel_rfl) ?_;have hS:Turn [] wr wr.drew:=(tR wr).drawn 1;generalize wr.drew=V at *;refine tk 0 2 20 (.agg #[.slice sA sn sc,root,next,.slice lA ln lc]) hS ?_ (hy:=fun w' hw=>by have e0:=((tcell hw).1 _ _ (block_lt_of_cell q0)).trans q0;have e1:=((tcell hw).1 _ _ (block_lt_of_cell q1)).trans q1;have e2:=((tcell hw).1 _ _ (block_lt_of_cell q2)).trans q2;have e3:=((tcell hw).1 _ _ (block_lt_of_cell q3)).trans q3;go_simp);(try go_frame);refine tk 1 2 21 (.slice (some ⟨g,o,none⟩) n cap) hS ?_;(try go_frame);refine tk 2 2 22 i hS ?_;(try go_frame);refine tk 3 2 23 (.pointer (some ⟨g,o+i,none⟩)) hS ?_;(try go_frame);refine tk 4 2 24 kid hS ?_ (hy:=fun w' hw=>by have e0:=HK.out _ (HP.out.t.trans hw);go_simp);(try go_frame);refine AnyTill.two (i:=5) (j:=6) rfl rfl (by kernel_rfl) rfl rfl (fun K hK=>?_) (fun K hK=>?_)
   ·go_simp;(with_reducible refine (HLL.out _ (HP.out.t.trans hS) [] (fun b hb=>absurd hb List.not_mem_nil) (fun b hb=>absurd hb List.not_mem_nil)).mono ?_);rintro e w3 ⟨⟨m,hm,hA,rfl⟩,ht3⟩;have hS3:=hS.trans ht3;refine hK _ _ (fun _=>hS3) ?_;clear hK K;(try go_frame);refine tk1 6 fun K hK=>?_;have hcl:wr.heap.size≤w3.heap.size:=hS3.size;refine wp_yieldR (d:=some 9) rfl (exec_alloc rfl (alloc_LY w3)) ?_;have hc:=heap_alloc_new w3 (.cells ⟨zeroL.row⟩ 89);have tz:=(tR w3).alloc (.cells ⟨zeroL.row⟩ 89);have hS2:=hS3.trans tz;have hgc:w3.heap.size<(w3.alloc (.cells ⟨zeroL.row⟩ 89)).heap.size:=(by simp);have hAK:m.At ((w3.alloc (.cells ⟨zeroL.row⟩ 89)).setRow w3.heap.size ⟨m.row⟩):=hA.now.keep (fun q hq=>(setRow_other _ _ _ _ (by omega)).trans (heap_alloc_old _ _ hq));generalize w3.alloc (.cells ⟨zeroL.row⟩ 89)=Z at *;generalize w3.heap.size=c_ at *;refine hK _ _ (fun _=>hS2) ?_;clear hK K;(try go_frame);have hAF:=hAK;refine tk1 7 fun K hK=>?_;have hst:=part_store (o:=0) (ty:=89) (p:=m.row) (L':=m.row) hc (zero_of_info infoLYR).2 (by simp [LayerM.row]) (row_one _) (by simp [LayerM.row]);refine wp_storeR (d:=none) rfl 89 (.tmp 9) (.tmp 25) rfl rfl rfl hst ?_;refine hK _ _ (fun h=>absurd rfl h) ?_;clear hK K;(try go_frame);refine tkd ?_;have hSF:=hS2.setRow (g:=c_) ⟨m.row⟩ (.inr hcl);have hcF:=setRow_at (L':=m.row) hc;(go_wp2_with fail);go_meet;exact⟨c_,m,rfl,hm,hcF,hAF,hSF⟩
   have hcl:wr.heap.size≤V.heap.size:=hS.size;refine wp_yieldR (d:=some 9) rfl (exec_alloc rfl (alloc_LY V)) ?_;have hc:=heap_alloc_new V (.cells ⟨zeroL.row⟩ 89);have tz:=(tR V).alloc (.cells ⟨zeroL.row⟩ 89);have hS2:=hS.trans tz;have hgc:V.heap.size<(V.alloc (.cells ⟨zeroL.row⟩ 89)).heap.size:=(by simp);generalize V.alloc (.cells ⟨zeroL.row⟩ 89)=Z at *;generalize V.heap.size=c_ at *;refine hK _ _ (fun _=>hS2) ?_;clear hK K;(try go_frame);refine tk1 5 fun K hK=>?_;go_simp;(with_reducible refine (HLL.out _ (HP.out.t.trans hS2) [c_] (fun b hb=>by rw [List.mem_singleton.1 hb];exact hgc) (fun b hb=>by rw [List.mem_singleton.1 hb];have:=HP.out.t.size;omega)).mono ?_);rintro e w3 ⟨⟨m,hm,hA,rfl⟩,ht3⟩;have hS3:=hS2.trans ht3;refine hK _ _ (fun _=>hS3) ?_;clear hK K;(try go_frame);have hc:=(ht3.old c_ hgc (by simp)).trans hc;have hAF:m.At (w3.setRow c_ ⟨m.row⟩):=(hA.setRow (by simp)).now;refine tk1 7 fun K hK=>?_;have hst:=part_store (o:=0) (ty:=89) (p:=m.row) (L':=m.row) hc (zero_of_info infoLYR).2 (by simp [LayerM.row]) (row_one _) (by simp [LayerM.row]);refine wp_storeR (d:=none) rfl 89 (.tmp 9) (.tmp 25) rfl rfl rfl hst ?_;refine hK _ _ (fun h=>absurd rfl h) ?_;clear hK K;(try go_frame);refine tkd ?_;have hSF:=hS3.setRow (g:=c_) ⟨m.row⟩ (.inr hcl);have hcF:=setRow_at (L':=m.row) hc;(go_wp2_with fail);go_meet;exact⟨c_,m,rfl,hm,hcF,hAF,hSF⟩
  obtain⟨c,m,rfl,hm,hc,hmA,hT⟩:=hcut;obtain⟨f1,f2,f3,f4⟩:=like_fields hm;have P:=HP.out.turn hT;have y1:=cell_at (i:=1) hc rfl;have y3:=cell_at (i:=3) hc rfl;rw [f1]at y3;rw [f2]at y1;have HP2:=lh P;have HC:=lh hc;have HMA:=lh hmA;have HM:=lh (And.intro hm (And.intro f2 f4));have HO2:Hid (OwnV wc (w.heap.size+2) (.slice (some a9) n9 c9) ds):=lh (Own.turn HO.out hT);clear P hT q0 q1 q2 q3 hc hmA hm f1 f2 f3 f4;cases hh:l.hidden with
  | true=>
   rw [hh]at y3;have hlv:=HLV.out;rw [if_pos hh]at hlv;have hst:lowR (kl.drop i) r=q:=(by rw [HDR.out];unfold LayerM.step;rw [if_neg (by rw [hh];simp)]);have HF:=lh (And.intro hlv hst);clear hlv hst hh y1;(go_wp2_with fail);go_roundw;case rel=>exact⟨i,a9,n9,c9,ds,q,by omega,rfl,rfl,HO2.out,by rw [HF.out.1];exact HLK.out,HF.out.2.symm,HP2.out⟩
   simp [intOf]
  | false=>
   rw [hh]at y3;have hlv:=HLV.out;rw [if_neg (by rw [hh];simp)]at hlv;have z0:=cell_of HP2.out.h1 (i:=0) (v:=q.x0) rfl;have z1:=cell_of HP2.out.h1 (i:=1) (v:=q.y0) rfl;have z2:=cell_of HP2.out.h1 (i:=2) (v:=q.x1) rfl;have z3:=cell_of HP2.out.h1 (i:=3) (v:=q.y1) rfl;have hlA:(Instr.loadAt 89 (.pointer (some ⟨c,0,none⟩))).run prog wc=.ok (.agg ⟨m.row⟩) wc:=run_loadAt_mid wc c 0 89 m.row _ (part_range HC.out (by simp)) underlying89 rfl (zero_of_info infoLYR).2;have hbl:(Instr.build 115 #[(0,.agg ⟨m.row⟩),(1,.agg #[q.x0,q.y0,q.x1,q.y1])]).run prog wc=.ok (.agg ⟨lvRow (m,q)⟩) wc:=build_LV m q.x0 q.y0 q.x1 q.y1 wc;have hsl:=slice_one (k:=elemV) (t:=112) underlying112 (lv_row (m,q)) wc;have T9:=(tR wc).alloc (.cells ⟨lvRow (m,q)⟩ elemV.e);have hrows:=(Own.rowsAt HO2.out);have hn9:n9=ds.length:=(by rw [hrows.2,List.length_map]);have hds:ds.length≤50:=(by have:=HLK.out.len;have:=levs_len (kl.drop (i+1)) r;have:=HLEN.out;simp at *;omega);obtain⟨v2,u2,hap,hO3,hT3,_⟩:=app_rows (k:=elemV) (t:=112) underlying112 (own_one (lv_row (m,q)) wc) a9 c9 (fun r hr=>by obtain⟨x,_,rfl⟩:=List.mem_map.1 hr;exact lv_row x) (hrows.1.turn T9) (by simp) (by rw [List.length_map];simp;omega) 112;rw [←hrows.2]at hap;have hTF:Turn [] wc u2:=turn_new T9 hT3 (fun g hg=>by rw [blks_slice]at hg;simp at hg;omega);obtain⟨a8,n8,c8,rfl⟩:∃a8 n8 c8,v2=.slice (some a8) n8 c8:=by
    rcases hO3.form with ⟨_,h0⟩ | ⟨g,o,cp,e,_⟩
    ·cases h0
    exact⟨_,_,_,e⟩
   have hO4:OwnV u2 (w.heap.size+2) (.slice (some a8) n8 c8) ((m,q) :: ds):=Own.base hO3 (by have:=(Array.getElem?_eq_some_iff.1 HP2.out.h1).1;omega);have hL4:LikeL (levs (kl.drop i) r) ((m,q) :: ds):=(by rw [hlv];exact .cons HM.out.1 HLK.out);have HN:=lh (And.intro hO4 (And.intro hL4 hTF));have HLD:=lh hlA;have HBL:=lh hbl;have HSL:=lh hsl;have HAP:=lh hap;have hc2:=(hTF.old c (Array.getElem?_eq_some_iff.1 HC.out).1 (by simp)).trans HC.out;have x1:=cell_at (i:=1) hc2 rfl;rw [HM.out.2.1]at x1;have HC2:=lh hc2;clear hlA hbl hsl hap hrows hn9 hds hO3 hT3 hTF hO4 hL4 T9 hlv hc2 y1;go_upto_region 8 with (first
    | (at_builtin;refine wpList_yield rfl (exec_app (v:=.slice (some ⟨wc,0,none⟩) 1 1) (y:=.slice (some a9) n9 c9) (.tmp 31) (.tmp 32) 112 rfl rfl rfl HAP.out) ?_;try go_frame)
    | (refine wpList_yield (o:=⟨some 28,_,_,_,_,_⟩) rfl (exec_load (p:=.pointer (some ⟨c,0,none⟩)) (v:=.agg ⟨m.row⟩) rfl rfl HLD.out) ?_;try go_frame)
    | (refine wpList_yield (o:=⟨some 30,_,_,_,_,_⟩) rfl (exec_build2 (x:=.tmp 28) (y:=.tmp 29) (p:=.agg ⟨m.row⟩) (q:=.agg #[q.x0,q.y0,q.x1,q.y1]) (v:=.agg ⟨lvRow (m,q)⟩) rfl rfl rfl HBL.out) ?_;try go_frame)
    | (refine wpList_yield (o:=⟨some 31,_,_,_,_,_⟩) rfl (exec_slice1 (x:=.tmp 30) (y:=.agg ⟨lvRow (m,q)⟩) rfl rfl HSL.out) ?_;try go_frame))
   obtain⟨hO4,hL4,hTF⟩:=HN.out;have P3:=HP2.out.turn hTF;have HO4:=lh hO4;have HL4:=lh hL4;have HP3:=lh P3;have HA4:=lh (HMA.out.turn hTF);clear hO4 hL4 hTF P3 z0 z1 z2 z3 HN HLD HBL HSL HAP HP2 HO2 HMA HC;have w0:=cell_of HP3.out.h1 (i:=0) (v:=q.x0) rfl;have w1:=cell_of HP3.out.h1 (i:=1) (v:=q.y0) rfl;have w2:=cell_of HP3.out.h1 (i:=2) (v:=q.x1) rfl;have w3:=cell_of HP3.out.h1 (i:=3) (v:=q.y1) rfl;by_cases hk3:l.kind=3
   ·have hst:lowR (kl.drop i) r=m.wide q:=(by rw [HDR.out,HM.out.2.2];unfold LayerM.step;rw [if_pos ⟨hh,hk3⟩]);have hfl:=HG.out hh hk3;have hflm:fltB m.filt m.ks m.cs=true:=(by have:=HM.out.1;unfold LayerM.Like at this;rw [this];exact hfl);have hWd:=graph_widened m hflm q HQI.out.bd u2 HA4.out;have hlA:(Instr.loadAt 89 (.pointer (some ⟨c,0,none⟩))).run prog u2=.ok (.agg ⟨m.row⟩) u2:=run_loadAt_mid u2 c 0 89 m.row _ (part_range HC2.out (by simp)) underlying89 rfl (zero_of_info infoLYR).2;generalize m.wide q=wq at *;have HST:=lh hst;have HWD:=lh hWd;have HLD:=lh hlA;rw [hk3]at x1;clear hst hfl hflm hWd hlA hk3 hh y3;unfold Rc.v at HWD;go_wp2_with (first
     | (refine wpList_yield (o:=⟨some 37,_,_,_,_,_⟩) rfl (exec_load (p:=.pointer (some ⟨c,0,none⟩)) (v:=.agg ⟨m.row⟩) rfl rfl HLD.out) ?_;try go_frame)
     | (go_at_call 81;refine HWD.out.mono ?_;rintro e w5 ⟨rfl,ht5⟩;have P5:=HP3.out.turn ht5;have v0:=cell_of P5.h1 (i:=0) (v:=q.x0) rfl;have v1:=cell_of P5.h1 (i:=1) (v:=q.y0) rfl;have v2:=cell_of P5.h1 (i:=2) (v:=q.x1) rfl;have v3:=cell_of P5.h1 (i:=3) (v:=q.y1) rfl;have vf:=(fun i=>frozen_of P5.h1 i);have HP5:=lh P5;have HT5:=lh ht5;clear P5 ht5))
    have HO5:Hid (OwnV _ (w.heap.size+2) (.slice (some a8) n8 c8) ((m,q) :: ds)):=lh (OwnV.set4 (b:=w.heap.size+1) (base:=w.heap.size+2) (v:=.slice (some a8) n8 c8) (ds:=(m,q) :: ds) (Own.turn HO4.out HT5.out) wq (by omega));go_roundw;case rel=>exact⟨i,a8,n8,c8,_,wq,by omega,rfl,rfl,HO5.out,HL4.out,HST.out.symm,HP5.out.set wq⟩
    simp [intOf]
   have hst:lowR (kl.drop i) r=q:=(by rw [HDR.out];unfold LayerM.step;rw [if_neg (by rw [hh];simpa using hk3)]);have HST:=lh hst;have hk4:(l.kind == 3)=false:=(by simpa using hk3);clear hst hk3 hh y3;(go_wp2_with fail);go_roundw;case rel=>exact⟨i,a8,n8,c8,_,q,by omega,rfl,rfl,HO4.out,HL4.out,HST.out.symm,HP3.out⟩
   simp [intOf]
 obtain rfl:j=0:=by omega
 go_wp2_with fail
 go_ret;exact⟨⟨_,ds,rfl,Own.base HO.out (by omega),HLK.out⟩,HP.out.t⟩
structure OutW(w:World)(p B:Nat)(ds:List DepM): Prop where
 ex:∃A n c,w.heap[p]?=some (.cells #[.slice A n c] 35 (0,0))∧OwnD w B (.slice A n c) ds
 lt:p<B
 le:B≤w.heap.size
theorem OutW.turn{w w':World}{p B:Nat}{ds:List DepM}(h:OutW w p B ds)(T:Turn [] w w'): OutW w' p B ds:=by obtain⟨A,n,c,h1,h2⟩:=h.ex;exact⟨⟨A,n,c,(T.old _ (Array.getElem?_eq_some_iff.1 h1).1 (by simp)).trans h1,Own.turn h2 T⟩,h.lt,Nat.le_trans h.le T.size⟩
theorem OutW.nil{w:World}{p:Nat}(h:w.heap[p]?=some (.cells #[.slice none 0 0] 35 (0,0))): OutW w p w.heap.size []:=
 ⟨⟨none,0,0,h,own_none _ _ _⟩,(Array.getElem?_eq_some_iff.1 h).1,Nat.le_refl _⟩
def Past(p B:Nat)(w w':World): Prop:=∃bs,(∀b∈bs,b=p∨B≤b)∧Turn bs w w'
theorem Past.refl(p B:Nat)(w:World): Past p B w w:=⟨[],fun _ h=>absurd h List.not_mem_nil,Turn.refl _ _⟩
theorem Past.of{p B:Nat}{w w':World}(T:Turn [] w w'): Past p B w w':=⟨[],fun _ h=>absurd h List.not_mem_nil,T⟩
theorem Past.trans{p B:Nat}{u v w:World}(h:Past p B u v)(k:Past p B v w): Past p B u w:=by obtain⟨bs,h1,h2⟩:=h;obtain⟨cs,k1,k2⟩:=k;exact⟨bs ++ cs,fun b hb=>(List.mem_append.1 hb).elim (h1 b) (k1 b),(h2.mono (by simp +contextual)).trans (k2.mono (by simp +contextual))⟩
theorem Past.new{p B:Nat}{u v w:World}(h:Turn [] u v)(k:Past p B v w)(hp:u.heap.size≤p)(hB:p<B): Turn [] u w:=by obtain⟨cs,k1,k2⟩:=k;exact turn_new h k2 fun b hb=>by rcases k1 b hb with e | e <;> omega
theorem Past.old{p B:Nat}{w w':World}(h:Past p B w w'){q:Nat}(hp:q≠p)(hq:q<B)(hw:q<w.heap.size): w'.heap[q]?=w.heap[q]?:=by obtain⟨bs,h1,h2⟩:=h;exact h2.old q hw fun hm=>by rcases h1 q hm with e | e <;> omega
theorem Past.size{p B:Nat}{w w':World}(h:Past p B w w'): w.heap.size≤w'.heap.size:=by obtain⟨bs,h1,h2⟩:=h;exact h2.size
theorem graph_add(x:DepM)(p B:Nat)(ds:List DepM)(hn:ds.length≤1000)(w:World)(h:OutW w p B ds):
  Calls prog 41 #[x.v,.pointer (some ⟨p,0,none⟩)] w fun e w'=>e=.returned (.tuple #[])∧OutW w' p B (putD ds x)∧Past p B w w':=by
 have hE:=rect_empty x.r;obtain⟨A,n,c,h1,h2⟩:=h.ex;have hp:p<w.heap.size:=(Array.getElem?_eq_some_iff.1 h1).1;have hpB:=h.lt;have hBw:=h.le;have T0:=(tR w).alloc (.cells ⟨x.row⟩ 46);cases hx:x.r.empty with
 | true=>
  rw [hx]at hE;have hpd:putD ds x=ds:=by unfold putD;rw [hx];rfl
  rw [hpd];have HE:=lh hE;have HO:=lh h;clear hE h hx hpd h1 h2 hp hpB hBw;obtain⟨layer,below,r0,r1,r2,r3⟩:=x;simp only [DepM.v,DepM.row,Rc.v]at *;go_enter func41,ntmps41;go_wp2_with (go_at_call 18;refine (HE.out _).mono ?_;rintro e w1 ⟨rfl,ht⟩)
  go_end0;exact⟨rfl,HO.out.turn (T0.trans ht),.of (T0.trans ht)⟩
 | false=>
  rw [hx]at hE;have hpd:putD ds x=ds ++ [x]:=by unfold putD;rw [hx];rfl
  rw [hpd];have HE:=lh hE;have HO:=lh h2;have HP:=lh h1;have HRW:=lh (dep_row x);clear hE h hx hpd h1 h2;obtain⟨layer,below,r0,r1,r2,r3⟩:=x;simp only [DepM.v,DepM.row,Rc.v]at *;go_enter func41,ntmps41;go_upto_region 2 with (go_at_call 18;refine (HE.out _).mono ?_;rintro e w1 ⟨rfl,ht⟩;obtain⟨hc,hf⟩:=tcell ht)
  have T1:=T0.trans ht;have hp1:=(T1.old p hp (by simp)).trans HP.out;have y0:=cell_of hp1 (i:=0) (v:=.slice A n c) rfl;obtain⟨v',u',e1,e2,e3,e4⟩:=app_new (k:=elemD) (t:=35) underlying35 (HO.out.turn T1) HRW.out (by have:=T1.size;omega) (by rw [List.length_map];omega) 35;have hsl:=slice_one (k:=elemD) (t:=35) underlying35 HRW.out w1;obtain⟨A',n',c',rfl⟩:∃A n c,v'=.slice A n c:=by rcases e2.form with ⟨e,_⟩ | ⟨_,_,_,e,_⟩ <;> exact⟨_,_,_,e⟩
  have hbl:∀b∈blks (.slice A n c),B≤b:=fun b hb=>(HO.out.2.lt b hb).1;have hp2:=(e3.old p (Nat.lt_of_lt_of_le hp T1.size) (fun hm=>by have:=hbl p hm;omega)).trans hp1;have y2:=cell_of hp2 (i:=0) (v:=.slice A n c) rfl;have yf:=frozen_of hp2 0;have hO2:OwnD (u'.setCell ⟨p,0,none⟩ (.slice A' n' c')) B (.slice A' n' c') (ds ++ [⟨layer,below,r0,r1,r2,r3⟩]):=by unfold OwnD;rw [List.map_append];exact Own.kept e2 ((Turn.refl [p] u').setCell _ (.inl (by simp))) (fun g hg hm=>by have:=(e2.2.lt g hg).1;simp at hm;omega)
  have hp3:(u'.setCell ⟨p,0,none⟩ (.slice A' n' c')).heap[p]?=some (.cells #[.slice A' n' c'] 35 (0,0)):=by simp only [World.setCell,Array.getElem?_modify,if_true,hp2];rfl
  have HF:Hid (OutW (u'.setCell ⟨p,0,none⟩ (.slice A' n' c')) p B (ds ++ [⟨layer,below,r0,r1,r2,r3⟩])∧Past p B w (u'.setCell ⟨p,0,none⟩ (.slice A' n' c'))):=
   lh ⟨⟨⟨A',n',c',hp3,hO2⟩,hpB,by have:=T1.size;have:=e3.size;simp only [World.size_setCell];omega⟩,p :: blks (.slice A n c),fun b hb=>by rcases List.mem_cons.1 hb with rfl | hb;exact .inl rfl;exact .inr (hbl b hb),((T1.mono (by simp)).trans (e3.mono (by simp +contextual))).setCell _ (.inl (by simp))⟩
  have HAP:=lh e1;have HSL:=lh hsl;clear e1 e2 e3 e4 hsl T1 ht T0 hbl hp1 hp2 hp3 hO2 hp hpB hBw;go_wp2_with (first
   | (at_builtin;refine wpList_yield rfl (exec_app (v:=.slice A n c) (y:=.slice (some ⟨w1,0,none⟩) 1 1) (.tmp 7) (.tmp 9) 35 rfl rfl rfl HAP.out) ?_;try go_frame)
   | (refine wpList_yield (o:=⟨some 9,_,_,_,_,_⟩) rfl (exec_slice1 (x:=.tmp 8) (y:=.agg #[layer,.bool below,r0,r1,r2,r3]) rfl rfl HSL.out) ?_;try go_frame))
  go_end0;exact⟨rfl,HF.out⟩
def IsWalk(bs:List Nat)(d:DocM)(id:Int)(w':World)(e:Ending): Prop:=match layerAt d.layers id with
 | some l=>∃m,l.Like m∧Stab bs w' (fun u=>m.At u)∧e=.returned (.tuple #[d.v,m.v,.bool true])
 | none=>e=.returned (.tuple #[d.v,zeroL.v,.bool false])
def WalkPost(bs:List Nat)(d:DocM)(id:Int)(ok:Bool)(w':World)(e:Ending): Prop:=if ok=true then IsWalk bs d id w' e else e=.returned (.tuple #[.agg #[.slice none 0 0,(0:Int),(0:Int),.slice none 0 0],zeroL.v,.bool false])
theorem setRow_cells{w:World}{b:Nat}{L:Array Value}{t:TypeId}{c:Nat}{r:Array Value}(h:w.heap[b]?=some (.cells L t (0,0)))(hc:b≠c): (w.setRow c r).heap[b]?=some (.cells L t (0,0)):=(setRow_other _ _ _ _ hc).trans h
theorem set4c{w:World}{b:Nat}{L:Array Value}{x y z t p q r s:Value}{ty:TypeId}(h:w.heap[b]?=some (.cells L ty (0,0)))(hL:L=#[p,q,r,s]): ((((w.setCell ⟨b,0,none⟩ x).setCell ⟨b,1,none⟩ y).setCell ⟨b,2,none⟩ z).setCell ⟨b,3,none⟩ t).heap[b]?=some (.cells #[x,y,z,t] ty (0,0)):=by subst hL;simp only [World.setCell,Array.getElem?_modify,if_true,h];rfl
theorem exec_build1{P:Program}{o:Oper}{a:Act}{w w':World}{t:TypeId}{i:Nat}{x:Operand}{p v:Value}(ho:o.op=.build t #[(i,x)])(hx:a.eval x=p)(hr:(Instr.build t #[(i,p)]).run P w=.ok v w'): (execOp a.eval o).run P w=.ok (.value v) w':=
 exec_build ho (by simp [hx]) hr
theorem infoWK:(prog.info? 107).map (·.size)=some 4:=by kernel_rfl
theorem build_WK(a b c d:Value)(u:World): (Instr.build 107 #[(0,.agg #[a,b,c,d])]).run prog u=.ok (.agg #[a,b,c,d]) u:=by kernel_rfl
theorem graph_walk(d:DocM)(id:Int)(w:World)(bs:List Nat)(hbs:∀b∈bs,b<w.heap.size)(h0:Stab bs w fun u=>d.At u)(hth:∀l∈d.layers,l.Thin)(ok:Bool)(e1 e2:Int)(he:ok=false→e1≠0)(he2:ok=true→e1=0)
  (hck:∀u,Turn [] w u→Calls prog 76 #[d.v] u fun e w'=>e=.returned (.tuple #[e1,e2])∧Turn [] u w') :
  Calls prog 39 #[d.v,id] w fun e w'=>WalkPost bs d id ok w' e∧Turn [] w w':=by
 have hLy:=fun u (t:Turn [] w u) cs (hcs:∀b∈cs,b<u.heap.size) (hcb:∀b∈cs,b<w.heap.size→b∈bs)=>doc_layer d id u cs hcs (h0.new t hcb) hth;clear h0 hth;unfold IsLayer at *;obtain⟨sA,sn,sc,spaces,root,next,lA,ln,lc,layers⟩:=d;simp only [DocM.v]at *;obtain⟨W,hW⟩:∃W,W=((w.alloc (.cells #[.slice sA sn sc,root,next,.slice lA ln lc] 29)).alloc (.cells #[.slice none 0 0,(0:Int),(0:Int),.slice none 0 0] 107)).alloc (.cells ⟨zeroL.row⟩ 89):=⟨_,rfl⟩;have T0:Turn [] w W:=hW ▸ (((tR w).alloc _).alloc _).alloc _;have hWs:w.heap.size+3≤W.heap.size:=by rw [hW];simp
 have x0:W.heap[w.heap.size]?=some (.cells #[.slice sA sn sc,root,next,.slice lA ln lc] 29 (0,0)):=by rw [hW];simp only [heap_at,World.size_alloc];rw [if_neg (by omega),if_neg (by omega),if_pos (by first | trivial | omega)]
 have x1:W.heap[w.heap.size+1]?=some (.cells #[.slice none 0 0,(0:Int),(0:Int),.slice none 0 0] 107 (0,0)):=by rw [hW];simp only [heap_at,World.size_alloc];rw [if_neg (by omega),if_pos (by first | trivial | omega)]
 have x2:W.heap[w.heap.size+1+1]?=some (.cells ⟨zeroL.row⟩ 89 (0,0)):=by rw [hW];simp only [heap_at,World.size_alloc];rw [if_pos (by first | trivial | omega)]
 have HLY:=lh hLy;have HCK:=lh (hck W T0);have HBS:=lh hbs;have HX0:=lh x0;have HX1:=lh x1;have HX2:=lh x2;have HAL:=lh alloc_LY;have q0:=cell_of x0 (i:=0) (v:=.slice sA sn sc) rfl;have q1:=cell_of x0 (i:=1) (v:=root) rfl;have q2:=cell_of x0 (i:=2) (v:=next) rfl;have q3:=cell_of x0 (i:=3) (v:=.slice lA ln lc) rfl;clear x0 x1 x2 hLy hck hbs;cases ok with
 | false=>
  have hne:(e1 != 0)=true:=by simpa using he rfl
  clear he he2;have hbz:∀u,(Instr.build 89 #[]).run prog u=.ok (.agg ⟨zeroL.row⟩) u:=fun u=>by kernel_rfl
  have HBZ:=lh hbz;clear hbz;go_enter func39,ntmps39;go_upto_region 1 with (refine wpList_yield (o:=⟨some 5,_,_,_,_,_⟩) rfl (exec_alloc (t:=89) rfl (HAL.out _)) ?_;try go_frame)
  rw [←hW];clear hW HAL;try simp only [World.size_alloc]
  go_upto_region 3 with (go_at_call 76;refine HCK.out.mono ?_;rintro e w1 ⟨rfl,ht⟩)
  have X1:=(ht.old (w.heap.size+1) (by omega) (by simp)).trans HX1.out;have X2:=(ht.old (w.heap.size+1+1) (by omega) (by simp)).trans HX2.out;have y0:=cell_of X1 (i:=0) (v:=.slice none 0 0) rfl;have y1:=cell_of X1 (i:=1) (v:=(0:Int)) rfl;have y2:=cell_of X1 (i:=2) (v:=(0:Int)) rfl;have y3:=cell_of X1 (i:=3) (v:=.slice none 0 0) rfl;have yf:=fun i=>frozen_of X1 i;obtain⟨V,hV⟩:∃V,V=(((w1.setCell ⟨w.heap.size+1,0,none⟩ (.slice none 0 0)).setCell ⟨w.heap.size+1,1,none⟩ (0:Int)).setCell ⟨w.heap.size+1,2,none⟩ (0:Int)).setCell ⟨w.heap.size+1,3,none⟩ (.slice none 0 0):=⟨_,rfl⟩;have V1:V.heap[w.heap.size+1]?=some (.cells #[.slice none 0 0,(0:Int),(0:Int),.slice none 0 0] 107 (0,0)):=by rw [hV];exact set4c X1 rfl
  have V2:V.heap[w.heap.size+1+1]?=some (.cells ⟨zeroL.row⟩ 89 (0,0)):=by rw [hV];exact (set4_other _ _ _ _ _ _ _ (by omega)).trans X2
  have TV:Turn [] w V:=by rw [hV];exact (((((T0.trans ht).sc).sc).sc).sc)
  have hst:(Instr.storeAt 89 (.pointer (some ⟨w.heap.size+1+1,0,none⟩)) (.agg ⟨zeroL.row⟩)).run prog V=.ok () (V.setRow (w.heap.size+1+1) ⟨zeroL.row⟩):=part_store (o:=0) (ty:=89) (p:=zeroL.row) (L':=zeroL.row) V2 (zero_of_info infoLYR).2 (by simp [LayerM.row]) (row_one _) (by simp [LayerM.row]);rw [hV]at hst;have F1:=setRow_cells (c:=w.heap.size+1+1) (r:=⟨zeroL.row⟩) V1 (by omega);have hl8:=run_loadVar_row (P:=prog) _ (w.heap.size+1) 107 107 #[.slice none 0 0,(0:Int),(0:Int),.slice none 0 0] (0,0) _ F1 underlying107 rfl infoWK;have hl9:=run_loadVar_row (P:=prog) _ (w.heap.size+1+1) 89 89 ⟨zeroL.row⟩ (0,0) _ (setRow_at (L':=zeroL.row) V2) underlying89 rfl (zero_of_info infoLYR).2;have HZ:=lh (And.intro hl8 hl9);have HST:=lh hst;have HTV:=lh TV;have HVE:=lh hV;clear X1 X2 V1 V2 F1 hl8 hl9 hst TV hV ht;go_wp2_with (first
   | (refine wpList_yield (o:=⟨some 19,_,_,_,_,_⟩) rfl (exec_build (vs:=#[]) (v:=.agg ⟨zeroL.row⟩) rfl rfl (HBZ.out _)) ?_;try go_frame)
   | (refine wpList_store_run rfl 89 (.tmp 5) (.tmp 19) rfl rfl rfl HST.out ?_;try go_frame))
  rw [←HVE.out];obtain⟨hl8,hl9⟩:=HZ.out;refine bodyPost_ret (v:=.tuple #[.agg #[.slice none 0 0,(0:Int),(0:Int),.slice none 0 0],zeroL.v,.bool false]) ?_ rfl ⟨by unfold WalkPost;rw [if_neg (by simp)],HTV.out.setRow _ (.inr (by omega))⟩;simp [results,results39,asAddr,hl8,hl9];rfl
 | true=>
  obtain rfl:=he2 rfl;clear he he2;have hly2:∀u,Turn [] w u→∀cs:List Nat,(∀b∈cs,b<u.heap.size)→(∀b∈cs,b<w.heap.size→b∈bs)→Calls prog 77 #[.agg #[.slice sA sn sc,root,next,.slice lA ln lc],id] u fun e w'=>(∃(m:LayerM) (b:Bool),e=.returned (.tuple #[m.v,.bool b])∧(b=true→∃l,layerAt layers id=some l∧l.Like m∧Stab cs w' (fun u=>m.At u))∧(b=false→layerAt layers id=none∧m=zeroL))∧Turn [] u w':=by
   intro u t cs h1 h2;refine (HLY.out u t cs h1 h2).mono ?_;rintro e w' ⟨hI,hT⟩;refine⟨?_,hT⟩;cases hla:layerAt layers id with
   | none=>rw [hla]at hI;exact⟨zeroL,false,hI,fun h=>(by cases h),fun _=>⟨rfl,rfl⟩⟩
   | some l=>
    rw [hla]at hI;obtain⟨m,h3,h4,h5⟩:=hI;exact⟨m,true,h5,fun _=>⟨l,rfl,h3,h4⟩,fun h=>(by cases h)⟩
  have HL2:=lh hly2;clear hly2 HLY;go_enter func39,ntmps39;go_upto_region 1 with (refine wpList_yield (o:=⟨some 5,_,_,_,_,_⟩) rfl (exec_alloc (t:=89) rfl (HAL.out _)) ?_;try go_frame)
  rw [←hW];clear hW;try simp only [World.size_alloc]
  go_upto_region 4 with (go_at_call 76;refine HCK.out.mono ?_;rintro e w1 ⟨rfl,ht⟩)
  have X0:=(ht.old w.heap.size (by omega) (by simp)).trans HX0.out;have X1:=(ht.old (w.heap.size+1) (by omega) (by simp)).trans HX1.out;have X2:=(ht.old (w.heap.size+1+1) (by omega) (by simp)).trans HX2.out;have T1:=T0.trans ht;have hs1:=ht.size;have HC2:=lh (HL2.out w1 T1 ((w.heap.size+1+1) :: (w.heap.size+1) :: bs) (fun b hb=>by simp only [List.mem_cons]at hb;rcases hb with rfl | rfl | hb;omega;omega;have:=HBS.out b hb;omega) (fun b hb hlt=>by simp only [List.mem_cons]at hb;rcases hb with rfl | rfl | hb;omega;omega;exact hb));have q0:=cell_of X0 (i:=0) (v:=.slice sA sn sc) rfl;have q1:=cell_of X0 (i:=1) (v:=root) rfl;have q2:=cell_of X0 (i:=2) (v:=next) rfl;have q3:=cell_of X0 (i:=3) (v:=.slice lA ln lc) rfl;have HX0:=lh X0;have HX1:=lh X1;have HX2:=lh X2;have HT1:=lh T1;have hs3:w.heap.size+3≤w1.heap.size:=by omega
  clear X0 X1 X2 T1 ht hs1 HCK HL2 T0 hWs;go_upto_region 5 with (first
   | (go_at_call 77;refine HC2.out.mono ?_;rintro e w2 ⟨⟨m,b,rfl,hm1,hm2⟩,ht2⟩;have HM:=lh (And.intro hm1 hm2);have HST:=lh (fun u=>store_LY u m);clear hm1 hm2)
   | (refine wpList_yield (o:=⟨some 9,_,_,_,_,_⟩) rfl (exec_alloc (t:=89) rfl (HAL.out _)) ?_;try go_frame)
   | (refine wpList_store_run rfl 89 (.tmp 9) (.tmp 24) rfl rfl rfl (HST.out _) ?_;try go_frame))
  obtain⟨V,hV⟩:∃V,V=w2.alloc (.cells ⟨m.row⟩ 89):=⟨_,rfl⟩;have TV:Turn [] w1 V:=by rw [hV];exact ht2.alloc _
  have TV2:Turn [] w2 V:=by rw [hV];exact (tR w2).alloc _
  have h9:V.heap[w2.heap.size]?=some (.cells ⟨m.row⟩ 89 (0,0)):=by rw [hV];exact heap_alloc_new _ _
  have X0:=(TV.old w.heap.size (by omega) (by simp)).trans HX0.out;have X1:=(TV.old (w.heap.size+1) (by omega) (by simp)).trans HX1.out;have X2:=(TV.old (w.heap.size+1+1) (by omega) (by simp)).trans HX2.out;have hb9:w.heap.size+3≤w2.heap.size:=by have:=ht2.size;omega
  have HSTB:Hid (∀l,b=true→layerAt layers id=some l→l.Like m→Stab ((w.heap.size+1+1) :: (w.heap.size+1) :: bs) w2 (fun u=>m.At u)→Stab ((w.heap.size+1+1) :: (w.heap.size+1) :: bs) V (fun u=>m.At u)):=lh fun _ _ _ _ h=>h.turn TV2;have HTV:=lh (HT1.out.trans TV);have hlv:V.heap.size=V.heap.size:=rfl;have hbV:w2.heap.size<V.heap.size:=(Array.getElem?_eq_some_iff.1 h9).1;rw [←hV];clear hV TV TV2 ht2 hlv q0 q1 q2 q3 HST HC2;have HX0:=lh X0;have HX9:=lh h9;clear X0 h9;generalize hbb:w2.heap.size=b9 at *;clear hbb;refine AnyTill.start (fun u=>Turn [w.heap.size+1,w.heap.size+1+1] V u) 6 (by kernel_rfl) ?_;have hS:=(Turn.refl [w.heap.size+1,w.heap.size+1+1] V).drawn 1;have hS0:Turn [] V V.drew:=(tR V).drawn 1;change Turn [w.heap.size+1,w.heap.size+1+1] V V.drew at hS;generalize V.drew=Y at *;have HD:Hid (∀u,Turn [w.heap.size+1,w.heap.size+1+1] V u→u.heap[w.heap.size]?=some (.cells #[.slice sA sn sc,root,next,.slice lA ln lc] 29 (0,0))∧u.heap[b9]?=some (.cells ⟨m.row⟩ 89 (0,0))):=lh fun u t=>⟨(t.old _ (by omega) (by simp;omega)).trans HX0.out,(t.old _ hbV (by simp;omega)).trans HX9.out⟩;refine tk 0 9 26 (.agg #[.slice sA sn sc,root,next,.slice lA ln lc]) hS ?_ (hy:=fun w' hw=>by have hd:=(HD.out _ hw).1;have q0:=cell_of hd (i:=0) (v:=.slice sA sn sc) rfl;have q1:=cell_of hd (i:=1) (v:=root) rfl;have q2:=cell_of hd (i:=2) (v:=next) rfl;have q3:=cell_of hd (i:=3) (v:=.slice lA ln lc) rfl;go_simp);try go_frame
  refine tk 1 9 27 (.agg #[.slice sA sn sc,root,next,.slice lA ln lc]) hS ?_ rfl (hy:=fun w' hw=>exec_build1 rfl rfl (build_WK _ _ _ _ _));try go_frame
  refine tk 2 9 28 (.agg ⟨m.row⟩) hS ?_ rfl (hy:=fun w' hw=>exec_load rfl rfl (run_loadAt_mid _ b9 0 89 m.row _ (part_range (HD.out _ hw).2 (by simp)) underlying89 rfl (zero_of_info infoLYR).2));try go_frame
  refine tk 3 9 29 (.bool b) hS ?_;try go_frame
  have Y1:=(hS0.old (w.heap.size+1) (by omega) (by simp)).trans X1;have Y2:=(hS0.old (w.heap.size+1+1) (by omega) (by simp)).trans X2;have y0:=cell_of Y1 (i:=0) (v:=.slice none 0 0) rfl;have y1:=cell_of Y1 (i:=1) (v:=(0:Int)) rfl;have y2:=cell_of Y1 (i:=2) (v:=(0:Int)) rfl;have y3:=cell_of Y1 (i:=3) (v:=.slice none 0 0) rfl;have yf:=fun i=>frozen_of Y1 i;obtain⟨U,hU⟩:∃U,U=(((Y.setCell ⟨w.heap.size+1,0,none⟩ (.slice sA sn sc)).setCell ⟨w.heap.size+1,1,none⟩ root).setCell ⟨w.heap.size+1,2,none⟩ next).setCell ⟨w.heap.size+1,3,none⟩ (.slice lA ln lc):=⟨_,rfl⟩;have U1:U.heap[w.heap.size+1]?=some (.cells #[.slice sA sn sc,root,next,.slice lA ln lc] 107 (0,0)):=by rw [hU];exact set4c Y1 rfl
  have U2:U.heap[w.heap.size+1+1]?=some (.cells ⟨zeroL.row⟩ 89 (0,0)):=by rw [hU];exact (set4_other _ _ _ _ _ _ _ (by omega)).trans Y2
  have SU:Turn [w.heap.size+1,w.heap.size+1+1] V U:=by rw [hU];exact ((((hS.setCell _ (.inl (by simp))).setCell _ (.inl (by simp))).setCell _ (.inl (by simp))).setCell _ (.inl (by simp)))
  refine tk1 4 fun K hK=>?_;go_simp;rw [←hU];refine hK _ _ (fun _=>SU) ?_;clear hK K y0 y1 y2 y3 yf Y1 Y2 hU;try go_frame
  have hst:=part_store (o:=0) (ty:=89) (p:=m.row) (L':=m.row) U2 (zero_of_info infoLYR).2 (by simp [LayerM.row]) (row_one _) (by simp [LayerM.row]);have F1:=setRow_cells (c:=w.heap.size+1+1) (r:=⟨m.row⟩) U1 (by omega);have hl8:=run_loadVar_row (P:=prog) _ (w.heap.size+1) 107 107 #[.slice sA sn sc,root,next,.slice lA ln lc] (0,0) _ F1 underlying107 rfl infoWK;have hl9:=run_loadVar_row (P:=prog) _ (w.heap.size+1+1) 89 89 ⟨m.row⟩ (0,0) _ (setRow_at (L':=m.row) U2) underlying89 rfl (zero_of_info infoLYR).2;refine tk1 5 fun K hK=>?_;refine wp_storeR (d:=none) rfl 89 (.tmp 5) (.tmp 28) rfl rfl rfl hst ?_;have SF:=SU.setRow (g:=w.heap.size+1+1) ⟨m.row⟩ (.inl (by simp));refine hK _ _ (fun _=>SF) ?_;clear hK K;try go_frame
  refine tk1 6 fun K hK=>?_;go_simp;refine hK _ _ (fun h=>absurd rfl h) ?_;clear hK K;try go_frame
  refine tkd ?_;go_wp2_with fail
  refine bodyPost_ret (v:=.tuple #[.agg #[.slice sA sn sc,root,next,.slice lA ln lc],m.v,.bool b]) ?_ rfl ⟨?_,turn_new HTV.out SF (fun q hq=>by simp at hq;omega)⟩
  ·simp [results,results39,asAddr,hl8,hl9];rfl
  unfold WalkPost;rw [if_pos rfl];unfold IsWalk;simp only;cases b with
  | false=>
   obtain⟨h1,h2⟩:=HM.out.2 rfl;rw [h1,h2];rfl
  | true=>
   obtain⟨l,h1,h2,h3⟩:=HM.out.1 rfl;rw [h1];refine⟨m,h2,?_,rfl⟩;have h4:=HSTB.out l rfl h1 h2 h3;exact fun u hs hu=>h4 u (Nat.le_trans SF.size hs) fun q hq hb=>(hu q (Nat.lt_of_lt_of_le hq SF.size) (fun hm=>hb (by simp [hm]))).trans (SF.old q hq (fun hm=>hb (by simp at hm ⊢;omega)))
theorem mapI_empty{w:World}{b:Nat}(h:w.heap[b]?=some (.map #[] 0)): MapI w b (fun _=>none):=
 ⟨#[],0,h,MapKept.stamped_empty 0,fun e he=>by simp at he,fun k v h=>by cases h⟩
theorem Turn.fresh{w w' u:World}{bs:List Nat}(h:Turn [] w w')(k:Turn bs w' u)(hb:∀b∈bs,w.heap.size≤b): Turn [] w u:=
 ⟨Nat.le_trans h.size k.size,fun j hj hn=>(k.old j (Nat.lt_of_lt_of_le hj h.size) (fun hm=>by have:=hb j hm;omega)).trans (h.old j hj hn),k.os.trans h.os,k.tape.trans h.tape,k.output.trans h.output⟩
theorem tree_reaches(d:DocM)(t mb:Nat)(other:Int)(x:Int)(hsh:Short d.layers)(hf:∀x,¬Reach d.layers x x)(hre:¬Reach d.layers x other)(w:World)(hT:TreeW w t mb d)(h:d.At w):
  Calls prog 168 #[.pointer (some ⟨t,0,none⟩),x,other,fPart t] w fun e w'=>e=.returned (.bool false)∧Turn [] w w':=by
 have hlow:=low_any hsh hf x;have HW:=lh hT;have HA:=lh h;have HL:=lh hlow;have HR:=lh hre;unfold fPart;have hmk:=fun u:World=>run_makeMap (P:=prog) 241 u;clear hT h hlow hre hf hsh;go_enter func168,ntmps168;go_upto_region 4 with fail
 obtain⟨W,hW⟩:∃W,W=(((((w.alloc (.cells #[other] 3)).alloc (.cells #[fPart t] 165)).alloc (.map #[] 0)).alloc (.cells #[.map (some (w.heap.size+1+1))] 241)).alloc (.cells #[fVisit (w.heap.size+1) w.heap.size (w.heap.size+1+1+1) (w.heap.size+1+1+1+1)] 77)):=⟨_,rfl⟩;have T0:Turn [] w W:=by rw [hW];exact (((((tR w).alloc _).alloc _).alloc _).alloc _).alloc _
 have hWs:w.heap.size<W.heap.size:=by rw [hW];simp;omega
 have x6:W.heap[w.heap.size]?=some (.cells #[other] 3 (0,0)):=by rw [hW];simp only [heap_at,World.size_alloc];rw [if_neg (by omega),if_neg (by omega),if_neg (by omega),if_neg (by omega),if_pos (by first | trivial | omega)]
 have x7:W.heap[w.heap.size+1]?=some (.cells #[fPart t] 165 (0,0)):=by rw [hW];simp only [heap_at,World.size_alloc];rw [if_neg (by omega),if_neg (by omega),if_neg (by omega),if_pos (by first | trivial | omega)]
 have x8:W.heap[w.heap.size+1+1]?=some (.map #[] 0):=by rw [hW];simp only [heap_at,World.size_alloc];rw [if_neg (by omega),if_neg (by omega),if_pos (by first | trivial | omega)]
 have x9:W.heap[w.heap.size+1+1+1]?=some (.cells #[.map (some (w.heap.size+1+1))] 241 (0,0)):=by rw [hW];simp only [heap_at,World.size_alloc];rw [if_neg (by omega),if_pos (by first | trivial | omega)]
 have x10:W.heap[w.heap.size+1+1+1+1]?=some (.cells #[fVisit (w.heap.size+1) w.heap.size (w.heap.size+1+1+1) (w.heap.size+1+1+1+1)] 77 (0,0)):=by rw [hW];simp only [heap_at,World.size_alloc];rw [if_pos (by first | trivial | omega)]
 have ltt:=(Array.getElem?_eq_some_iff.1 HW.out.ht).1;have ltm:mb<w.heap.size:=by obtain⟨es,cl,h1,_⟩:=HW.out.hm.ex;exact (Array.getElem?_eq_some_iff.1 h1).1
 have V0:VisW W d t mb (w.heap.size+1) w.heap.size (w.heap.size+1+1+1) (w.heap.size+1+1+1+1) (w.heap.size+1+1) other:=
  ⟨HA.out.turn T0,HW.out.turn T0 (by simp) (by simp),x7,x6,x9,x10,⟨by omega,by omega⟩,⟨_,mapI_empty x8,fun k v h=>by cases h⟩,stab_old T0 (fun b hb=>by simp at hb;omega) fun u hu=>HA.out.keepD hu⟩
 have V0':=tree_visit d t mb _ _ _ _ _ other 2501 x HL.out HR.out W V0;unfold fPart fVisit at hW;rw [←hW];have y10:=cell_of x10 (i:=0) (v:=fVisit (w.heap.size+1) w.heap.size (w.heap.size+1+1+1) (w.heap.size+1+1+1+1)) rfl;unfold fVisit at y10;have HV:=lh V0';clear x6 x7 x8 x9 x10 V0 V0' hW ltt ltm HW HA;have hsz:w.heap.size≤w.heap.size+1+1:=by omega
 generalize hb0:w.heap.size=b0 at *;generalize hb8:b0+1+1+1+1=b10 at *;generalize hb9:b0+1+1+1=b9 at *;generalize hb7:b0+1=b7 at *;go_wp2_with (go_at_call 198;refine HV.out.mono ?_;rintro e w4 ⟨rfl,_,ht4⟩)
 go_ret;exact⟨rfl,T0.fresh ht4 (by simp;omega)⟩
theorem depth_or(ls:List LayerM)(n:Nat)(id:Int): depthM ls (n+1) id=if (layerOr ls id).kind=2∨(layerOr ls id).kind=4 then (partsM (layerOr ls id)).foldl (fun m p=>max m (depthM ls n p)) 0+1 else 0:=by
 unfold layerOr;rw [depthM];cases layerAt ls id with
 | none=>rfl
 | some l=>rfl
theorem tree_depth(d:DocM)(t mb:Nat): ∀(n:Nat) (id:Int),Low d.layers n id→n≤3000→∀(w:World),TreeW w t mb d→d.At w→Calls prog 170 #[.pointer (some ⟨t,0,none⟩),id] w fun e w'=>e=.returned (.int .i64 (depthM d.layers n id))∧Turn [] w w'
 | 0,_,h,_,_,_,_=>by cases h
 | n+1,id,.mk hlow,hn3,w,hT,h=>by
  have ih:=fun p (hp:p∈stepsM d.layers id) u hu (hu':d.At u)=>tree_depth d t mb n p (hlow p hp) (by omega) u hu hu';have hL:=tree_layer d t mb id w hT h;have hP:=fun u hu hu'=>tree_parts d t mb id u hu hu';have hbd:=depth_bd d.layers n;have hs:=depth_or d.layers n id;rw [steps_or]at hP ih;generalize depthM d.layers (n+1) id=D at *;generalize layerOr d.layers id=l at *;generalize (layerAt d.layers id).isSome=b at *;have HIH:=lh ih;have HL:=lh hL;have HP:=lh hP;have HBD:=lh hbd;have HS:=lh hs;have HT:=lh hT;have HA:=lh h;have HAL:=lh alloc_LY;have HST:=lh (fun u=>store_LY u l);clear ih hL hP hbd hs hT h hlow;go_enter func170,ntmps170;go_upto_region 2 with (first
   | (go_at_call 165;refine HL.out.mono ?_;rintro e w1 ⟨rfl,ht⟩)
   | (refine wpList_yield (o:=⟨some 5,_,_,_,_,_⟩) rfl (exec_alloc (t:=89) rfl (HAL.out _)) ?_;try go_frame)
   | (refine wpList_store_run rfl 89 (.tmp 5) (.tmp 14) rfl rfl rfl (HST.out _) ?_;try go_frame))
  obtain⟨V,hV⟩:∃V,V=w1.alloc (.cells ⟨l.row⟩ 89):=⟨_,rfl⟩;have TV:Turn [] w V:=by rw [hV];exact ht.alloc _
  have h9:V.heap[w1.heap.size]?=some (.cells ⟨l.row⟩ 89 (0,0)):=by rw [hV];exact heap_alloc_new _ _
  have y1:=cell_at (i:=1) h9 rfl;rw [←hV];clear hV h9 ht;generalize w1.heap.size=b9 at *;have HP2:=lh (HP.out V (HT.out.turn TV (by simp) (by simp)) (HA.out.turn TV));clear HP;by_cases hg:l.kind=2∨l.kind=4
  ·have HD2:Hid (D=(partsM l).foldl (fun m p=>max m (depthM d.layers n p)) 0+1):=lh (by rw [HS.out,if_pos hg]);clear HS;rcases hg with hg | hg;all_goals
    rw [hg]at y1;clear hg;(go_upto_region 6 with (go_at_call 169;refine HP2.out.mono ?_;rintro e w2 ⟨⟨A,m,c,rfl,hI,hm⟩,ht2⟩));have TX:=TV.trans ht2;have hnp:=hI.1;have HI:=lh hI;generalize partsM l=ps at *;clear hI y1 ht2;go_loopw [7,28] (fun s7 s28 wr=>∃j:Nat,j≤m∧s28=j∧s7=.int .i64 ((ps.take j).foldl (fun m p=>max m (depthM d.layers n p)) 0)∧Turn [] w2 wr) (fun _ s28 _=>m - (intOf s28).toNat);case atStart=>exact⟨0,by omega,rfl,rfl,tR _⟩
    case round=>
     obtain⟨j,hj,rfl,rfl,T⟩:=hrel
     have hfb:=fold_max_bd (depthM d.layers n) n (ps.take j) 0 (by omega) (by omega) fun p _=>HBD.out p
     by_cases hjl:j<m
     ·obtain⟨g2,o2,rfl,hA2⟩:=HI.out.cell (by omega);have hkc:=hA2 _ T j hjl;have hpl:j<ps.length:=(by omega);have hx:ps.getD j 0=ps[j]:=(by simp [List.getD,hpl]);have hxm:ps.getD j 0∈ps:=(by rw [hx];exact List.getElem_mem hpl);have htk:(ps.take (j+1)).foldl (fun m p=>max m (depthM d.layers n p)) 0=max ((ps.take j).foldl (fun m p=>max m (depthM d.layers n p)) 0) (depthM d.layers n (ps.getD j 0)):=(by rw [List.take_succ_eq_append_getElem hpl,List.foldl_append,hx];rfl);have hxb:=HBD.out (ps.getD j 0);have HTK:=lh htk;have HX:=lh (HIH.out (ps.getD j 0) hxm wr (HT.out.turn (TX.trans T) (by simp) (by simp)) (HA.out.turn (TX.trans T)));clear htk hA2 hx hxm hpl;generalize ps.getD j 0=x at *;generalize depthM d.layers n x=dx at *;generalize (ps.take j).foldl (fun m p=>max m (depthM d.layers n p)) 0=M at *;have c0:(0:Int)≤(j:Int):=(by omega);have c1:(j:Int)<(m:Int):=(by omega);have c2:(j:Int)≤50:=(by omega);have HT3:=lh T;clear T;(go_wp2_with (go_at_call 170;refine HX.out.mono ?_;rintro e w3 ⟨rfl,ht3⟩));all_goals exact⟨⟨_,_,_,⟨j+1,by omega,rfl,by congr 1;rw [HTK.out];omega,HT3.out.trans ht3⟩,rfl,rfl,by go_num⟩,by simp [intOf];omega⟩
     ·obtain rfl:j=m:=(by omega);have htk:ps.take j=ps:=List.take_of_length_le (by omega);rw [htk]at hfb;(go_wp2_with fail);go_ret;exact⟨by rw [HD2.out,htk];rfl,TX.trans T⟩
  have HD2:Hid (D=0):=lh (by rw [HS.out,if_neg hg]);clear HS;have hg1:¬l.kind=2:=fun e=>hg (.inl e);have hg2:¬l.kind=4:=fun e=>hg (.inr e);have x1:(l.kind != 2)=true:=by simp [hg1]
  have x2:(l.kind != 4)=true:=by simp [hg2]
  go_wp2_with fail
  go_ret;exact⟨by rw [HD2.out];rfl,TV⟩
end Go.Proofs.YtbpklgllihhgpaaGreat
