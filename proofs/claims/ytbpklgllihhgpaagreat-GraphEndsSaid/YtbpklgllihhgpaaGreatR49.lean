import Derived.Test.YtbpklgllihhgpaaGreatR41
set_option maxRecDepth 100000
set_option maxHeartbeats 16000000
namespace Go.Proofs.YtbpklgllihhgpaaGreat
open Tryz Go.RowKit Go.Den
def newL:LayerM:={ defaultM 2 with id:=1 }
theorem build_Doc1(w:World)(g:Nat): (Instr.build 29 #[(1,(1:Int)),(2,(2:Int)),(3,.slice (some ⟨g,0,none⟩) 1 1)]).run prog w=.ok (.agg #[.slice none 0 0,(1:Int),(2:Int),.slice (some ⟨g,0,none⟩) 1 1]) w:=by kernel_rfl
theorem infoDOC:(prog.info? 29).map (·.size)=some 4:=by kernel_rfl
theorem ref_new(w:World): Calls prog 32 #[] w fun e w'=>(∃g,e=.returned (.agg #[.slice none 0 0,(1:Int),(2:Int),.slice (some ⟨g,0,none⟩) 1 1])∧w.heap.size≤g∧w'.heap[g]?=some (.cells ⟨newL.row⟩ 89 (0,0)))∧Turn [] w w':=by
 have HDF:=lh (ref_default 2 (by decide) (by decide));have HAL:=lh alloc_LY;have HST:=lh (fun u=>store_LY u (defaultM 2));go_enter func32,ntmps32;go_upto_region 2 with (first
  | (go_at_call 33;(with_reducible refine (HDF.out _).mono ?_);rintro e w1 ⟨rfl,ht1⟩)
  | (refine wpList_yield (o:=⟨some 1,_,_,_,_,_⟩) rfl (exec_alloc (t:=89) rfl (HAL.out _)) ?_;try go_frame)
  | (refine wpList_store_run rfl 89 (.tmp 1) (.tmp 2) rfl rfl rfl (HST.out _) ?_;try go_frame))
 obtain⟨V,hV⟩:∃V,V=w1.alloc (.cells ⟨(defaultM 2).row⟩ 89):=⟨_,rfl⟩;have TV:Turn [] w1 V:=by rw [hV];exact (tR w1).alloc _
 have h9:V.heap[w1.heap.size]?=some (.cells ⟨(defaultM 2).row⟩ 89 (0,0)):=by rw [hV];exact heap_alloc_new _ _
 have hd:(w.alloc (.cells #[.slice none 0 0,(0:Int),(0:Int),.slice none 0 0] 29)).heap[w.heap.size]?=some (.cells #[.slice none 0 0,(0:Int),(0:Int),.slice none 0 0] 29 (0,0)):=heap_alloc_new _ _;have hlt:w.heap.size<w1.heap.size:=by have:=ht1.size;simp at this;omega
 have hdV:=(TV.old _ hlt (by simp)).trans ((ht1.old _ (by simp) (by simp)).trans hd);have TW:Turn [] w V:=(((tR w).alloc _).trans ht1).trans TV;have y0:=cell_at (i:=0) h9 rfl;have yf:=frozen_at h9 0;rw [←hV];clear hV TV hd ht1 HDF HAL HST;generalize w1.heap.size=b1 at *;go_upto_region 3 with fail
 have h10:(V.setCell ⟨b1,0,none⟩ (1:Int)).heap[b1]?=some (.cells ⟨newL.row⟩ 89 (0,0)):=setCell_at h9 rfl;have hdU:=(setCell_other V b1 0 (1:Int) w.heap.size (by omega)).trans hdV;have TU:Turn [] w (V.setCell ⟨b1,0,none⟩ (1:Int)):=TW.setCell _ (.inr (by show w.heap.size≤b1;omega));clear y0 yf h9 hdV TW;generalize V.setCell ⟨b1,0,none⟩ (1:Int)=U at *;have HLA:=lh (run_loadAt_mid U b1 0 89 newL.row _ (part_range h10 (by simp)) underlying89 rfl (zero_of_info infoLYR).2);have hz:∃Z,Z=U.alloc (.cells ⟨newL.row⟩ 89):=⟨_,rfl⟩;obtain⟨Z,hZ⟩:=hz;have TZ:Turn [] U Z:=by rw [hZ];exact (tR U).alloc _
 have hzL:Z.heap[U.heap.size]?=some (.cells ⟨newL.row⟩ 89 (0,0)):=by rw [hZ];exact heap_alloc_new _ _
 have hUs:w.heap.size<U.heap.size:=(Array.getElem?_eq_some_iff.1 hdU).1;have hdZ:=(TZ.old _ hUs (by simp)).trans hdU;have z0:=cell_of hdZ (i:=0) (v:=.slice none 0 0) rfl;have z1:=cell_of hdZ (i:=1) (v:=(0:Int)) rfl;have z2:=cell_of hdZ (i:=2) (v:=(0:Int)) rfl;have z3:=cell_of hdZ (i:=3) (v:=.slice none 0 0) rfl;have zf:=fun i=>frozen_of hdZ i;obtain⟨F,hF⟩:∃F,F=((((Z.setCell ⟨w,0,none⟩ (.slice none 0 0)).setCell ⟨w,1,none⟩ (1:Int)).setCell ⟨w,2,none⟩ (2:Int)).setCell ⟨w,3,none⟩ (.slice (some ⟨U,0,none⟩) 1 1)):=⟨_,rfl⟩;have F0:F.heap[w.heap.size]?=some (.cells #[.slice none 0 0,(1:Int),(2:Int),.slice (some ⟨U,0,none⟩) 1 1] 29 (0,0)):=by rw [hF];exact set4c hdZ rfl
 have F1:F.heap[U.heap.size]?=some (.cells ⟨newL.row⟩ 89 (0,0)):=by rw [hF];exact (set4_other _ _ _ _ _ _ _ (by omega)).trans hzL
 have TF:Turn [] w F:=by rw [hF];exact (((((TU.trans TZ).sc).sc).sc).sc)
 have hl0:=run_loadVar_row (P:=prog) _ w.heap.size 29 29 #[.slice none 0 0,(1:Int),(2:Int),.slice (some ⟨U,0,none⟩) 1 1] (0,0) _ F0 underlying29 rfl infoDOC;have hsl:(Instr.buildSlice 27 1 #[(0,.agg ⟨newL.row⟩)]).run prog U=.ok (.slice (some ⟨U,0,none⟩) 1 1) Z:=by rw [hZ];exact slice_one (k:=elemL) underlying27 (layer_row newL) U
 have HSL:=lh hsl;have HF:=lh hF;have HEND:=lh (And.intro hl0 (And.intro F1 TF));clear h10 hdU TU hdZ hzL TZ F0 F1 TF hl0 hZ hF hsl;go_wp2_with (first
  | (refine wpList_yield (o:=⟨some 4,_,_,_,_,_⟩) rfl (exec_load (p:=.pointer (some ⟨b1,0,none⟩)) (v:=.agg ⟨newL.row⟩) rfl rfl HLA.out) ?_;try go_frame)
  | (refine wpList_yield (o:=⟨some 5,_,_,_,_,_⟩) rfl (exec_slice1 (y:=.agg ⟨newL.row⟩) rfl rfl HSL.out) ?_;try go_frame)
  | (refine wpList_yield (o:=⟨some 6,_,_,_,_,_⟩) rfl (exec_build3 (x:=.const (1:Int)) (y:=.const (2:Int)) (z:=.tmp 5) (p:=(1:Int)) (q:=(2:Int)) (r:=.slice (some ⟨U,0,none⟩) 1 1) rfl rfl rfl rfl (build_Doc1 _ _)) ?_;try go_frame))
 rw [←HF.out];obtain⟨hl0,F1,TF⟩:=HEND.out;refine bodyPost_ret (v:=.agg #[.slice none 0 0,(1:Int),(2:Int),.slice (some ⟨U,0,none⟩) 1 1]) ?_ rfl ⟨⟨_,rfl,by omega,F1⟩,TF⟩;simp [results,results32,asAddr,hl0]
theorem law_rest3(x n:Int)(h0:0<n)(h1:n≤400)(w:World): Calls prog 38 #[.int .i64 x,.int .i64 n] w fun e w'=>e=.returned (.int .i64 (restM x n))∧w'=w:=by
 have hz:¬n=0:=by omega
 have hb:=tmod_bd x h0;have hb2:=tmod_bd (x.tmod n+n) h0;have w1:wrap64 (x.tmod n)=x.tmod n:=wrap_bd (by omega) (by omega);have w2:wrap64 (x.tmod n+n)=x.tmod n+n:=wrap_bd (by omega) (by omega);have w3:wrap64 ((x.tmod n+n).tmod n)=(x.tmod n+n).tmod n:=wrap_bd (by omega) (by omega);clear hb hb2;go_enter func38,ntmps38;go_wp2_with fail
 go_ret;exact⟨rfl,rfl⟩
def smallM(a b c d:Int): Rc:=⟨restM a 40 - 20,restM b 40 - 20,restM a 40 - 20+restM c 40,restM b 40 - 20+restM d 40⟩
theorem law_small(a b c d:Int)(w:World): Calls prog 11 #[.agg #[.int .i64 a,.int .i64 b,.int .i64 c,.int .i64 d]] w fun e w'=>e=.returned (smallM a b c d).v∧Turn [] w w':=by
 have hr:=fun z u=>law_rest3 z 40 (by decide) (by decide) u;obtain⟨a0,a1⟩:=restM_bd a (n:=40) (by decide);obtain⟨b0,b1⟩:=restM_bd b (n:=40) (by decide);obtain⟨c0,c1⟩:=restM_bd c (n:=40) (by decide);obtain⟨d0,d1⟩:=restM_bd d (n:=40) (by decide);unfold smallM Rc.v;dsimp only;obtain⟨W,hW⟩:∃W,W=(w.alloc (.cells #[.int .i64 a,.int .i64 b,.int .i64 c,.int .i64 d] 33)).alloc (.cells #[.int .i64 0,.int .i64 0,.int .i64 0,.int .i64 0] 24):=⟨_,rfl⟩;have T0:Turn [] w W:=by rw [hW];exact ((tR w).alloc _).alloc _
 have x0:W.heap[w.heap.size]?=some (.cells #[.int .i64 a,.int .i64 b,.int .i64 c,.int .i64 d] 33 (0,0)):=by rw [hW];simp only [heap_at,World.size_alloc];rw [if_neg (by omega),if_pos (by first | trivial | omega)]
 have x1:W.heap[w.heap.size+1]?=some (.cells #[.int .i64 0,.int .i64 0,.int .i64 0,.int .i64 0] 24 (0,0)):=by rw [hW];simp only [heap_at,World.size_alloc];rw [if_pos (by first | trivial | omega)]
 have q0:=cell_of x0 (i:=0) (v:=.int .i64 a) rfl;have q1:=cell_of x0 (i:=1) (v:=.int .i64 b) rfl;have q2:=cell_of x0 (i:=2) (v:=.int .i64 c) rfl;have q3:=cell_of x0 (i:=3) (v:=.int .i64 d) rfl;have y0:=cell_of x1 (i:=0) (v:=.int .i64 0) rfl;have y1:=cell_of x1 (i:=1) (v:=.int .i64 0) rfl;have y2:=cell_of x1 (i:=2) (v:=.int .i64 0) rfl;have y3:=cell_of x1 (i:=3) (v:=.int .i64 0) rfl;have yf:=fun i=>frozen_of x1 i;obtain⟨f,hf⟩:∃f:Int→Int,f=fun z=>restM z 40:=⟨_,rfl⟩;have hr:=fun z u=>(show Calls prog 38 #[.int .i64 z,.int .i64 40] u fun e w'=>e=.returned (.int .i64 (f z))∧u=w' by rw [hf];exact (hr z u).mono fun _ _ h=>⟨h.1,h.2.symm⟩);rw [show restM a 40=f a by rw [hf]]at *;rw [show restM b 40=f b by rw [hf]]at *;rw [show restM c 40=f c by rw [hf]]at *;rw [show restM d 40=f d by rw [hf]]at *;clear hf;generalize hra:f a=ra at *;generalize hrb:f b=rb at *;generalize hrc:f c=rc at *;generalize hrd:f d=rd at *;have e1:wrap64 (ra - 20)=ra - 20:=wrap_bd (by omega) (by omega);have e2:wrap64 (rb - 20)=rb - 20:=wrap_bd (by omega) (by omega);have e3:wrap64 (ra - 20+rc)=ra - 20+rc:=wrap_bd (by omega) (by omega);have e4:wrap64 (rb - 20+rd)=rb - 20+rd:=wrap_bd (by omega) (by omega);have i1:=(iwrap _).trans e3;have i2:=(iwrap _).trans e4;have HR:=lh hr;clear hr x0 x1 a0 a1 b0 b1 c0 c1 d0 d1;go_enter func11,ntmps11;go_upto_region 1 with fail
 rw [←hW];clear hW;go_upto_region 3 with (go_at_call 38;refine (HR.out _ _).mono ?_;rintro e w1 ⟨rfl,rfl⟩;(first | rw [hra] | rw [hrb]))
 go_upto_region 3 with fail
 refine AnyTill.start (fun w'=>w'=W.drew) 13 (by kernel_rfl) ?_;have hS:W.drew=W.drew:=rfl;refine tk 0 99 13 (.int .i64 (ra - 20)) hS ?_;try go_frame
 refine tk 1 99 14 (.int .i64 (rb - 20)) hS ?_;try go_frame
 refine tk 2 99 15 (.int .i64 (ra - 20)) hS ?_;try go_frame
 refine tk 3 99 16 (.pointer (some ⟨w,2,none⟩)) hS ?_;try go_frame
 refine tk 4 99 17 (.int .i64 c) hS ?_ (hy:=fun w' hw=>by subst hw;go_simp);try go_frame
 refine tk 7 99 20 (.int .i64 (rb - 20)) hS ?_;try go_frame
 refine tk 8 99 21 (.pointer (some ⟨w,3,none⟩)) hS ?_;try go_frame
 refine tk 9 99 22 (.int .i64 d) hS ?_ (hy:=fun w' hw=>by subst hw;go_simp);try go_frame
 refine tk1 5 fun K hK=>?_;go_simp;refine (HR.out _ _).mono ?_;rintro e w5 ⟨rfl,rfl⟩;rw [hrc];refine hK _ _ (fun _=>rfl) ?_;clear hK K;try go_frame
 refine tk 6 99 19 (.int .i64 (ra - 20+rc)) hS ?_;try go_frame
 refine tk1 10 fun K hK=>?_;go_simp;refine (HR.out _ _).mono ?_;rintro e w5 ⟨rfl,rfl⟩;rw [hrd];refine hK _ _ (fun _=>rfl) ?_;clear hK K;try go_frame
 refine tk 11 99 24 (.int .i64 (rb - 20+rd)) hS ?_;try go_frame
 refine tk 12 99 25 (.agg #[.int .i64 (ra - 20),.int .i64 (rb - 20),.int .i64 (ra - 20+rc),.int .i64 (rb - 20+rd)]) hS ?_;try go_frame
 refine tk1 13 fun K hK=>?_;go_simp;refine hK _ _ (fun h=>absurd rfl h) ?_;clear hK K;try go_frame
 refine tkd ?_;have z0:W.drew.cell? ⟨w.heap.size+1,0,none⟩=some (.int .i64 0):=y0;go_wp2_with fail
 exact bodyPost_ret (v:=.agg #[.int .i64 (ra - 20),.int .i64 (rb - 20),.int .i64 (ra - 20+rc),.int .i64 (rb - 20+rd)]) (by simp [results,results11,go_sem,y0,y1,y2,y3]) rfl ⟨rfl,(((((T0.drawn 1).sc).sc).sc).sc)⟩
end Go.Proofs.YtbpklgllihhgpaaGreat
