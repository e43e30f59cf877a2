import Derived.Test.YtbpklgllihhgpaaGreatR19
set_option maxRecDepth 100000
set_option maxHeartbeats 16000000
namespace Go.Proofs.YtbpklgllihhgpaaGreat
open Tryz Go.RowKit Go.Den
theorem ref_many(A:Option Addr)(n cap:Nat)(w:World): Calls prog 102 #[.agg #[.slice A n cap]] w fun e w'=>(e=.returned (.agg #[.slice A n cap,(0:Int)])∨e=.returned (.agg #[.slice none 0 0,(2:Int)]))∧Turn [] w w':=by
 by_cases h:1024<n
 ·have d1:decide (1024<(n:Int))=true:=decide_eq_true (by omega);go_enter func102,ntmps102;go_wp2_with fail
  exact bodyPost_ret (v:=.agg #[.slice none 0 0,(2:Int)]) (by simp [results,results102,go_sem]) rfl ⟨.inr rfl,((Turn.refl _ _).alloc _).alloc _⟩
 have d1:decide (1024<(n:Int))=false:=decide_eq_false (by omega);go_enter func102,ntmps102;go_wp2_with fail
 exact bodyPost_ret (v:=.agg #[.slice A n cap,(0:Int)]) (by simp [results,results102,go_sem]) rfl ⟨.inl rfl,((Turn.refl _ _).alloc _).alloc _⟩
theorem tiles_none(w:World): TilesAt w none 0 []:=⟨rfl,fun j t h=>by simp at h⟩
theorem ref_of(ts:List TileM)(A:Option Addr)(n cap:Nat)(w:World)(h:TilesAt w A n ts):
  Calls prog 60 #[.agg #[.slice A n cap]] w fun e w'=>(∃A' n' cap' ts',e=.returned (.agg #[.slice A' n' cap'])∧TilesAt w' A' n' ts'∧n'≤1024)∧Turn [] w w':=by
 have hV:=fun u (T:Turn [] w u)=>ref_raster ts A n cap u (h.turn T);have hle:rasterB ts=true→n≤1024:=fun hb=>by rw [h.1];unfold rasterB at hb;simp only [Bool.and_eq_true,decide_eq_true_eq]at hb;exact hb.1
 have HA:=lh h;obtain⟨W,hW⟩:∃W,W=((w.alloc (.cells #[.slice A n cap] 87)).alloc (.cells #[.slice none 0 0] 87)):=⟨_,rfl⟩;have T0:Turn [] w W:=hW ▸ ((tR w).alloc _).alloc _;have q0_0:=cAt 0 (al2 hW).1 rfl;have q1_0:=cAt 0 (al2 hW).2 rfl;have zf1:∀i,W.frozen? ⟨w.heap.size+1,i,none⟩=false:=fun i=>by rw [hW];simp [go_sem]
 have hWs:W.heap.size=w.heap.size+2:=by rw [hW];simp
 generalize rasterB ts=b at *;have HV:=lh hV;have HLE:=lh hle;clear hV h hle;cases b with
 | false=>
  go_enter func60,ntmps60;go_upto_region 1 with (fail)
  rw [←hW];clear hW;go_upto_region 2 with (go_at_call 100;refine (HV.out _ T0).mono ?_;rintro e w1 ⟨rfl,ht1⟩)
  obtain⟨hc,hf⟩:=tcell ht1;go_wp2_with fail
  have y0:=tq hc q1_0;refine bodyPost_ret (v:=.agg #[.slice none 0 0]) (by simp [results,results60,go_sem,y0]) rfl ⟨⟨none,0,0,[],rfl,tiles_none _,by omega⟩,?_⟩;exact (T0.trans ht1).sc
 | true=>
  go_enter func60,ntmps60;go_upto_region 1 with (fail)
  rw [←hW];clear hW;go_upto_region 2 with (go_at_call 100;refine (HV.out _ T0).mono ?_;rintro e w1 ⟨rfl,ht1⟩)
  obtain⟨hc,hf⟩:=tcell ht1;go_wp2_with fail
  have y0:=tq hc q1_0;have TX:=(T0.trans ht1).setCell (a:=⟨w.heap.size+1,0,none⟩) (.slice A n cap) (.inr (by dsimp only;omega));exact bodyPost_ret (v:=.agg #[.slice A n cap]) (by simp [results,results60,go_sem,y0]) rfl ⟨⟨A,n,cap,ts,rfl,HA.out.turn TX,HLE.out trivial⟩,TX⟩
theorem ref_in(x y:Int)(w:World): Calls prog 104 #[x,y] w fun e w'=>e=.returned (.bool (decide (0≤x) && decide (x<8) && decide (0≤y) && decide (y<8)))∧w'=w:=by
 by_cases h1:0≤x
 ·by_cases h2:x<8
  ·by_cases h3:0≤y
   ·by_cases h4:y<8;all_goals
     go_enter func104,ntmps104;(go_wp2_with fail);go_ret;exact⟨by simp [h1,h2,h3,h4],rfl⟩
   go_enter func104,ntmps104;(go_wp2_with fail);go_ret;exact⟨by simp;omega,rfl⟩
  go_enter func104,ntmps104;go_wp2_with fail
  go_ret;exact⟨by simp;omega,rfl⟩
 go_enter func104,ntmps104;go_wp2_with fail
 go_ret;exact⟨by simp;omega,rfl⟩
theorem zero_px:okPx (List.replicate 256 0):=⟨List.length_replicate,fun v hv=>by have:=List.eq_of_mem_replicate hv;omega⟩
theorem ref_tile(ts:List TileM)(A:Option Addr)(n cap:Nat)(hn:n≤1024)(x y:Int)(w:World)(h:TilesAt w A n ts):
  Calls prog 59 #[.agg #[.slice A n cap],.agg #[x,y]] w fun e w'=>(∃px,okPx px∧e=.returned (tv px))∧Turn [] w w':=by
 have ha1:∀u:World,(Instr.alloc 66 true (.tuple #[])).run prog u=.ok (.pointer (some ⟨u,0,none⟩)) (u.alloc (.cells zeroCells66 66)):=fun u=>by have:=alloc66 u;rwa [z66]at this
 have hA:1≤n→∃g o,A=some ⟨g,o,none⟩∧∀w',Turn [] w w'→∀j t,ts[j]?=some t→okPx t.px∧w'.rangeAt g (o+j*258) t.row:=fun h1=>h.get h1;have hl:=h.1;obtain⟨W,hW⟩:∃W,W=((w.alloc (.cells #[.slice A n cap] 87)).alloc (.cells #[x,y] 133)).alloc (.cells zeroCells66 66):=⟨_,rfl⟩;have T0:Turn [] w W:=hW ▸ ((((tR w).alloc _).alloc _).alloc _);have q0:=cAt 0 (al3 hW).1 rfl;obtain⟨q1,q2⟩:=cs2 (al3 hW).2.1;have hWs:W.heap.size=w.heap.size+3:=by rw [hW];simp
 have hres:W.heap[w.heap.size+2]?=some (.cells zeroCells66 66 (0,0)):=by rw [hW];have:=heap_alloc_new ((w.alloc (.cells #[.slice A n cap] 87)).alloc (.cells #[x,y] 133)) (.cells zeroCells66 66);simpa using this
 have HA:=lh hA;have HN:=lh hl;clear hA hl h;go_enter func59,ntmps59;go_upto_region 1 with (fail)
 rw [show w.heap.size+1+1=w.heap.size+2 from rfl,←hW];clear hW ha1;have HRES:=lh hres;clear hres;go_wp2_with fail
 go_loopw [5] (fun s5 wr=>∃k:Nat,k≤n∧s5=k∧Turn [] W wr) (fun s5 _=>n - (intOf s5).toNat);case atStart=>exact⟨0,by omega,rfl,tR W⟩
 obtain⟨k,hk,rfl,TT⟩:=hrel;obtain⟨hc,hf⟩:=tcell TT;by_cases hlt:k<n
 ·obtain⟨g,o,rfl,hR⟩:=HA.out (by omega);have hls:k<ts.length:=by have:=HN.out;omega
  obtain⟨t,ht⟩:∃t,ts[k]?=some t:=⟨ts[k],by simp [hls]⟩;have hRk:=fun w' T=>hR w' T k t ht;obtain⟨ok,hrow⟩:=hRk wr (T0.trans TT);have c0:wr.cell? ⟨g,o+k*258,none⟩=some (.int .i64 t.x):=by simpa using hrow 0 _ rfl
  have c1:wr.cell? ⟨g,o+k*258+1,none⟩=some (.int .i64 t.y):=hrow 1 _ rfl;have HR:=lh hRk;have b0:(0:Int)≤(k:Int):=by omega
  have b1:(k:Int)<(n:Int):=by omega
  clear hR hRk hrow ht hls;generalize hxe:t.x=tx at *;generalize hye:t.y=ty at *;have HX:=lh hxe;have HY:=lh hye;clear hxe hye;go_upto_region 4 with (fail)
  by_cases he:tx=x∧ty=y
  ·obtain⟨rfl,rfl⟩:=he;have e1:tx=tx:=rfl;go_quiet (fail)
   have TV:Turn [] W (wr.drewN nq):=TT.drawn nq;generalize wr.drewN nq=V at *;obtain⟨hc,hf⟩:=tcell TV;obtain⟨_,hrow⟩:=HR.out V (T0.trans TV);have r2:V.rangeAt g (o+k*258+2) (t.px.map (Value.int .u8)):=fun j v hv=>by have:=hrow (j+2) v (by show (t.px.map (Value.int .u8))[j]?=some v;exact hv);rw [show o+k*258+2+j=o+k*258+(j+2) by omega];exact this
   have hres:V.heap[w.heap.size+2]?=some (.cells zeroCells66 66 (0,0)):=(by rw [TV.old _ (by omega) (by simp)];exact HRES.out);have hl2:(Instr.loadAt 66 (.pointer (some ⟨g,o+k*258+2,none⟩))).run prog V=.ok (.agg ⟨t.px.map (Value.int .u8)⟩) V:=run_loadAt_mid (P:=prog) V _ _ 66 _ _ r2 underlying66 rfl (by rw [List.length_map,ok.1,info66]);have hst:=store_row (ty:=66) (cells:=⟨t.px.map (Value.int .u8)⟩) hres (by
    rw [info66];show some 256=some (t.px.map (Value.int .u8)).length;rw [List.length_map,ok.1]) (by
    rw [←z66,sizeZ66];show 256=(t.px.map (Value.int .u8)).length;rw [List.length_map,ok.1]) (by simp [Value.oneCell'])
   have hr2:(V.setRow (w.heap.size+2) ⟨t.px.map (Value.int .u8)⟩).heap[w.heap.size+2]?=some (.cells ⟨t.px.map (Value.int .u8)⟩ 66 (0,0)):=(by simp only [World.setRow,Array.getElem?_modify,if_true,hres];rfl);have hl3:=run_loadVar_row (P:=prog) _ (w.heap.size+2) 66 66 ⟨t.px.map (Value.int .u8)⟩ (0,0) _ hr2 underlying66 rfl (by
    rw [info66];show some 256=some (t.px.map (Value.int .u8)).length;rw [List.length_map,ok.1])
   have HT:Turn [] w (V.setRow (w.heap.size+2) ⟨t.px.map (Value.int .u8)⟩):=(T0.trans TV).setRow _ (.inr (by omega));have HOK:=lh ok;have HPX:Hid (tv t.px=.agg ⟨t.px.map (Value.int .u8)⟩):=lh rfl;clear ok hres hr2 hrow r2 c0 c1 TT HR;generalize (⟨t.px.map (Value.int .u8)⟩:Array Value)=FT at *;go_wp2_with (first
    | (refine wpList_load_at rfl 66 (.tmp 25) rfl rfl hl2 ?_)
    | (refine wpList_store_run rfl 66 (.tmp 4) (.tmp 26) rfl rfl rfl hst ?_))
   (try go_frame);refine bodyPost_ret (v:=.agg FT) ?_ rfl ⟨⟨_,HOK.out,by rw [HPX.out]⟩,HT⟩;simp [results,results59,asAddr,hl3]
  have he':tx=x→¬ty=y:=fun a b=>he ⟨a,b⟩;by_cases h1:tx=x
  ·have h2:=he' h1;go_quiet (fail)
   have TV:Turn [] W (wr.drewN nq):=TT.drawn nq;(go_wp2_with fail);go_roundw;case rel=>exact⟨k+1,by omega,by go_num,TV⟩
   simp [intOf];omega
  go_quiet (fail)
  have TV:Turn [] W (wr.drewN nq):=TT.drawn nq;go_wp2_with fail
  go_roundw;case rel=>exact⟨k+1,by omega,by go_num,TV⟩
  simp [intOf];omega
 obtain rfl:k=n:=by omega
 have hres:wr.heap[w.heap.size+2]?=some (.cells zeroCells66 66 (0,0)):=by rw [TT.old _ (by omega) (by simp)];exact HRES.out
 have hst:=store_row (ty:=66) (cells:=zeroCells66) hres (by kernel_rfl) rfl (by kernel_rfl);have hr2:(wr.setRow (w.heap.size+2) zeroCells66).heap[w.heap.size+2]?=some (.cells zeroCells66 66 (0,0)):=by simp only [World.setRow,Array.getElem?_modify,if_true,hres];rfl
 have hl3:=run_loadVar_row (P:=prog) _ (w.heap.size+2) 66 66 zeroCells66 (0,0) _ hr2 underlying66 rfl (by kernel_rfl);have HT:Turn [] w (wr.setRow (w.heap.size+2) zeroCells66):=(T0.trans TT).setRow _ (.inr (by omega));clear hres hr2;go_wp2_with (refine wpList_store_run rfl 66 (.tmp 4) (.tmp 27) rfl rfl rfl hst ?_)
 try go_frame
 refine bodyPost_ret (v:=.agg zeroCells66) ?_ rfl ⟨⟨_,zero_px,by rw [zero_tv]⟩,HT⟩;simp [results,results59,asAddr,hl3]
end Go.Proofs.YtbpklgllihhgpaaGreat
