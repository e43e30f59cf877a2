import Derived.Test.YtbpklgllihhgpaaGreatR23
set_option maxRecDepth 100000
set_option maxHeartbeats 16000000
namespace Go.Proofs.YtbpklgllihhgpaaGreat
open Tryz Go.RowKit Go.Den
theorem set_px(px:List Int)(h:okPx px)(i:Nat)(hi:i<64)(r g b a:Int)(hr:0≤r∧r≤255)(hg:0≤g∧g≤255)(hb:0≤b∧b≤255)(ha:0≤a∧a≤255): okPx (px.take (4*i) ++ [r,g,b,a] ++ px.drop (4*i+4)):=by
 refine⟨?_,fun v hv=>?_⟩
 ·simp [h.1];omega
 rcases List.mem_append.1 hv with hv | hv
 ·rcases List.mem_append.1 hv with hv | hv
  ·exact h.2 v (List.mem_of_mem_take hv)
  simp only [List.mem_cons,List.not_mem_nil,or_false]at hv;rcases hv with rfl | rfl | rfl | rfl <;> assumption
 exact h.2 v (List.mem_of_mem_drop hv)
theorem ref_set7(px:List Int)(h:okPx px)(x y r g b a:Int)(hr:0≤r∧r≤255)(hg:0≤g∧g≤255)(hb:0≤b∧b≤255)(ha:0≤a∧a≤255)(w:World):
  Calls prog 62 #[tv px,x,y,.agg #[.int .u8 r,.int .u8 g,.int .u8 b,.int .u8 a]] w fun e w'=>(∃px',okPx px'∧e=.returned (tv px'))∧Turn [] w w':=by
 have ha1:∀u:World,(Instr.alloc 66 true (.tuple #[])).run prog u=.ok (.pointer (some ⟨u,0,none⟩)) (u.alloc (.cells zeroCells66 66)):=fun u=>by have:=alloc66 u;rwa [z66]at this
 have hl:(px.map (Value.int .u8)).length=256:=by rw [List.length_map,h.1]
 obtain⟨W,hW⟩:∃W,W=((w.alloc (.cells ⟨px.map (Value.int .u8)⟩ 66)).alloc (.cells #[.int .u8 r,.int .u8 g,.int .u8 b,.int .u8 a] 64)).alloc (.cells zeroCells66 66):=⟨_,rfl⟩;have T0:Turn [] w W:=hW ▸ ((((tR w).alloc _).alloc _).alloc _);have hWs:W.heap.size=w.heap.size+3:=by rw [hW];simp
 have hW0:W.heap[w.heap.size]?=some (.cells ⟨px.map (Value.int .u8)⟩ 66 (0,0)):=by rw [hW];simp only [heap_at,World.size_alloc];rw [if_neg (by omega),if_neg (by omega),if_pos (by first | trivial | omega)]
 have hW1:W.heap[w.heap.size+1]?=some (.cells #[.int .u8 r,.int .u8 g,.int .u8 b,.int .u8 a] 64 (0,0)):=by rw [hW];simp only [heap_at,World.size_alloc];rw [if_neg (by omega),if_pos (by first | trivial | omega)]
 have hW2:W.heap[w.heap.size+2]?=some (.cells zeroCells66 66 (0,0)):=by rw [hW];simp only [heap_at,World.size_alloc];rw [if_pos (by first | trivial | omega)]
 have p0:W.cell? ⟨w.heap.size+1,0,none⟩=some (.int .u8 r):=by rw [cell_of_row _ _ _ _ _ _ hW1];rfl
 have p1:W.cell? ⟨w.heap.size+1,1,none⟩=some (.int .u8 g):=by rw [cell_of_row _ _ _ _ _ _ hW1];rfl
 have p2:W.cell? ⟨w.heap.size+1,2,none⟩=some (.int .u8 b):=by rw [cell_of_row _ _ _ _ _ _ hW1];rfl
 have p3:W.cell? ⟨w.heap.size+1,3,none⟩=some (.int .u8 a):=by rw [cell_of_row _ _ _ _ _ _ hW1];rfl
 have HIN:=lh (ref_in x y);have HEND:Hid (∀(u:World) (ps:List Int),Turn [] w u→okPx ps→u.heap[w.heap.size]?=some (.cells ⟨ps.map (Value.int .u8)⟩ 66 (0,0))→u.heap[w.heap.size+2]?=some (.cells zeroCells66 66 (0,0))→
   (loadVar 66 ⟨w,0,none⟩).run prog u=.ok (.agg ⟨ps.map (Value.int .u8)⟩) u∧(Instr.storeAt 66 (.pointer (some ⟨w.heap.size+2,0,none⟩)) (.agg ⟨ps.map (Value.int .u8)⟩)).run prog u=.ok () (u.setRow (w.heap.size+2) ⟨ps.map (Value.int .u8)⟩)∧
   (loadVar 66 ⟨w.heap.size+2,0,none⟩).run prog (u.setRow (w.heap.size+2) ⟨ps.map (Value.int .u8)⟩)=.ok (.agg ⟨ps.map (Value.int .u8)⟩) (u.setRow (w.heap.size+2) ⟨ps.map (Value.int .u8)⟩)∧Turn [] w (u.setRow (w.heap.size+2) ⟨ps.map (Value.int .u8)⟩)):=lh fun u ps T hps h0 h2=>by
  have hi:(prog.info? 66).map (·.size)=some (⟨ps.map (Value.int .u8)⟩:Array Value).size:=by rw [info66];show some 256=some (ps.map (Value.int .u8)).length;rw [List.length_map,hps.1]
  have hr2:(u.setRow (w.heap.size+2) ⟨ps.map (Value.int .u8)⟩).heap[w.heap.size+2]?=some (.cells ⟨ps.map (Value.int .u8)⟩ 66 (0,0)):=by simp only [World.setRow,Array.getElem?_modify,if_true,h2];rfl
  exact⟨run_loadVar_row (P:=prog) u w.heap.size 66 66 ⟨ps.map (Value.int .u8)⟩ (0,0) _ h0 underlying66 rfl hi,
   store_row (ty:=66) h2 hi (by rw [←z66,sizeZ66];show 256=(ps.map (Value.int .u8)).length;rw [List.length_map,hps.1]) (by simp [Value.oneCell']),
   run_loadVar_row (P:=prog) _ (w.heap.size+2) 66 66 ⟨ps.map (Value.int .u8)⟩ (0,0) _ hr2 underlying66 rfl hi,T.setRow _ (.inr (by omega))⟩
 unfold tv;by_cases hin:(0≤x∧x<8)∧0≤y∧y<8
 ·obtain⟨⟨h1,h2⟩,h3,h4⟩:=hin;have hq:(decide (0≤x) && decide (x<8) && decide (0≤y) && decide (y<8))=true:=by simp [h1,h2,h3,h4]
  rw [hq]at HIN;clear hq;obtain⟨i,hi⟩:∃i:Nat,8*y+x=(i:Int):=⟨(8*y+x).toNat,by omega⟩;have hi64:i<64:=by omega
  have hps:=pix_store (p:=[.int .u8 r,.int .u8 g,.int .u8 b,.int .u8 a]) (L:=px.map (Value.int .u8)) (L':=(px.take (4*i) ++ [r,g,b,a] ++ px.drop (4*i+4)).map (Value.int .u8)) hW0 hl rfl (by simp [Value.oneCell']) hi64 (by simp [List.map_take,List.map_drop]);have hok:=set_px px h i hi64 r g b a hr hg hb ha;have oth:∀q c,q≠w.heap.size→(W.setRow w.heap.size c).heap[q]?=W.heap[q]?:=fun q c hq=>by simp only [World.setRow,Array.getElem?_modify,Ne.symm hq,if_false]
  obtain⟨e1,e2,e3,e4⟩:=HEND.out _ _ (T0.setRow _ (.inr (Nat.le_refl _))) hok (by simp only [World.setRow,Array.getElem?_modify,if_true,hW0];rfl) ((oth _ _ (by omega)).trans hW2);have HT:=lh e4;have HOK:=lh hok;have d0:IntKind.i64.wrap (8*y+x)=(i:Int):=by rw [hi];simp [IntKind.wrap,IntKind.bits,IntKind.signed];omega
  clear h hok e4 oth hW0 hW1 hW2 hl HEND;generalize px.take (4*i) ++ [r,g,b,a] ++ px.drop (4*i+4)=ps at *;generalize hcs:(⟨ps.map (Value.int .u8)⟩:Array Value)=cs at *;have HCS:=lh hcs;clear hcs;generalize (⟨px.map (Value.int .u8)⟩:Array Value)=c0 at *;go_enter func62,ntmps62;go_upto_region 1 with (fail)
  rw [show w.heap.size+1+1=w.heap.size+2 from rfl,←hW];clear hW ha1;go_wp2_with (first
   | (go_at_call 104;refine (HIN.out _).mono ?_;rintro e w1 ⟨rfl,hw⟩;rw [hw];clear hw)
   | (refine wpList_load_var rfl 66 (.tmp 4) rfl rfl e1 ?_;try go_frame)
   | (refine wpList_store_run rfl 64 (.tmp 17) (.tmp 16) rfl rfl rfl hps ?_;try go_frame)
   | (refine wpList_store_run rfl 66 (.tmp 8) (.tmp 18) rfl rfl rfl e2 ?_;try go_frame))
  refine bodyPost_ret (v:=.agg cs) ?_ rfl ⟨⟨_,HOK.out,by rw [HCS.out]⟩,HT.out⟩;simp [results,results62,asAddr,e3]
 have hq:(decide (0≤x) && decide (x<8) && decide (0≤y) && decide (y<8))=false:=by simp;omega
 rw [hq]at HIN;clear hq;obtain⟨e1,e2,e3,e4⟩:=HEND.out _ _ T0 h hW0 hW2;have HT:=lh e4;have HOK:=lh h;clear h e4 hW0 hW1 hW2 hl HEND hin;generalize hcs:(⟨px.map (Value.int .u8)⟩:Array Value)=cs at *;have HCS:=lh hcs;clear hcs;go_enter func62,ntmps62;go_upto_region 1 with (fail)
 rw [show w.heap.size+1+1=w.heap.size+2 from rfl,←hW];clear hW ha1;go_wp2_with (first
  | (go_at_call 104;refine (HIN.out _).mono ?_;rintro e w1 ⟨rfl,hw⟩;rw [hw];clear hw)
  | (refine wpList_load_var rfl 66 (.tmp 4) rfl rfl e1 ?_;try go_frame)
  | (refine wpList_store_run rfl 66 (.tmp 8) (.tmp 18) rfl rfl rfl e2 ?_;try go_frame))
 refine bodyPost_ret (v:=.agg cs) ?_ rfl ⟨⟨_,HOK.out,by rw [HCS.out]⟩,HT.out⟩;simp [results,results62,asAddr,e3]
def Thin(w:World)(c:Nat): Prop:=∃arr t fz,w.heap[c]?=some (.cells arr t fz)∧arr.size≤2
theorem Thin.setCell{w:World}{c:Nat}(h:Thin w c)(i:Nat)(v:Value): Thin (w.setCell ⟨c,i,none⟩ v) c:=by obtain⟨arr,t,fz,h1,h2⟩:=h;refine⟨arr.setIfInBounds i v,t,fz,?_,by simpa using h2⟩;simp only [World.setCell,Array.getElem?_modify,if_true,h1];rfl
theorem TilesAt.thin{w:World}{A:Option Addr}{n:Nat}{ts:List TileM}(h:TilesAt w A n ts){c:Nat}(hc:Thin w c)(i:Nat)(v:Value): TilesAt (w.setCell ⟨c,i,none⟩ v) A n ts:=by
 refine⟨h.1,fun j t ht=>?_⟩;obtain⟨h1,g,o,h2,h3⟩:=h.2 j t ht;refine⟨h1,g,o,h2,?_⟩;have hg:g≠c:=by
  rintro rfl;obtain⟨arr,ty,fz,e1,e2⟩:=hc;have hl:2<t.row.length:=by simp [TileM.row,h1.1]
  have:=h3 2 _ (List.getElem?_eq_getElem hl);rw [cell_of_row _ _ _ _ _ _ e1,Array.getElem?_eq_none (by omega)]at this;cases this
 intro k u hu;rw [←h3 k u hu];have e:(w.setCell ⟨c,i,none⟩ v).heap[g]?=w.heap[g]?:=by simp only [World.setCell,Array.getElem?_modify];rw [if_neg (Ne.symm hg)]
 simp only [World.cell?,e]
inductive IsGot(w:World): Ending→Prop where
 | mk (A:Option Addr) (n cap:Nat) (ts:List TileM) (E:Int) (h:TilesAt w A n ts):IsGot w (.returned (.agg #[.slice A n cap,.int .i64 E]))
theorem ref_put8(ts0:List TileM)(A:Option Addr)(n cap:Nat)(x y:Int)(px0:List Int)(hpx:okPx px0)(w:World)(h:TilesAt w A n ts0):
  Calls prog 61 #[.agg #[.slice A n cap],.agg #[.int .i64 x,.int .i64 y],tv px0] w fun e w'=>IsGot w' e∧Turn [] w w':=by
 have hIn:=ref_inTile x y;have hOf:=fun u (T:Turn [] w u)=>ref_of ts0 A n cap u (h.turn T);have hPut:=fun (ts:List TileM) A' n' cap' (hn:n'≤1024) u (hT:TilesAt u A' n' ts)=>ref_put ts A' n' cap' hn x y px0 hpx u hT;have hMany:=ref_many;have hlen0:(px0.map (Value.int .u8)).length=256:=by rw [List.length_map,hpx.1]
 obtain⟨W,hW⟩:∃W,W=(((w.alloc (.cells #[.slice A n cap] 87)).alloc (.cells #[.int .i64 x,.int .i64 y] 133)).alloc (.cells ⟨px0.map (Value.int .u8)⟩ 66)).alloc (.cells #[.slice none 0 0,.int .i64 0] 93):=⟨_,rfl⟩;have T0:Turn [] w W:=hW ▸ (((((tR w).alloc _).alloc _).alloc _).alloc _);have hWs:W.heap.size=w.heap.size+4:=by rw [hW];simp
 have hW0:W.heap[w.heap.size]?=some (.cells #[.slice A n cap] 87 (0,0)):=by rw [hW];simp only [heap_at,World.size_alloc];rw [if_neg (by omega),if_neg (by omega),if_neg (by omega),if_pos (by first | trivial | omega)]
 have hW1:W.heap[w.heap.size+1]?=some (.cells #[.int .i64 x,.int .i64 y] 133 (0,0)):=by rw [hW];simp only [heap_at,World.size_alloc];rw [if_neg (by omega),if_neg (by omega),if_pos (by first | trivial | omega)]
 have hW2:W.heap[w.heap.size+2]?=some (.cells ⟨px0.map (Value.int .u8)⟩ 66 (0,0)):=by rw [hW];simp only [heap_at,World.size_alloc];rw [if_neg (by omega),if_pos (by first | trivial | omega)]
 have hW3:W.heap[w.heap.size+3]?=some (.cells #[.slice none 0 0,.int .i64 0] 93 (0,0)):=by rw [hW];simp only [heap_at,World.size_alloc];rw [if_pos (by first | trivial | omega)]
 have q0:W.cell? ⟨w,0,none⟩=some (.slice A n cap):=by rw [cell_of_row _ _ _ _ _ _ hW0];rfl
 have q1:W.cell? ⟨w.heap.size+1,0,none⟩=some (.int .i64 x):=by rw [cell_of_row _ _ _ _ _ _ hW1];rfl
 have q2:W.cell? ⟨w.heap.size+1,1,none⟩=some (.int .i64 y):=by rw [cell_of_row _ _ _ _ _ _ hW1];rfl
 have z0:W.cell? ⟨w.heap.size+3,0,none⟩=some (.slice none 0 0):=by rw [cell_of_row _ _ _ _ _ _ hW3];rfl
 have z1:W.cell? ⟨w.heap.size+3,1,none⟩=some (.int .i64 0):=by rw [cell_of_row _ _ _ _ _ _ hW3];rfl
 have zf:∀i,W.frozen? ⟨w.heap.size+3,i,none⟩=false:=fun i=>by simp [World.frozen?,hW3]
 have HLO:Hid (∀u,Turn [] W u→(Instr.loadAt 66 (.pointer (some ⟨w.heap.size+2,0,none⟩))).run prog u=.ok (tv px0) u):=lh fun u T=>
  run_loadVar_row (P:=prog) u (w.heap.size+2) 66 66 ⟨px0.map (Value.int .u8)⟩ (0,0) _ ((T.old _ (by omega) (by simp)).trans hW2) underlying66 rfl (by rw [info66];show some 256=some (px0.map (Value.int .u8)).length;rw [hlen0])
 have HTH:Hid (∀u,Turn [] W u→Thin u (w.heap.size+3)):=lh fun u T=>⟨_,_,_,(T.old _ (by omega) (by simp)).trans hW3,by simp⟩;generalize (decide (-8192≤x) && decide (x≤8191) && decide (-8192≤y) && decide (y≤8191))=q at hIn;have HIN:=lh hIn;have HOF:=lh hOf;have HPU:=lh hPut;have HMA:=lh hMany;unfold tv at *;clear h hIn hOf hPut hMany hW0 hW1 hW2 hW3 hlen0 hpx;generalize (⟨px0.map (Value.int .u8)⟩:Array Value)=c0 at *;go_enter func61,ntmps61;go_upto_region 1 with (fail)
 rw [show w.heap.size+1+1=w.heap.size+2 from rfl,show w.heap.size+2+1=w.heap.size+3 from rfl,←hW];clear hW;cases q with
 | false=>
  go_upto_region 2 with (go_at_call 101;refine (HIN.out _).mono ?_;rintro e w1 ⟨rfl,ht1⟩)
  obtain⟨hc,hf⟩:=tcell ht1;go_wp2_with fail
  have y0:=tq hc z0;have y1:=tq hc z1;exact bodyPost_ret (v:=.agg #[.slice none 0 0,.int .i64 1]) (by simp [results,results61,go_sem,y0,y1]) rfl ⟨.mk _ _ _ [] _ (tiles_none _),((T0.trans ht1).sc).sc⟩
 | true=>
  go_upto_region 3 with (go_at_call 101;refine (HIN.out _).mono ?_;rintro e w1 ⟨rfl,ht1⟩)
  have D0:Hid (∀u,Turn [] W u→u.cell? ⟨w,0,none⟩=some (.slice A n cap)):=lh fun u T=>by rw [(tcell T).1 _ _ (block_lt_of_cell q0)];exact q0
  have D1:Hid (∀u,Turn [] W u→u.cell? ⟨w.heap.size+1,0,none⟩=some (.int .i64 x)):=lh fun u T=>by rw [(tcell T).1 _ _ (block_lt_of_cell q1)];exact q1
  have D2:Hid (∀u,Turn [] W u→u.cell? ⟨w.heap.size+1,1,none⟩=some (.int .i64 y)):=lh fun u T=>by rw [(tcell T).1 _ _ (block_lt_of_cell q2)];exact q2
  refine AnyTill.start (fun u=>Turn [] W u) 6 (by kernel_rfl) ?_;have hS:=ht1.drawn 1;change Turn [] W w1.drew at hS;generalize w1.drew=Y at *;clear ht1;refine tk 0 7 11 (.agg #[.slice A n cap]) hS ?_ (hy:=fun w' hw=>by have e0:=D0.out _ hw;go_simp);try go_frame
  refine tk 2 7 13 (.agg #[.int .i64 x,.int .i64 y]) hS ?_ (hy:=fun w' hw=>by have e1:=D1.out _ hw;have e2:=D2.out _ hw;go_simp);try go_frame
  refine tk 3 7 14 (.agg c0) hS ?_ rfl (hy:=fun w' hw=>exec_load rfl rfl (HLO.out w' hw));try go_frame
  refine tk1 1 fun K hK=>?_;go_simp;refine (HOF.out _ (T0.trans hS)).mono ?_;rintro e w2 ⟨⟨A2,n2,cp2,ts2,rfl,hT2,hn2⟩,ht2⟩;have hS:=hS.trans ht2;clear ht2;refine hK _ _ (fun _=>hS) ?_;clear hK K;try go_frame
  refine tk1 4 fun K hK=>?_;go_simp;refine (HPU.out ts2 A2 n2 cp2 hn2 _ hT2).mono ?_;rintro e w3 ⟨⟨A3,n3,cp3,ts3,rfl,hT3⟩,ht3⟩;have hS:=hS.trans ht3;clear ht3 hT2;refine hK _ _ (fun _=>hS) ?_;clear hK K;try go_frame
  refine tk1 5 fun K hK=>?_;go_simp;refine (HMA.out A3 n3 cp3 _).mono ?_;rintro e w4 ⟨he,ht4⟩;have hS:=hS.trans ht4;have hT4:=hT3.turn ht4;obtain⟨A5,n5,cp5,ts5,E,rfl,hT5⟩:∃A5 n5 cp5 ts5 E,e=.returned (.agg #[.slice A5 n5 cp5,.int .i64 E])∧TilesAt w4 A5 n5 ts5:=by
   rcases he with rfl | rfl
   ·exact⟨_,_,_,_,_,rfl,hT4⟩
   exact⟨_,_,_,[],_,rfl,tiles_none _⟩
  clear ht4 hT3 hT4 he;refine hK _ _ (fun _=>hS) ?_;clear hK K;try go_frame
  obtain⟨hc,hf⟩:=tcell hS;have HT5:=lh hT5;clear hT5;refine tk1 6 fun K hK=>?_;have y0:=tq hc z0;have y1:=tq hc z1;go_simp;refine hK _ _ (fun h=>absurd rfl h) ?_;clear hK K;try go_frame
  refine tkd ?_;go_wp2_with fail
  have hTT:Turn [] w ((w4.setCell ⟨w.heap.size+3,0,none⟩ (.slice A5 n5 cp5)).setCell ⟨w.heap.size+3,1,none⟩ (.int .i64 E)):=((T0.trans hS).sc).sc;refine bodyPost_ret (v:=.agg #[.slice A5 n5 cp5,.int .i64 E]) (by simp [results,results61,go_sem,y0,y1]) rfl ⟨.mk _ _ _ ts5 _ ?_,hTT⟩;exact (HT5.out.thin (HTH.out _ hS) _ _).thin ((HTH.out _ hS).setCell _ _) _ _
theorem ref_set8(ts0:List TileM)(A:Option Addr)(n cap:Nat)(x y r g b a:Int)(hx:-4611686018427387904≤x∧x≤4611686018427387904)(hy:-4611686018427387904≤y∧y≤4611686018427387904)(hr:0≤r∧r≤255)(hg:0≤g∧g≤255)(hb:0≤b∧b≤255)(ha:0≤a∧a≤255)(w:World)(h:TilesAt w A n ts0):
  Calls prog 34 #[.agg #[.slice A n cap],x,y,.agg #[.int .u8 r,.int .u8 g,.int .u8 b,.int .u8 a]] w fun e w'=>IsGot w' e∧Turn [] w w':=by
 have ha1:∀u:World,(Instr.alloc 66 true (.tuple #[])).run prog u=.ok (.pointer (some ⟨u,0,none⟩)) (u.alloc (.cells zeroCells66 66)):=fun u=>by have:=alloc66 u;rwa [z66]at this
 have hPo:=ref_pos x y hx hy;have hOf:=fun u (T:Turn [] w u)=>ref_of ts0 A n cap u (h.turn T);have hTi:=fun (ts:List TileM) A' n' cap' (hn:n'≤1024) (p q:Int) u (hT:TilesAt u A' n' ts)=>ref_tile ts A' n' cap' hn p q u hT;have hSe:=fun px (hpx:okPx px) (p q:Int) u=>ref_set7 px hpx p q r g b a hr hg hb ha u;have hPu:=fun px (hpx:okPx px) (p q:Int) u (T:Turn [] w u)=>ref_put8 ts0 A n cap p q px hpx u (h.turn T);clear hx hy h;obtain⟨W,hW⟩:∃W,W=((w.alloc (.cells #[.slice A n cap] 87)).alloc (.cells #[.int .u8 r,.int .u8 g,.int .u8 b,.int .u8 a] 64)).alloc (.cells #[.slice none 0 0,(0:Int)] 93):=⟨_,rfl⟩;have T0:Turn [] w W:=hW ▸ ((((tR w).alloc _).alloc _).alloc _);have hWs:W.heap.size=w.heap.size+3:=by rw [hW];simp
 have hW0:W.heap[w.heap.size]?=some (.cells #[.slice A n cap] 87 (0,0)):=by rw [hW];simp only [heap_at,World.size_alloc];rw [if_neg (by omega),if_neg (by omega),if_pos (by first | trivial | omega)]
 have hW1:W.heap[w.heap.size+1]?=some (.cells #[.int .u8 r,.int .u8 g,.int .u8 b,.int .u8 a] 64 (0,0)):=by rw [hW];simp only [heap_at,World.size_alloc];rw [if_neg (by omega),if_pos (by first | trivial | omega)]
 have hW3:W.heap[w.heap.size+2]?=some (.cells #[.slice none 0 0,(0:Int)] 93 (0,0)):=by rw [hW];simp only [heap_at,World.size_alloc];rw [if_pos (by first | trivial | omega)]
 have q0:W.cell? ⟨w,0,none⟩=some (.slice A n cap):=by rw [cell_of_row _ _ _ _ _ _ hW0];rfl
 have z0:W.cell? ⟨w.heap.size+2,0,none⟩=some (.slice none 0 0):=by rw [cell_of_row _ _ _ _ _ _ hW3];rfl
 have z1:W.cell? ⟨w.heap.size+2,1,none⟩=some (.int .i64 0):=by rw [cell_of_row _ _ _ _ _ _ hW3];rfl
 have zf:∀i,W.frozen? ⟨w.heap.size+2,i,none⟩=false:=fun i=>by simp [World.frozen?,hW3]
 have D0:Hid (∀u,Turn [] W u→u.cell? ⟨w,0,none⟩=some (.slice A n cap)):=lh fun u T=>by rw [(tcell T).1 _ _ (block_lt_of_cell q0)];exact q0
 have D5:Hid (∀u,Turn [] W u→u.cell? ⟨w.heap.size+1,0,none⟩=some (.int .u8 r)∧u.cell? ⟨w.heap.size+1,1,none⟩=some (.int .u8 g)∧u.cell? ⟨w.heap.size+1,2,none⟩=some (.int .u8 b)∧u.cell? ⟨w.heap.size+1,3,none⟩=some (.int .u8 a)):=lh fun u T=>by have e:=(T.old (w.heap.size+1) (by omega) (by simp)).trans hW1;refine⟨?_,?_,?_,?_⟩ <;> (rw [cell_of_row _ _ _ _ _ _ e];rfl)
 have HTH:Hid (∀u,Turn [] W u→Thin u (w.heap.size+2)):=lh fun u T=>⟨_,_,_,(T.old _ (by omega) (by simp)).trans hW3,by simp⟩;have HST:Hid (∀(u:World) (c:Nat) (px:List Int),okPx px→u.heap[c]?=some (.cells zeroCells66 66 (0,0))→(Instr.storeAt 66 (.pointer (some ⟨c,0,none⟩)) (tv px)).run prog u=.ok () (u.setRow c ⟨px.map (Value.int .u8)⟩)∧(u.setRow c ⟨px.map (Value.int .u8)⟩).heap[c]?=some (.cells ⟨px.map (Value.int .u8)⟩ 66 (0,0))):=lh fun u c px hpx h2=>by
  have hi:(prog.info? 66).map (·.size)=some (⟨px.map (Value.int .u8)⟩:Array Value).size:=by rw [info66];show some 256=some (px.map (Value.int .u8)).length;rw [List.length_map,hpx.1]
  refine⟨store_row (ty:=66) h2 hi (by rw [←z66,sizeZ66];show 256=(px.map (Value.int .u8)).length;rw [List.length_map,hpx.1]) (by simp [Value.oneCell']),?_⟩;simp only [World.setRow,Array.getElem?_modify,if_true,h2];rfl
 have HLO:Hid (∀(u:World) (c:Nat) (px:List Int),okPx px→u.heap[c]?=some (.cells ⟨px.map (Value.int .u8)⟩ 66 (0,0))→(Instr.loadAt 66 (.pointer (some ⟨c,0,none⟩))).run prog u=.ok (tv px) u):=lh fun u c px hpx h2=>
  run_loadVar_row (P:=prog) u c 66 66 ⟨px.map (Value.int .u8)⟩ (0,0) _ h2 underlying66 rfl (by rw [info66];show some 256=some (px.map (Value.int .u8)).length;rw [List.length_map,hpx.1])
 generalize floorM x 8=p at *;generalize floorM y 8=q at *;have HPO:=lh hPo;have HOF:=lh hOf;have HTI:=lh hTi;have HSE:=lh hSe;have HPU:=lh hPu;have HA1:=lh ha1;clear hPo hOf hTi hSe hPu hW0 hW1 hW3 ha1 hr hg hb ha;go_enter func34,ntmps34;go_upto_region 1 with (fail)
 rw [show w.heap.size+1+1=w.heap.size+2 from rfl,←hW];clear hW;go_upto_region 2 with (go_at_call 58;refine (HPO.out _).mono ?_;rintro e w1 ⟨rfl,ht1⟩)
 obtain⟨W1,hW1⟩:∃W1,W1=w1.alloc (.cells #[p,q] 133):=⟨_,rfl⟩;have TW:Turn [] W W1:=hW1 ▸ ht1.alloc _;have hP1:W1.heap[w1.heap.size]?=some (.cells #[p,q] 133 (0,0)):=by rw [hW1];exact heap_alloc_new _ _
 have hz1:W1.heap.size=w1.heap.size+1:=by rw [hW1];simp
 have hz2:=ht1.size;rw [←hW1];clear hW1 ht1;generalize w1.heap.size=b9 at *;have D1:Hid (∀u,Turn [] W1 u→u.cell? ⟨b9,0,none⟩=some (.int .i64 p)∧u.cell? ⟨b9,1,none⟩=some (.int .i64 q)):=lh fun u T=>by have e:=(T.old b9 (by omega) (by simp)).trans hP1;refine⟨?_,?_⟩ <;> (rw [cell_of_row _ _ _ _ _ _ e];rfl)
 clear hP1;go_cut [10] (fun s10 wx=>∃c px,okPx px∧s10=.pointer (some ⟨c,0,none⟩)∧W1.heap.size≤c∧wx.heap[c]?=some (.cells ⟨px.map (Value.int .u8)⟩ 66 (0,0))∧Turn [] W1 wx);case first=>
  refine AnyTill.start (fun u=>Turn [] W1 u) 5 (by kernel_rfl) ?_;have hS:=(tR W1).drawn 1;change Turn [] W1 W1.drew at hS;generalize W1.drew=Y at *;refine tk 0 6 14 (.agg #[.slice A n cap]) hS ?_ (hy:=fun w' hw=>by have e0:=D0.out _ (TW.trans hw);go_simp);try go_frame
  refine tk 2 6 16 (.agg #[p,q]) hS ?_ (hy:=fun w' hw=>by obtain⟨e1,e2⟩:=D1.out _ hw;go_simp);try go_frame
  refine AnyTill.two (i:=1) (j:=4) rfl rfl (by kernel_rfl) rfl rfl (fun K hK=>?_) (fun K hK=>?_)
  ·go_simp;refine (HOF.out _ (T0.trans (TW.trans hS))).mono ?_;rintro e w2 ⟨⟨A2,n2,cp2,ts2,rfl,hT2,hn2⟩,ht2⟩;have hS3:=hS.trans ht2;refine hK _ _ (fun _=>hS3) ?_;clear hK K;(try go_frame);refine AnyTill.two (i:=3) (j:=4) rfl rfl (by kernel_rfl) rfl rfl (fun K hK=>?_) (fun K hK=>?_)
   ·go_simp;refine (HTI.out ts2 A2 n2 cp2 hn2 p q _ hT2).mono ?_;rintro e w3 ⟨⟨px,hpx,rfl⟩,ht3⟩;have hS4:=hS3.trans ht3;refine hK _ _ (fun _=>hS4) ?_;clear hK K;(try go_frame);refine tk1 4 fun K hK=>?_;refine wp_yieldR (d:=some 10) rfl (exec_alloc rfl (HA1.out w3)) ?_;have hc:=heap_alloc_new w3 (.cells zeroCells66 66);have hSz:=hS4.size;have hS2:=hS4.alloc (.cells zeroCells66 66);have hgc:w3.heap.size<(w3.alloc (.cells zeroCells66 66)).heap.size:=(by simp);generalize w3.alloc (.cells zeroCells66 66)=Z at *;generalize w3.heap.size=c at *;refine hK _ _ (fun _=>hS2) ?_;clear hK K;(try go_frame);have hcl:W1.heap.size≤c:=hSz;refine tk1 5 fun K hK=>?_;obtain⟨hst,hcx⟩:=HST.out Z c px hpx hc;refine wp_storeR (d:=none) rfl 66 (.tmp 10) (.tmp 17) rfl rfl rfl hst ?_;refine hK _ _ (fun h=>absurd rfl h) ?_;clear hK K;(try go_frame);refine tkd ?_;have hSF:=hS2.setRow (g:=c) ⟨px.map (Value.int .u8)⟩ (.inr hcl);(go_wp2_with fail);go_meet;exact⟨c,px,hpx,rfl,hcl,hcx,hSF⟩
   refine wp_yieldR (d:=some 10) rfl (exec_alloc rfl (HA1.out w2)) ?_;have tzw:=(tR w2).alloc (.cells zeroCells66 66);have hc:=heap_alloc_new w2 (.cells zeroCells66 66);have hSz:=hS3.size;have hS2:=hS3.alloc (.cells zeroCells66 66);have hgc:w2.heap.size<(w2.alloc (.cells zeroCells66 66)).heap.size:=(by simp);generalize w2.alloc (.cells zeroCells66 66)=Z at *;generalize w2.heap.size=c at *;refine hK _ _ (fun _=>hS2) ?_;clear hK K;(try go_frame);have hcl:W1.heap.size≤c:=hSz;refine tk1 3 fun K hK=>?_;go_simp;refine (HTI.out ts2 A2 n2 cp2 hn2 p q _ (hT2.turn tzw)).mono ?_;rintro e w3 ⟨⟨px,hpx,rfl⟩,ht3⟩;have hS4:=hS2.trans ht3;refine hK _ _ (fun _=>hS4) ?_;clear hK K;(try go_frame);have hc:=(ht3.old c hgc (by simp)).trans hc;refine tk1 5 fun K hK=>?_;obtain⟨hst,hcx⟩:=HST.out w3 c px hpx hc;refine wp_storeR (d:=none) rfl 66 (.tmp 10) (.tmp 17) rfl rfl rfl hst ?_;refine hK _ _ (fun h=>absurd rfl h) ?_;clear hK K;(try go_frame);refine tkd ?_;have hSF:=hS4.setRow (g:=c) ⟨px.map (Value.int .u8)⟩ (.inr hcl);(go_wp2_with fail);go_meet;exact⟨c,px,hpx,rfl,hcl,hcx,hSF⟩
  refine wp_yieldR (d:=some 10) rfl (exec_alloc rfl (HA1.out Y)) ?_;have hc:=heap_alloc_new Y (.cells zeroCells66 66);have hSz:=hS.size;have hS2:=hS.alloc (.cells zeroCells66 66);have hgc:Y.heap.size<(Y.alloc (.cells zeroCells66 66)).heap.size:=by simp
  generalize Y.alloc (.cells zeroCells66 66)=Z at *;generalize Y.heap.size=c at *;refine hK _ _ (fun _=>hS2) ?_;clear hK K;try go_frame
  have hcl:W1.heap.size≤c:=hSz;refine tk1 1 fun K hK=>?_;go_simp;refine (HOF.out _ (T0.trans (TW.trans hS2))).mono ?_;rintro e w2 ⟨⟨A2,n2,cp2,ts2,rfl,hT2,hn2⟩,ht2⟩;have hS3:=hS2.trans ht2;refine hK _ _ (fun _=>hS3) ?_;clear hK K;try go_frame
  have hgc2:=Nat.lt_of_lt_of_le hgc ht2.size;have hc:=(ht2.old c hgc (by simp)).trans hc;refine tk1 3 fun K hK=>?_;go_simp;refine (HTI.out ts2 A2 n2 cp2 hn2 p q _ hT2).mono ?_;rintro e w3 ⟨⟨px,hpx,rfl⟩,ht3⟩;have hS4:=hS3.trans ht3;refine hK _ _ (fun _=>hS4) ?_;clear hK K;try go_frame
  have hc:=(ht3.old c hgc2 (by simp)).trans hc;refine tk1 5 fun K hK=>?_;obtain⟨hst,hcx⟩:=HST.out w3 c px hpx hc;refine wp_storeR (d:=none) rfl 66 (.tmp 10) (.tmp 17) rfl rfl rfl hst ?_;refine hK _ _ (fun h=>absurd rfl h) ?_;clear hK K;try go_frame
  refine tkd ?_;have hSF:=hS4.setRow (g:=c) ⟨px.map (Value.int .u8)⟩ (.inr hcl);go_wp2_with fail
  go_meet;exact⟨c,px,hpx,rfl,hcl,hcx,hSF⟩
 obtain⟨c,px,hpx,rfl,hcl,hcx,hTX⟩:=hcut;have TX:=TW.trans hTX;have HLX:Hid (∀u,Turn [] wc u→(Instr.loadAt 66 (.pointer (some ⟨c,0,none⟩))).run prog u=.ok (tv px) u):=lh fun u T=>HLO.out u c px hpx ((T.old c (Array.getElem?_eq_some_iff.1 hcx).1 (by simp)).trans hcx);go_upto_region 3 with (fail)
 refine AnyTill.start (fun u=>Turn [] wc u) 16 (by kernel_rfl) ?_;have hS:=(tR wc).drawn 1;change Turn [] wc wc.drew at hS;generalize wc.drew=Y at *;refine tk 0 17 18 (.agg #[.slice A n cap]) hS ?_ (hy:=fun w' hw=>by have e0:=D0.out _ (TX.trans hw);go_simp);try go_frame
 refine tk 1 17 19 (.agg #[p,q]) hS ?_ (hy:=fun w' hw=>by obtain⟨e1,e2⟩:=D1.out _ (hTX.trans hw);go_simp);try go_frame
 refine tk 2 17 20 (tv px) hS ?_ rfl (hy:=fun w' hw=>exec_load rfl rfl (HLX.out w' hw));try go_frame
 refine tk 3 17 21 x hS ?_;try go_frame
 refine tk 4 17 22 (.pointer (some ⟨b9,0,none⟩)) hS ?_;try go_frame
 refine tk 5 17 23 p hS ?_ (hy:=fun w' hw=>by obtain⟨e1,e2⟩:=D1.out _ (hTX.trans hw);go_simp);try go_frame
 refine tk 6 17 24 (.int .i64 (IntKind.i64.wrap (8*p))) hS ?_;try go_frame
 refine tk 7 17 25 (.int .i64 (IntKind.i64.wrap (x - IntKind.i64.wrap (8*p)))) hS ?_;try go_frame
 refine tk 8 17 26 y hS ?_;try go_frame
 refine tk 9 17 27 (.pointer (some ⟨b9,1,none⟩)) hS ?_;try go_frame
 refine tk 10 17 28 q hS ?_ (hy:=fun w' hw=>by obtain⟨e1,e2⟩:=D1.out _ (hTX.trans hw);go_simp);try go_frame
 refine tk 11 17 29 (.int .i64 (IntKind.i64.wrap (8*q))) hS ?_;try go_frame
 refine tk 12 17 30 (.int .i64 (IntKind.i64.wrap (y - IntKind.i64.wrap (8*q)))) hS ?_;try go_frame
 refine tk 13 17 31 (.agg #[.int .u8 r,.int .u8 g,.int .u8 b,.int .u8 a]) hS ?_ (hy:=fun w' hw=>by obtain⟨e1,e2,e3,e4⟩:=D5.out _ (TX.trans hw);go_simp);try go_frame
 refine tk1 14 fun K hK=>?_;go_simp;refine (HSE.out px hpx _ _ _).mono ?_;rintro e w5 ⟨⟨px2,hpx2,rfl⟩,ht5⟩;have hS5:=hS.trans ht5;refine hK _ _ (fun _=>hS5) ?_;clear hK K;try go_frame
 refine tk1 15 fun K hK=>?_;go_simp;refine (HPU.out px2 hpx2 p q _ (T0.trans (TX.trans hS5))).mono ?_;rintro e w6 ⟨hG,ht6⟩;have hS6:=hS5.trans ht6;obtain⟨A9,n9,cp9,ts9,E,hT9⟩:=hG;refine hK _ _ (fun _=>hS6) ?_;clear hK K;try go_frame
 have TF:=TX.trans hS6;obtain⟨hc,hf⟩:=tcell TF;have HT9:=lh hT9;clear hT9;refine tk1 16 fun K hK=>?_;have y0:=tq hc z0;have y1:=tq hc z1;go_simp;refine hK _ _ (fun h=>absurd rfl h) ?_;clear hK K;try go_frame
 refine tkd ?_;go_wp2_with fail
 have hTT:Turn [] w ((w6.setCell ⟨w.heap.size+2,0,none⟩ (.slice A9 n9 cp9)).setCell ⟨w.heap.size+2,1,none⟩ E):=((T0.trans TF).sc).sc;exact bodyPost_ret (v:=.agg #[.slice A9 n9 cp9,E]) (by simp [results,results34,go_sem,y0,y1]) rfl ⟨.mk _ _ _ ts9 _ ((HT9.out.thin (HTH.out _ TF) _ _).thin ((HTH.out _ TF).setCell _ _) _ _),hTT⟩
end Go.Proofs.YtbpklgllihhgpaaGreat
