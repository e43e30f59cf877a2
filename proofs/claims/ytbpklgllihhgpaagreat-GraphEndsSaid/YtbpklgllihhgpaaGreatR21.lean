import Derived.Test.YtbpklgllihhgpaaGreatR19
import Derived.Test.YtbpklgllihhgpaaGreatR20
set_option maxRecDepth 100000
set_option maxHeartbeats 16000000
namespace Go.Proofs.YtbpklgllihhgpaaGreat
open Tryz Go.RowKit Go.Den
structure LayerM where
 id:Int
 kind:Int
 name:ByteArray
 hidden:Bool
 opacity:Int
 mode:Int
 clip:Bool
 place:Af
 space:Int
 kidA:Option Addr
 kidn:Nat
 kidc:Nat
 kids:List Int
 of:Int
 filt:Fv
 ks:List Int
 cs:List Int
 f0:Int
 f1:Int
 f2:Int
 f3:Int
 pA:Option Addr
 pn:Nat
 pc:Nat
 pts:List (Int×Int)
 tA:Option Addr
 tn:Nat
 tc:Nat
 tiles:List TileM
 hasMask:Bool
 mA:Option Addr
 mn:Nat
 mc:Nat
 mask:List TileM
def LayerM.row(l:LayerM): List Value:=
 [l.id,l.kind,.string l.name,.bool l.hidden,l.opacity,l.mode,.bool l.clip,
  l.place.a,l.place.b,l.place.c,l.place.d,l.place.e,l.place.f,l.place.den,
  l.space,.slice l.kidA l.kidn l.kidc,l.of,
  l.filt.kind,l.filt.radius,.slice l.filt.kA l.filt.kn l.filt.kc,l.filt.div,l.filt.value,.slice l.filt.cA l.filt.cn l.filt.cc,
  .int .u8 l.f0,.int .u8 l.f1,.int .u8 l.f2,.int .u8 l.f3,.slice l.pA l.pn l.pc,.slice l.tA l.tn l.tc,.bool l.hasMask,.slice l.mA l.mn l.mc]
def LayerM.v(l:LayerM): Value:=.agg ⟨l.row⟩
structure LayerM.At(l:LayerM)(w:World): Prop where
 kids:IntsAt w l.kidA l.kidn l.kids
 ks:IntsAt w l.filt.kA l.filt.kn l.ks
 cs:IntsAt w l.filt.cA l.filt.cn l.cs
 pts:PtsAt w l.pA l.pn l.pts
 tiles:TilesAt w l.tA l.tn l.tiles
 mask:TilesAt w l.mA l.mn l.mask
 kidb:l.kidn≤50
theorem LayerM.At.turn{l:LayerM}{w w':World}(h:l.At w)(T:Turn [] w w'): l.At w':=
 ⟨h.kids.turn T,h.ks.turn T,h.cs.turn T,h.pts.turn T,h.tiles.turn T,h.mask.turn T,h.kidb⟩
def LayersAt(w:World)(A:Option Addr)(n:Nat)(ls:List LayerM): Prop:=n=ls.length∧∀j l,ls[j]?=some l→l.At w∧∃g o,A=some ⟨g,o,none⟩∧w.rangeAt g (o+j*31) l.row
theorem LayersAt.turn{w w':World}{A:Option Addr}{n:Nat}{ls:List LayerM}(h:LayersAt w A n ls)(T:Turn [] w w'): LayersAt w' A n ls:=by refine⟨h.1,fun j l hl=>?_⟩;obtain⟨h1,g,o,h2,h3⟩:=h.2 j l hl;exact⟨h1.turn T,g,o,h2,range_turn T h3⟩
structure SpaceM where
 a0:Option Addr
 n0:Nat
 c0:Nat
 l0:List Int
 a1:Option Addr
 n1:Nat
 c1:Nat
 l1:List Int
 a2:Option Addr
 n2:Nat
 c2:Nat
 l2:List Int
 mTo:List Int
 mFr:List Int
def SpaceM.row(s:SpaceM): List Value:=.slice s.a0 s.n0 s.c0 :: .slice s.a1 s.n1 s.c1 :: .slice s.a2 s.n2 s.c2 :: (s.mTo.map (Value.int .i64) ++ s.mFr.map (Value.int .i64))
structure SpaceM.At(s:SpaceM)(w:World): Prop where
 h1:s.mTo.length=9
 h2:s.mFr.length=9
 l0:IntsAt w s.a0 s.n0 s.l0
 l1:IntsAt w s.a1 s.n1 s.l1
 l2:IntsAt w s.a2 s.n2 s.l2
theorem SpaceM.At.turn{s:SpaceM}{w w':World}(h:s.At w)(T:Turn [] w w'): s.At w':=⟨h.h1,h.h2,h.l0.turn T,h.l1.turn T,h.l2.turn T⟩
def SpacesAt(w:World)(A:Option Addr)(n:Nat)(ss:List SpaceM): Prop:=n=ss.length∧∀j s,ss[j]?=some s→s.At w∧∃g o,A=some ⟨g,o,none⟩∧w.rangeAt g (o+j*21) s.row
theorem SpacesAt.turn{w w':World}{A:Option Addr}{n:Nat}{ss:List SpaceM}(h:SpacesAt w A n ss)(T:Turn [] w w'): SpacesAt w' A n ss:=by refine⟨h.1,fun j l hl=>?_⟩;obtain⟨h1,g,o,h2,h3⟩:=h.2 j l hl;exact⟨h1.turn T,g,o,h2,range_turn T h3⟩
structure DocM where
 sA:Option Addr
 sn:Nat
 sc:Nat
 spaces:List SpaceM
 root:Int
 next:Int
 lA:Option Addr
 ln:Nat
 lc:Nat
 layers:List LayerM
def DocM.v(d:DocM): Value:=.agg #[.slice d.sA d.sn d.sc,d.root,d.next,.slice d.lA d.ln d.lc]
structure DocM.At(d:DocM)(w:World): Prop where
 spaces:SpacesAt w d.sA d.sn d.spaces
 layers:LayersAt w d.lA d.ln d.layers
 small:d.ln≤50
theorem DocM.At.turn{d:DocM}{w w':World}(h:d.At w)(T:Turn [] w w'): d.At w':=⟨h.spaces.turn T,h.layers.turn T,h.small⟩
theorem LayersAt.cell{w:World}{A:Option Addr}{n:Nat}{ls:List LayerM}(h:LayersAt w A n ls)(h1:1≤n): ∃g o,A=some ⟨g,o,none⟩∧∀w',Turn [] w w'→∀j l,ls[j]?=some l→l.At w'∧w'.rangeAt g (o+j*31) l.row:=by
 have hl:0<ls.length:=by have:=h.1;omega
 obtain⟨_,g,o,rfl,_⟩:=h.2 0 ls[0] (by simp [hl]);refine⟨g,o,rfl,fun w' T j l hj=>?_⟩;obtain⟨a,g',o',e,b⟩:=h.2 j l hj;injection e with e;injection e with e1 e2 e3;subst e1;subst e2;exact⟨a.turn T,range_turn T b⟩
def atN(ids:List Int)(id:Int): Option Nat:=ids.findIdx? (· == id)
def atM(ids:List Int)(id:Int): Int:=match atN ids id with | some i=>i | none=>-1
def DocM.ids(d:DocM): List Int:=d.layers.map (·.id)
theorem atN_some{ids:List Int}{id:Int}{k:Nat}(hk:ids[k]?=some id)(hb:∀i,i<k→ids[i]?≠some id): atN ids id=some k:=by unfold atN;obtain⟨h1,h2⟩:=List.getElem?_eq_some_iff.1 hk;rw [List.findIdx?_eq_some_iff_getElem];refine⟨h1,by simp [h2],fun j hj=>?_⟩;have:=hb j hj;rw [List.getElem?_eq_getElem (by omega)]at this;simpa using this
theorem atN_none{ids:List Int}{id:Int}(hb:∀i,i<ids.length→ids[i]?≠some id): atN ids id=none:=by unfold atN;rw [List.findIdx?_eq_none_iff];intro x hx;obtain⟨i,hi⟩:=List.mem_iff_getElem?.1 hx;have h1:=(List.getElem?_eq_some_iff.1 hi).1;have:=hb i h1;rw [hi]at this;simpa using this
theorem DocM.ids_cell{d:DocM}{w:World}(h:d.At w)(h1:1≤d.ln): ∃g o,d.lA=some ⟨g,o,none⟩∧∀k,k<d.ln→∃z,d.ids[k]?=some z∧∀w',Turn [] w w'→w'.cell? ⟨g,o+k*31,none⟩=some (.int .i64 z):=by
 obtain⟨g,o,e,hA⟩:=h.layers.cell h1;refine⟨g,o,e,fun k hk=>?_⟩;have hk':k<d.layers.length:=by have:=h.layers.1;omega
 refine⟨d.layers[k].id,by simp [DocM.ids,hk'],fun w' T'=>?_⟩;simpa using (hA w' T' k d.layers[k] (by simp [hk'])).2 0 _ rfl
theorem ref_at(d:DocM)(id:Int)(w:World)(h:d.At w): Calls prog 20 #[d.v,id] w fun e w'=>e=.returned (.int .i64 (atM d.ids id))∧Turn [] w w':=by
 have hC:1≤d.ln→_:=fun h1=>DocM.ids_cell h h1;have hlen:d.ids.length=d.ln:=by rw [h.layers.1];simp [DocM.ids]
 have hsm:=h.small;generalize hI:d.ids=ids at *;obtain⟨sA,sn,sc,spaces,root,next,lA,ln,lc,layers⟩:=d;simp only [DocM.v]at *;have T:=(tR w).alloc (.cells #[.slice sA sn sc,root,next,.slice lA ln lc] 29);have HC:=lh hC;have HN:=lh hlen;clear hC hlen hI h;go_enter func20,ntmps20;go_wp2_with fail
 have hc3:(w.alloc (.cells #[.slice sA sn sc,root,next,.slice lA ln lc] 29)).cell? ⟨w,3,none⟩=some (.slice lA ln lc):=by simp [go_sem]
 generalize w.alloc (.cells #[.slice sA sn sc,root,next,.slice lA ln lc] 29)=W at *;go_loop [5] (fun s5=>∃k:Nat,k≤ln∧s5=k∧∀i,i<k→ids[i]?≠some id) (fun s5=>ln - (intOf s5).toNat);case atStart=>exact⟨0,by omega,rfl,fun i hi=>absurd hi (Nat.not_lt_zero i)⟩
 obtain⟨k,hk,rfl,hall⟩:=hrel;have HALL:=lh hall;clear hall;by_cases hlt:k<ln
 ·obtain⟨g,o,rfl,hA⟩:=HC.out (by omega);obtain⟨z,hz,hcell⟩:=hA k hlt;have hcell:=hcell W T;have HZ:=lh hz;clear hz hA;have b0:(0:Int)≤(k:Int):=by omega
  have b1:(k:Int)<(ln:Int):=by omega
  by_cases h0:z=id
  ·subst h0;(go_wp2_with fail);go_ret;exact⟨by rw [atM,atN_some HZ.out HALL.out];rfl,T⟩
  go_wp2_with fail
  go_round;case rel=>exact⟨k+1,by omega,by go_num,fun i hi=>by
   by_cases h:i<k
   ·exact HALL.out i h
   obtain rfl:i=k:=(by omega);rw [HZ.out];exact fun e=>h0 (Option.some.inj e)⟩
  simp [intOf];omega
 obtain rfl:k=ln:=by omega
 go_wp2_with fail
 go_ret;exact⟨by rw [atM,atN_none (fun i hi=>HALL.out i (by have:=HN.out;omega))];rfl,T⟩
theorem IntsAt.cell{w:World}{A:Option Addr}{n:Nat}{c:List Int}(h:IntsAt w A n c)(h1:1≤n): ∃g o,A=some ⟨g,o,none⟩∧∀w',Turn [] w w'→∀j,j<n→w'.cell? ⟨g,o+j,none⟩=some (.int .i64 (c.getD j 0)):=by obtain⟨g,o,rfl,_⟩:=h.2 0 (by omega);refine⟨g,o,rfl,fun w' T j hj=>?_⟩;obtain⟨g',o',e,hc⟩:=h.2 j hj;injection e with e;injection e with e1 e2 e3;subst e1;subst e2;rw [(tcell T).1 _ _ (block_lt_of_cell hc)];exact hc
theorem ref_has(c:List Int)(x:Int)(A:Option Addr)(n cap:Nat)(hb:n≤1000000000)(w:World)(h:IntsAt w A n c):
  Calls prog 73 #[.slice A n cap,x] w fun e w'=>e=.returned (.bool (decide (x∈c)))∧w'=w:=by
 have hn:=h.1;have hC:=fun h1=>h.cell h1;have HC:=lh hC;have HN:=lh hn;clear hC hn h;go_enter func73,ntmps73;go_wp2_with fail
 go_loop [5] (fun s5=>∃k:Nat,k≤n∧s5=k∧∀i,i<k→c.getD i 0≠x) (fun s5=>n - (intOf s5).toNat);case atStart=>exact⟨0,by omega,rfl,fun i hi=>absurd hi (Nat.not_lt_zero i)⟩
 obtain⟨k,hk,rfl,hall⟩:=hrel;have HALL:=lh hall;clear hall;by_cases hlt:k<n
 ·obtain⟨g,o,rfl,hA⟩:=HC.out (by omega);have hcell:=hA w (tR w) k hlt;clear hA;have hmem:c.getD k 0∈c:=by have:k<c.length:=(by have:=HN.out;omega);simp [List.getD,this]
  have HM:=lh hmem;clear hmem;generalize hz:c.getD k 0=z at *;have HZ:=lh hz;clear hz;have b0:(0:Int)≤(k:Int):=by omega
  have b1:(k:Int)<(n:Int):=by omega
  by_cases h0:z=x
  ·subst h0;(go_wp2_with fail);go_ret;exact⟨by rw [decide_eq_true HM.out];rfl,rfl⟩
  go_wp2_with fail
  go_round;case rel=>exact⟨k+1,by omega,by go_num,fun i hi=>by
   by_cases h:i<k
   ·exact HALL.out i h
   obtain rfl:i=k:=(by omega);rw [HZ.out];exact h0⟩
  simp [intOf];omega
 obtain rfl:k=n:=by omega
 go_wp2_with fail
 go_ret;refine⟨?_,rfl⟩;rw [decide_eq_false]
 ·rfl
 intro hm;obtain⟨j,hj,rfl⟩:=List.getElem_of_mem hm;exact HALL.out j (by have:=HN.out;omega) (by simp [List.getD,hj])
theorem layer_param(l:LayerM)(u:World)(ty:TypeId): (u.alloc (.cells ⟨l.row⟩ ty)).rangeAt u.heap.size 0 l.row:=by intro j v hv;rw [cell_of_row _ _ _ _ ty (0,0) (heap_alloc_new u _),Nat.zero_add,←hv];show (l.row.toArray)[j]?=_;rw [List.getElem?_toArray]
theorem atk{W:World}{b:Nat}{L:List Value}(h:W.rangeAt b 0 L)(k:Nat)(v:Value)(e:L[k]?=some v): W.cell? ⟨b,k,none⟩=some v:=by simpa using h k v e
theorem ref_parts(l:LayerM)(w:World): Calls prog 113 #[l.v] w fun e w'=>e=.returned (if l.kind=4 then .slice (some ⟨w.heap.size+1,0,none⟩) 1 1 else .slice l.kidA l.kidn l.kidc)∧Turn [] w w'∧(l.kind=4→w'.cell? ⟨w.heap.size+1,0,none⟩=some (.int .i64 l.of)):=by
 have hp:=layer_param l w 89;have p1:=atk hp 1 l.kind rfl;have p15:=atk hp 15 (.slice l.kidA l.kidn l.kidc) rfl;have p16:=atk hp 16 l.of rfl;have T:=(tR w).alloc (.cells ⟨l.row⟩ 89);clear hp;unfold LayerM.v;generalize l.row=row at *;have hs:(w.alloc (.cells ⟨row⟩ 89)).heap.size=w.heap.size+1:=by show (w.heap.push _).size=_;simp
 by_cases h:l.kind=4
 ·rw [if_pos h];rw [h]at p1;go_enter func113,ntmps113;go_wp2_with fail
  go_ret;refine⟨rfl,T.alloc _,fun _=>?_⟩;rw [←hs,cell_of_row _ _ _ _ 3 (0,0) (heap_alloc_new _ _)];rfl
 rw [if_neg h];go_enter func113,ntmps113;go_wp2_with fail
 go_ret;exact⟨rfl,T,fun h2=>absurd h2 h⟩
noncomputable def ZL:Array Value:=match (prog.info? 89).map (fun i=>i.zero)with | some (some (Value.agg cs))=>cs | _=>#[]
inductive IsPos:Ending→Prop where
 | mk (a b:Int) (c:Bool):IsPos (.returned (.agg #[a,b,.bool c]))
theorem infoL:(prog.info? 89).map (fun i=>(i.zero,i.size))=some (some (.agg ZL),31):=by kernel_rfl
theorem sizeZL:ZL.size=31:=by kernel_rfl
theorem LayerM.row_len(l:LayerM): l.row.length=31:=rfl
theorem LayerM.row_one(l:LayerM): (⟨l.row⟩:Array Value).all (·.oneCell')=true:=by refine all_oneCell_toArray (cs:=l.row) fun v hv=>?_;unfold LayerM.row at hv;simp only [List.mem_cons,List.not_mem_nil,or_false]at hv;rcases hv with h | h | h | h | h | h | h | h | h | h | h | h | h | h | h | h | h | h | h | h | h | h | h | h | h | h | h | h | h | h | h <;> subst h <;> rfl
theorem layer_copy(l:LayerM)(u:World): (Instr.storeAt 89 (.pointer (some ⟨u,0,none⟩)) (.agg ⟨l.row⟩)).run prog (u.alloc (.cells ZL 89))=.ok () (u.alloc (.cells ⟨l.row⟩ 89)):=
 run_storeAt_new u 89 ZL ⟨l.row⟩ (zero_of_info infoL).2 (by rw [sizeZL];rfl) l.row_one
theorem layer_alloc(u:World): (Instr.alloc 89 true (.tuple #[])).run prog u=.ok (.pointer (some ⟨u,0,none⟩)) (u.alloc (.cells ZL 89)):=by unfold Instr.alloc;rw [Sem.run_bind,(zero_of_info infoL).1];rfl
theorem ref_parent(d:DocM)(id:Int)(w:World)(h:d.At w): Calls prog 96 #[d.v,id] w fun e w'=>IsPos e∧Turn [] w w':=by
 have hL:=h.layers;have hsm:=h.small;have hn:=hL.1;have hC:=fun h1=>hL.cell h1;clear h hL;obtain⟨sA,sn,sc,spaces,root,next,lA,ln,lc,layers⟩:=d;simp only [DocM.v]at *;have HC:=lh hC;have HN:=lh hn;clear hC hn;go_enter func96,ntmps96;go_wp2_with fail
 obtain⟨W,hW⟩:∃W,W=(w.alloc (.cells #[.slice sA sn sc,root,next,.slice lA ln lc] 29)).alloc (.cells #[(0:Int),(0:Int),.bool false] 168):=⟨_,rfl⟩;have TW:Turn [] w W:=hW ▸ ((tR w).alloc _).alloc _;have w3:=cAt 3 (al2 hW).1 rfl;obtain⟨z0,z1,z2⟩:=cs3 (al2 hW).2;have zf:∀i,W.frozen? ⟨w.heap.size+1,i,none⟩=false:=fun i=>by rw [hW];simp [go_sem]
 rw [←hW];go_loopw [5] (fun s5 wr=>∃k:Nat,k≤ln∧s5=k∧Turn [] W wr) (fun s5 _=>ln - (intOf s5).toNat);case atStart=>exact⟨0,by omega,rfl,tR W⟩
 obtain⟨k,hk,rfl,T⟩:=hrel;have T1:=TW.trans T;have w3:wr.cell? ⟨w,3,none⟩=some (.slice lA ln lc):=by rw [(tcell T).1 _ _ (block_lt_of_cell w3)];exact w3
 have hb1:=block_lt_of_cell z0;have z0:wr.cell? ⟨w.heap.size+1,0,none⟩=some (.int .i64 0):=by rw [(tcell T).1 _ _ hb1];exact z0
 have z1:wr.cell? ⟨w.heap.size+1,1,none⟩=some (.int .i64 0):=by rw [(tcell T).1 _ _ hb1];exact z1
 have z2:wr.cell? ⟨w.heap.size+1,2,none⟩=some (.bool false):=by rw [(tcell T).1 _ _ hb1];exact z2
 have zf:∀i,wr.frozen? ⟨w.heap.size+1,i,none⟩=false:=fun i=>by rw [(tcell T).2 _ _ hb1];exact zf i
 by_cases hlt:k<ln
 ·obtain⟨g,o,rfl,hA⟩:=HC.out (by omega);have hls:k<layers.length:=by have:=HN.out;omega
  obtain⟨l,hl⟩:∃l,layers[k]?=some l:=⟨layers[k],by simp [hls]⟩;obtain⟨hAt,hR⟩:=hA wr T1 k l hl;have hiL:(prog.info? 89).map (·.size)=some l.row.length:=(zero_of_info infoL).2;have hst:=layer_copy l wr;have hal:=layer_alloc wr;have b0:(0:Int)≤(k:Int):=by omega
  have b1:(k:Int)<(ln:Int):=by omega
  have hp:=layer_param l wr 89;have p0:=atk hp 0 l.id rfl;have p1:=atk hp 1 l.kind rfl;have p15:=atk hp 15 (.slice l.kidA l.kidn l.kidc) rfl;have TL:=(tR wr).alloc (.cells ⟨l.row⟩ 89);have hkids:=hAt.kids;have hkb:=hAt.kidb;clear hp hAt hA hl hls;generalize l.row=row at *;generalize l.kidA=kA at *;generalize l.kidn=kn at *;generalize l.kidc=kc at *;have HK:=lh hkids;clear hkids;go_wp2_with (first
   | (refine wpList_load_mid rfl 89 _ rfl _ _ rfl _ _ hR underlying89 rfl hiL ?_)
   | (refine wpList_store_run rfl 89 _ _ rfl rfl rfl hst ?_))
  have hbw:=block_lt_of_cell z0;have y0:(wr.alloc (.cells ⟨row⟩ 89)).cell? ⟨w.heap.size+1,0,none⟩=some (.int .i64 0):=by rw [(tcell TL).1 _ _ hbw];exact z0
  have y1:(wr.alloc (.cells ⟨row⟩ 89)).cell? ⟨w.heap.size+1,1,none⟩=some (.int .i64 0):=by rw [(tcell TL).1 _ _ hbw];exact z1
  have y2:(wr.alloc (.cells ⟨row⟩ 89)).cell? ⟨w.heap.size+1,2,none⟩=some (.bool false):=by rw [(tcell TL).1 _ _ hbw];exact z2
  have yf:∀i,(wr.alloc (.cells ⟨row⟩ 89)).frozen? ⟨w.heap.size+1,i,none⟩=false:=fun i=>by rw [(tcell TL).2 _ _ hbw];exact zf i
  have TK:Turn [] W (wr.alloc (.cells ⟨row⟩ 89)):=T.trans TL;have TX:Turn [] w (wr.alloc (.cells ⟨row⟩ 89)):=T1.trans TL;have HK2:Hid (IntsAt (wr.alloc (.cells ⟨row⟩ 89)) kA kn l.kids):=lh (HK.out.turn TL);clear z0 z1 z2 zf hst hal hR hiL w3 HK;generalize wr.heap.size=b at *;generalize wr.alloc (.cells ⟨row⟩ 89)=V at *;clear TL T T1;go_loopw [7] (fun s7 v=>∃j:Nat,j≤kn∧s7=j∧v=V) (fun s7 _=>kn - (intOf s7).toNat);case atStart=>exact⟨0,by omega,rfl,rfl⟩
  obtain⟨j,hj,rfl,rfl⟩:=hrel;by_cases hjl:j<kn
  ·obtain⟨g2,o2,rfl,hA2⟩:=HK2.out.cell (by omega);have hcell:=hA2 _ (tR _) j hjl;clear hA2;generalize l.kids.getD j 0=q at *;have c0:(0:Int)≤(j:Int):=(by omega);have c1:(j:Int)<(kn:Int):=(by omega);by_cases hk2:l.kind=2
   ·rw [hk2]at p1;by_cases hq:q=id
    ·subst hq;(go_wp2_with fail);refine bodyPost_ret (v:=.agg #[l.id,j,.bool true]) (by simp [results,results96,go_sem,y0,y1,y2]) rfl ⟨.mk _ _ _,?_⟩;exact ((TX.sc).sc).sc
    (go_wp2_with fail);go_roundw;case rel=>exact⟨j+1,by omega,by go_num,by first | rfl | trivial⟩
    simp [intOf];omega
   (go_wp2_with fail);exact⟨⟨k+1,by omega,by go_num,TK⟩,by simp [intOf];omega⟩
  obtain rfl:j=kn:=by omega
  go_wp2_with fail
  exact⟨⟨k+1,by omega,by go_num,TK⟩,by simp [intOf];omega⟩
 obtain rfl:k=ln:=by omega
 go_wp2_with fail
 refine bodyPost_ret (v:=.agg #[(0:Int),(0:Int),.bool false]) (by simp [results,results96,go_sem,z0,z1,z2]) rfl ⟨.mk _ _ _,?_⟩;exact ((T1.sc).sc).sc
def Il(w:World)(base:Nat)(v:Value)(xs:List Int): Prop:=SRow w base 3 1 v xs.length (xs.map (Value.int .i64))
theorem infoI:(prog.info? 3).map (fun i=>(i.zero,i.size,i.bytes))=some (some (.int .i64 0),1,8):=by kernel_rfl
theorem infoI':∃i,prog.info? 3=some i∧i.zero=some (.int .i64 0)∧i.size=1∧i.bytes=8:=by
 have h:=infoI;cases hi:prog.info? 3 with
 | none=>rw [hi]at h;cases h
 | some i=>
  rw [hi]at h;simp only [Option.map_some,Option.some.injEq,Prod.mk.injEq]at h;exact⟨i,rfl,h.1,h.2.1,h.2.2⟩
theorem Il.form{w:World}{base:Nat}{v:Value}{xs:List Int}(h:Il w base v xs): (v=.slice none 0 0∧xs=[])∨∃g o cap,v=.slice (some ⟨g,o,none⟩) xs.length cap∧base≤g∧g<w.heap.size∧xs.length≤cap∧∀j,j<xs.length→w.cell? ⟨g,o+j,none⟩=some (.int .i64 (xs.getD j 0)):=by
 rcases h.2 with ⟨rfl,h0⟩ | ⟨g,off,cap,arr,rfl,hb,hh,hn,hm,hs,hx⟩
 ·exact .inl ⟨rfl,List.eq_nil_of_length_eq_zero h0⟩
 refine .inr ⟨g,off,cap,rfl,hb,(Array.getElem?_eq_some_iff.1 hh).1,hn,fun j hj=>?_⟩;rw [cell_of_row w g (off+j) arr 3 (0,0) hh];exact hx j _ (by simp [List.getD,hj])
theorem Il.ints{w:World}{base:Nat}{v:Value}{xs:List Int}(h:Il w base v xs): ∃A n cap,v=.slice A n cap∧IntsAt w A n xs:=by
 rcases h.form with ⟨rfl,rfl⟩ | ⟨g,o,cap,rfl,_,_,_,hc⟩
 ·exact⟨none,0,0,rfl,rfl,fun j hj=>absurd hj (Nat.not_lt_zero j)⟩
 exact⟨some ⟨g,o,none⟩,xs.length,cap,rfl,rfl,fun j hj=>⟨g,o,rfl,hc j hj⟩⟩
theorem Il.turn{w w':World}{base:Nat}{v:Value}{xs:List Int}(h:Il w base v xs)(T:Turn [] w w'): Il w' base v xs:=
 h.keep fun g hg=>T.old g (h.lt g hg).2.1 (by simp)
theorem app_ints{w:World}{base:Nat}{v:Value}{xs c:List Int}(h:Il w base v xs){A:Option Addr}{n cap:Nat}(hi:IntsAt w A n c)(hb:base≤w.heap.size)(h1:xs.length+n≤1000000)(ty:TypeId):
  ∃v' w',(Builtin.append_ #[22,22] ty #[v,.slice A n cap]).run prog w=.ok v' w'∧Il w' base v' (xs ++ c)∧Turn (blks v) w w'∧(∀g∈blks v',g∈blks v∨w.heap.size≤g):=by
 obtain⟨i,hI,iz,is,ib⟩:=infoI';have hn:=hi.1;by_cases h0:n=0
 ·subst h0;have hc:c=[]:=List.eq_nil_of_length_eq_zero hn.symm;subst hc;rw [List.append_nil];refine⟨v,w,?_,h,Turn.refl _ w,fun g hg=>.inl hg⟩;rcases h.form with ⟨rfl,rfl⟩ | ⟨g,o,cp,rfl,_,_,hle,_⟩
  ·cases A <;> simp [Builtin.append_,run_underlying underlying22,sizeOf,typeInfo,hI,Builtin.lenOf,Builtin.firstCells,loadCells,loadCellsFrom]
  cases A <;> simp [Builtin.append_,run_underlying underlying22,sizeOf,typeInfo,hI,Builtin.lenOf,Builtin.firstCells,hle,storeCells,loadCells,loadCellsFrom]
 obtain⟨g,o,rfl,hcell⟩:=hi.cell (by omega);have hcell:=hcell w (tR w);have hr:=srow_append (P:=prog) (ty:=ty) underlying22 hI iz is ib rfl (by omega) (v:=v) (n:=xs.length) (xs:=xs.map (Value.int .i64)) h ⟨g,o,none⟩ n cap (c.map (Value.int .i64)) (by rw [List.length_map,←hn,Nat.mul_one]) (fun j u hu=>by
  have hj:j<c.length:=by have:=(List.getElem?_eq_some_iff.1 hu).1;simpa using this
  rw [Addr.add_lit];rw [hcell j (by omega),←hu];simp [List.getD,hj]) (fun u hu=>by obtain⟨x,_,rfl⟩:=List.mem_map.1 hu;rfl) (Nat.le_trans h1 (by decide)) (by omega) hb
 obtain⟨v',w',e1,e2,e3,e4⟩:=hr;refine⟨v',w',e1,?_,e3,e4⟩;unfold Il;rw [List.length_append,List.map_append,←hn];exact e2
theorem wpList_app_run{P:Program}{ops:Array Oper}{rest:List Oper}{o:Oper}{a:Act}{w w':World}{Q:Exit→Act→World→Prop}(hg:o.guard=none)(s x:Operand)(t:TypeId){v y v':Value}
  (hop:o.op=Op.call { callee:=Callee.builtin Builtin.append,args:=#[s,x],argTypes:=#[t,t] }) (hs:a.eval s=v) (hx:a.eval x=y)
  (hrun:(Builtin.append_ #[t,t] o.type #[v,y]).run P w=.ok v' w') (K:wpList P ops Q rest (a.put o.dst v') w'):wpList P ops Q (o :: rest) a w:=by
 refine wpList_plain hg fun K' hK'=>?_;unfold Oper.wp;simp [execOp,hop,resolve,invoke,builtin,hs,hx,hrun,Result.andThen];exact hK' _ _ K
theorem wpList_ints{ops:Array Oper}{rest:List Oper}{o:Oper}{a:Act}{w:World}{Q:Exit→Act→World→Prop}(hg:o.guard=none)(s x:Operand)
  (hop:o.op=Op.call { callee:=Callee.builtin Builtin.append,args:=#[s,x],argTypes:=#[22,22] }) {base:Nat} {v:Value} {xs c:List Int} (hs:a.eval s=v) (h:Il w base v xs) {A:Option Addr} {n cap:Nat}
  (hx:a.eval x=.slice A n cap) (hi:IntsAt w A n c) (hb:base≤w.heap.size) (h1:xs.length+n≤1000000)
  (K:∀v' w',Il w' base v' (xs ++ c)→Turn (blks v) w w'→(∀g∈blks v',g∈blks v∨w.heap.size≤g)→wpList prog ops Q rest (a.put o.dst v') w'):wpList prog ops Q (o :: rest) a w:=by
 obtain⟨v',w',hrun,r1,r2,r3⟩:=app_ints h hi hb h1 o.type;exact wpList_app_run hg s x 22 hop hs hx hrun (K v' w' r1 r2 r3)
theorem il_empty(u:World): Il (u.alloc (.cells #[] 3)) u.heap.size (.slice (some ⟨u,0,none⟩) 0 0) []:=
 SRow.of_own (World.ownsRow_lit u #[] 0 (Nat.le_refl _) (by decide) rfl)
theorem Il.base{w:World}{base base':Nat}{v:Value}{xs:List Int}(h:Il w base v xs)(hb:base'≤base): Il w base' v xs:=by
 refine⟨h.1,?_⟩;rcases h.2 with h2 | ⟨g,off,cap,arr,h3,h4,h5⟩
 ·exact .inl h2
 exact .inr ⟨g,off,cap,arr,h3,by omega,h5⟩
theorem turn_new{W w w':World}{bs:List Nat}(h:Turn [] W w)(k:Turn bs w w')(hb:∀g∈bs,W.heap.size≤g): Turn [] W w':=
 ⟨Nat.le_trans h.size k.size,fun j hj _=>(k.old j (Nat.lt_of_lt_of_le hj h.size) (fun hm=>by have:=hb j hm;omega)).trans (h.old j hj (by simp)),k.os.trans h.os,k.tape.trans h.tape,k.output.trans h.output⟩
theorem blks_slice(g o n c:Nat): blks (.slice (some ⟨g,o,none⟩) n c)=[g]:=rfl
def partsM(l:LayerM): List Int:=if l.kind=4 then [l.of] else l.kids
def stepsM(ls:List LayerM)(id:Int): List Int:=match atN (ls.map (·.id)) id with | some k=>(match ls[k]? with | some l=>partsM l | none=>[]) | none=>[]
theorem ref_parts_ints(l:LayerM)(w:World)(h:l.At w): Calls prog 113 #[l.v] w fun e w'=>∃A n cap,e=.returned (.slice A n cap)∧IntsAt w' A n (partsM l)∧n≤50∧Turn [] w w':=by
 refine (ref_parts l w).mono ?_;rintro e w' ⟨rfl,T,h4⟩;unfold partsM;by_cases hk:l.kind=4
 ·simp only [hk,if_true];refine⟨_,_,_,rfl,⟨rfl,fun j hj=>?_⟩,by omega,T⟩;obtain rfl:j=0:=by omega
  exact⟨_,_,rfl,h4 hk⟩
 simp only [hk,if_false];exact⟨_,_,_,rfl,h.kids.turn T,h.kidb,T⟩
theorem ref_steps(d:DocM)(id:Int)(w:World)(h:d.At w): Calls prog 112 #[d.v,id,.bool false] w fun e w'=>∃v,e=.returned v∧Il w' w.heap.size v (stepsM d.layers id)∧Turn [] w w':=by
 have hA:=ref_at d id;have hP:=ref_parent d id;have hC:=fun h1=>h.layers.cell h1;have hn:=h.layers.1;have hlen:d.ids.length=d.ln:=by rw [h.layers.1];simp [DocM.ids]
 have HAt:=lh h;have hsm:=h.small;have hid:d.ids=d.layers.map (·.id):=rfl;clear h;generalize d.ids=ids at *;obtain⟨sA,sn,sc,spaces,root,next,lA,ln,lc,layers⟩:=d;simp only [DocM.v]at *;have T0:=(tR w).alloc (.cells #[.slice sA sn sc,root,next,.slice lA ln lc] 29);have w3:(w.alloc (.cells #[.slice sA sn sc,root,next,.slice lA ln lc] 29)).cell? ⟨w,3,none⟩=some (.slice lA ln lc):=by simp [go_sem]
 have HAA:=lh hA;have HPP:=lh hP;have HC:=lh hC;have HN:=lh hn;have HID:=lh hid;clear hA hP hC hn hid;cases hat:atN ids id with
 | none=>
  have hs:stepsM layers id=[]:=by unfold stepsM;rw [←HID.out,hat]
  have ham:atM ids id=-1:=by unfold atM;rw [hat]
  rw [hs];rw [ham]at HAA;go_enter func112,ntmps112;go_wp2_with (go_at_call 20;refine (HAA.out _ (HAt.out.turn (by assumption))).mono ?_;rintro e w1 ⟨rfl,ht1⟩)
  go_ret;exact⟨_,rfl,SRow.nil _ _ _ _,T0.trans ht1⟩
 | some k=>
  have hk:k<ln:=by have:=(List.findIdx?_eq_some_iff_getElem.1 hat).1;omega
  have hls:k<layers.length:=by have:=HN.out;omega
  obtain⟨l,hl⟩:∃l,layers[k]?=some l:=⟨layers[k],by simp [hls]⟩;have hs:stepsM layers id=partsM l:=by unfold stepsM;rw [←HID.out,hat];simp [hl]
  have ham:atM ids id=(k:Int):=by unfold atM;rw [hat]
  rw [hs];rw [ham]at HAA;obtain⟨g,o,rfl,hR⟩:=HC.out (by omega);have HR:Hid (∀w',Turn [] w w'→l.At w'∧w'.rangeAt g (o+k*31) l.row):=lh fun w' T=>hR w' T k l hl;have hiL:(prog.info? 89).map (·.size)=some l.row.length:=(zero_of_info infoL).2;have b0:(0:Int)≤(k:Int):=by omega
  have b1:(k:Int)<(ln:Int):=by omega
  have HPA:=lh (ref_parts_ints l);clear hR hs ham hat hl hls;go_enter func112,ntmps112;go_upto_region 4 with (go_at_call 20;refine (HAA.out _ (HAt.out.turn (by assumption))).mono ?_;rintro e w1 ⟨rfl,ht1⟩)
  have T1:=T0.trans ht1;have hb3:=block_lt_of_cell w3;have TE:=T1.alloc (.cells #[] 3);have TE2:=ht1.alloc (.cells #[] 3);have e3:(w1.alloc (.cells #[] 3)).cell? ⟨w,3,none⟩=some (.slice (some ⟨g,o,none⟩) ln lc):=by rw [(tcell TE2).1 _ _ hb3];exact w3
  obtain⟨hLA,hRR⟩:=HR.out _ TE;have hIE:=il_empty w1;go_upto_region 5 with (first
   | (refine wpList_load_mid rfl 89 _ rfl _ _ rfl _ _ hRR underlying89 rfl hiL ?_)
   | (go_at_call 113;refine (HPA.out _ hLA).mono ?_;rintro e w2 ⟨A2,n2,c2,rfl,hI2,hn2,ht2⟩)
   | (refine wpList_ints rfl _ _ rfl rfl (hIE.turn ht2) rfl hI2 (by have:=ht2.size;simp only [World.size_alloc]at this;omega) (by simp;omega) ?_;intro v' w4 hV hT hB))
  rw [List.nil_append]at hV;have hT:Turn [w1.heap.size] w2 w4:=hT;have hV:=hV.base (base':=w.heap.size) (by have:=T1.size;omega);have hz1:(w.alloc (.cells #[.slice sA sn sc,root,next,.slice (some ⟨g,o,none⟩) ln lc] 29)).heap.size=w.heap.size+1:=by simp only [World.size_alloc]
  have T4:Turn [] (w.alloc (.cells #[.slice sA sn sc,root,next,.slice (some ⟨g,o,none⟩) ln lc] 29)) w4:=turn_new (TE2.trans ht2) hT (fun q hq=>by
   have:q=w1.heap.size:=(by simpa using hq);have:=ht1.size;omega)
  have q0:w4.cell? ⟨w,0,none⟩=some (.slice sA sn sc):=by rw [(tcell T4).1 _ _ hb3];simp [go_sem]
  have q1:w4.cell? ⟨w,1,none⟩=some (.int .i64 root):=by rw [(tcell T4).1 _ _ hb3];simp [go_sem]
  have q2:w4.cell? ⟨w,2,none⟩=some (.int .i64 next):=by rw [(tcell T4).1 _ _ hb3];simp [go_sem]
  have q3:w4.cell? ⟨w,3,none⟩=some (.slice (some ⟨g,o,none⟩) ln lc):=by rw [(tcell T4).1 _ _ hb3];exact w3
  have hAt4:=HAt.out.turn (T0.trans T4);have HV:=lh hV;clear hIE hLA hRR TE TE2 e3 hT hB hV hI2 ht2 ht1 T1 w3;go_wp2_with (go_at_call 96;refine (HPP.out _ hAt4).mono ?_;rintro e w5 ⟨hpos,ht5⟩;cases hpos)
  go_ret;exact⟨_,rfl,HV.out.turn (ht5.alloc _),(T0.trans T4).trans (ht5.alloc _)⟩
inductive Reach(ls:List LayerM): Int→Int→Prop where
 | one {x y:Int} (h:y∈stepsM ls x):Reach ls x y
 | tail {x y z:Int} (h:Reach ls x y) (k:z∈stepsM ls y):Reach ls x z
structure Inv(ls:List LayerM)(id:Int)(xs todo:List Int): Prop where
 nd:xs.Nodup
 rx:∀x∈xs,Reach ls id x
 rt:∀x∈todo,Reach ls id x
 st:∀y∈stepsM ls id,y∈xs∨y∈todo
 cl:∀x∈xs,∀y∈stepsM ls x,y∈xs∨y∈todo
 len:todo.length≤50*(xs.length+1)
def Short(ls:List LayerM): Prop:=ls.length≤50∧∀l∈ls,l.kids.length≤50
theorem parts_short{l:LayerM}(h:l.kids.length≤50): (partsM l).length≤50:=by
 unfold partsM;split
 ·simp
 exact h
theorem steps_parts{ls:List LayerM}{id:Int}: stepsM ls id=[]∨∃l∈ls,stepsM ls id=partsM l:=by
 unfold stepsM;split
 ·split
  ·rename_i k _ l hl;exact .inr ⟨l,List.mem_of_getElem? hl,rfl⟩
  exact .inl rfl
 exact .inl rfl
theorem steps_short{ls:List LayerM}(h:Short ls)(id:Int): (stepsM ls id).length≤50:=by
 rcases steps_parts (ls:=ls) (id:=id)with e | ⟨l,hl,e⟩
 ·rw [e];simp
 rw [e];exact parts_short (h.2 l hl)
theorem Inv.start{ls:List LayerM}(h:Short ls)(id:Int): Inv ls id [] (stepsM ls id):=
 ⟨List.nodup_nil,fun x hx=>by simp at hx,fun x hx=>.one hx,fun y hy=>.inr hy,fun x hx=>by simp at hx,by have:=steps_short h id;simp;omega⟩
theorem Inv.seen{ls:List LayerM}{id n:Int}{xs rest:List Int}(h:Inv ls id xs (n :: rest))(hn:n∈xs): Inv ls id xs rest:=by
 have go:∀y,y∈xs∨y∈n :: rest→y∈xs∨y∈rest:=by
  rintro y (hy | hy)
  ·exact .inl hy
  rcases List.mem_cons.1 hy with rfl | hy
  ·exact .inl hn
  exact .inr hy
 exact⟨h.nd,h.rx,fun x hx=>h.rt x (by simp [hx]),fun y hy=>go y (h.st y hy),fun x hx y hy=>go y (h.cl x hx y hy),by have:=h.len;simp at this;omega⟩
theorem Inv.fresh{ls:List LayerM}(hs:Short ls){id n:Int}{xs rest:List Int}(h:Inv ls id xs (n :: rest))(hn:n∉xs): Inv ls id (xs ++ [n]) (rest ++ stepsM ls n):=by
 have go:∀y,y∈xs∨y∈n :: rest→y∈xs ++ [n]∨y∈rest ++ stepsM ls n:=by
  rintro y (hy | hy)
  ·exact .inl (by simp [hy])
  rcases List.mem_cons.1 hy with rfl | hy
  ·exact .inl (by simp)
  exact .inr (by simp [hy])
 have rn:Reach ls id n:=h.rt n (by simp);refine⟨?_,?_,?_,fun y hy=>go y (h.st y hy),?_,?_⟩
 ·rw [List.nodup_append];refine⟨h.nd,by simp,fun a ha b hb=>?_⟩;have:b=n:=by simpa using hb
  subst this;exact fun e=>hn (e ▸ ha)
 ·intro x hx;rcases List.mem_append.1 hx with hx | hx
  ·exact h.rx x hx
  have:x=n:=by simpa using hx
  subst this;exact rn
 ·intro x hx;rcases List.mem_append.1 hx with hx | hx
  ·exact h.rt x (by simp [hx])
  exact .tail rn hx
 ·intro x hx y hy;rcases List.mem_append.1 hx with hx | hx
  ·exact go y (h.cl x hx y hy)
  have:x=n:=by simpa using hx
  subst this;exact .inr (by simp [hy])
 have h1:=h.len;have h2:=steps_short hs n;simp at h1 ⊢;omega
theorem Inv.done{ls:List LayerM}{id:Int}{xs:List Int}(h:Inv ls id xs [])(y:Int): y∈xs↔Reach ls id y:=by
 refine⟨h.rx y,fun hr=>?_⟩;induction hr with
 | one hy=>exact (h.st _ hy).resolve_right (by simp)
 | tail _ hz ih=>exact (h.cl _ ih _ hz).resolve_right (by simp)
def univ(ls:List LayerM): List Int:=(ls.map partsM).flatten
theorem reach_univ{ls:List LayerM}{x y:Int}(h:Reach ls x y): y∈univ ls:=by
 have key:∀{x y:Int},y∈stepsM ls x→y∈univ ls:=by
  intro x y hy;rcases steps_parts (ls:=ls) (id:=x)with e | ⟨l,hl,e⟩
  ·rw [e]at hy;simp at hy
  rw [e]at hy;exact List.mem_flatten.2 ⟨partsM l,List.mem_map.2 ⟨l,hl,rfl⟩,hy⟩
 cases h with
 | one h=>exact key h
 | tail _ h=>exact key h
theorem univ_len{ls:List LayerM}(h:Short ls): (univ ls).length≤2500:=by
 have key:∀(m:List LayerM),(∀l∈m,l.kids.length≤50)→((m.map partsM).flatten).length≤50*m.length:=by
  intro m;induction m with
  | nil=>intro _;simp
  | cons l m ih=>
   intro hm;have h1:=ih fun l hl=>hm l (by simp [hl]);have h2:=parts_short (hm l (by simp));simp only [List.map_cons,List.flatten_cons,List.length_append,List.length_cons];omega
 have:=key ls h.2;have:=h.1;unfold univ;omega
theorem nodup_len:∀{xs us:List Int},xs.Nodup→(∀x∈xs,x∈us)→xs.length≤us.length
 | [],_,_,_=>Nat.zero_le _
 | x :: xs,us,hn,hs=>by
  have h1:=List.nodup_cons.1 hn;have hx:=hs x (by simp);have h2:=nodup_len (us:=us.erase x) h1.2 fun y hy=>by have hne:y≠x:=fun e=>h1.1 (e ▸ hy);exact (List.mem_erase_of_ne hne).2 (hs y (by simp [hy]))
  rw [List.length_erase_of_mem hx]at h2;have:0<us.length:=List.length_pos_of_mem hx;simp only [List.length_cons];omega
theorem Inv.short{ls:List LayerM}(h:Short ls){id:Int}{xs todo:List Int}(hi:Inv ls id xs todo): xs.length≤2500∧todo.length≤125050:=by have h1:=nodup_len hi.nd fun x hx=>reach_univ (hi.rx x hx);have h2:=univ_len h;have h3:=hi.len;omega
theorem Il.ints'{w:World}{base:Nat}{A:Option Addr}{n cap:Nat}{xs:List Int}(h:Il w base (.slice A n cap) xs): IntsAt w A n xs:=by obtain⟨A',n',cap',e,h2⟩:=h.ints;injection e with e1 e2 e3;rw [e1,e2];exact h2
theorem Il.tail{w:World}{base g o n cap:Nat}{x:Int}{rest:List Int}(h:Il w base (.slice (some ⟨g,o,none⟩) n cap) (x :: rest)): Il w base (.slice (if cap=1 then some ⟨g,o,none⟩ else some ⟨g,o+1,none⟩) rest.length (cap - 1)) rest:=by
 rcases h.2 with ⟨h1,_⟩ | ⟨g',off,cap',arr,e,hb,hh,hn,hm,hs,hx⟩
 ·cases h1
 injection e with e1 e2 e3;injection e1 with e1;injection e1 with e1 e4 e5;subst e1;subst e4;subst e3;simp only [List.length_cons]at hn;by_cases hc:cap=1
 ·subst hc;have hr:rest=[]:=List.eq_nil_of_length_eq_zero (by omega);subst hr;exact⟨rfl,.inr ⟨g,o,0,arr,rfl,hb,hh,Nat.le_refl _,Nat.zero_le _,by omega,fun j u hu=>by simp at hu⟩⟩
 rw [if_neg hc];refine⟨by simp,.inr ⟨g,o+1,cap - 1,arr,rfl,hb,hh,by omega,by omega,by omega,fun j u hu=>?_⟩⟩;have:=hx (j+1) u (by simpa using hu);rw [←this,Nat.add_assoc,Nat.add_comm 1 j]
theorem Il.kept{w w':World}{base:Nat}{v:Value}{xs:List Int}{bs:List Nat}(h:Il w base v xs)(T:Turn bs w w')(hd:∀g∈blks v,g∉bs): Il w' base v xs:=
 h.keep fun g hg=>T.old g (h.lt g hg).2.1 (hd g hg)
structure ReachW(Wd:World)(ls:List LayerM)(id:Int)(v u:Value)(wr:World)(xs todo:List Int): Prop where
 iv:Il wr Wd.heap.size v xs
 iu:Il wr Wd.heap.size u todo
 inv:Inv ls id xs todo
 ap:∀g∈blks v,g∉blks u
 t:Turn [] Wd wr
theorem wp_app_run{P:Program}{o:Oper}{a:Act}{w w':World}{K:Act→World→Prop}{Q:Exit→Act→World→Prop}{d:Option Tmp}(hd:o.dst=d)(s x:Operand)(t:TypeId){v y v':Value}
  (hop:o.op=Op.call { callee:=Callee.builtin Builtin.append,args:=#[s,x],argTypes:=#[t,t] }) (hs:a.eval s=v) (hx:a.eval x=y)
  (hrun:(Builtin.append_ #[t,t] o.type #[v,y]).run P w=.ok v' w') (h:K (a.put d v') w'):Oper.wp P o a w K Q:=by
 subst hd;unfold Oper.wp;simp [execOp,hop,resolve,invoke,builtin,hs,hx,hrun,Result.andThen];exact h
theorem turn_new1{W w w':World}{b:Nat}(h:Turn [] W w)(k:Turn [b] w w')(hb:W.heap.size≤b): Turn [] W w':=
 turn_new h k fun g hg=>by
  have:g=b:=by simpa using hg
  omega
theorem turn_newI{W w w' wx:World}{base:Nat}{v:Value}{xs:List Int}(h:Turn [] W w)(k:Turn (blks v) w w')(hi:Il wx base v xs)(hb:W.heap.size≤base): Turn [] W w':=
 turn_new h k fun g hg=>Nat.le_trans hb (hi.lt g hg).1
theorem ints_one(u:World)(x:Int): IntsAt (u.alloc (.cells #[x] 3)) (some ⟨u,0,none⟩) 1 [x]:=by
 refine⟨rfl,fun j hj=>?_⟩;obtain rfl:j=0:=by omega
 refine⟨_,_,rfl,?_⟩;rw [cell_of_row _ _ _ _ 3 (0,0) (heap_alloc_new u _)];rfl
def slen(v:Value): Nat:=match v with | .slice _ n _=>n | _=>0
theorem Il.slen{w:World}{base:Nat}{v:Value}{xs:List Int}(h:Il w base v xs): slen v=xs.length:=by rcases h.form with ⟨rfl,rfl⟩ | ⟨g,o,cap,rfl,_⟩ <;> rfl
theorem ref_reached(d:DocM)(id:Int)(w:World)(h:d.At w)(hsh:Short d.layers): Calls prog 74 #[d.v,id,.bool false] w fun e w'=>∃v xs,e=.returned v∧Il w' w.heap.size v xs∧(∀y,y∈xs↔Reach d.layers id y)∧xs.length≤2500∧Turn [] w w':=by
 have hS:=fun id=>ref_steps d id;have HAt:=lh h;clear h;obtain⟨sA,sn,sc,spaces,root,next,lA,ln,lc,layers⟩:=d;simp only [DocM.v]at *;have T0:=(tR w).alloc (.cells #[.slice sA sn sc,root,next,.slice lA ln lc] 29);have HS:=lh hS;clear hS;go_enter func74,ntmps74;go_wp2_with (go_at_call 112;refine (HS.out _ _ (HAt.out.turn (T0.alloc _))).mono ?_;rintro e w1 ⟨v1,rfl,hV1,ht1⟩)
 have q0:(w.alloc (.cells #[.slice sA sn sc,root,next,.slice lA ln lc] 29)).cell? ⟨w,0,none⟩=some (.slice sA sn sc):=by simp [go_sem]
 have q1:(w.alloc (.cells #[.slice sA sn sc,root,next,.slice lA ln lc] 29)).cell? ⟨w,1,none⟩=some (.int .i64 root):=by simp [go_sem]
 have q2:(w.alloc (.cells #[.slice sA sn sc,root,next,.slice lA ln lc] 29)).cell? ⟨w,2,none⟩=some (.int .i64 next):=by simp [go_sem]
 have q3:(w.alloc (.cells #[.slice sA sn sc,root,next,.slice lA ln lc] 29)).cell? ⟨w,3,none⟩=some (.slice lA ln lc):=by simp [go_sem]
 have hE:=il_empty (w.alloc (.cells #[.slice sA sn sc,root,next,.slice lA ln lc] 29));have hz:(w.alloc (.cells #[.slice sA sn sc,root,next,.slice lA ln lc] 29)).heap.size=w.heap.size+1:=by simp only [World.size_alloc]
 generalize w.alloc (.cells #[.slice sA sn sc,root,next,.slice lA ln lc] 29)=Wd at *;have R0:ReachW Wd layers id (.slice (some ⟨w.heap.size+1,0,none⟩) 0 0) v1 w1 [] (stepsM layers id):=by
  rw [hz]at hE;refine⟨by rw [hz];exact hE.turn ht1,hV1.base (by simp only [World.size_alloc];omega),.start hsh id,fun g hg hm=>?_,((tR Wd).alloc _).trans ht1⟩;have h1:g=w.heap.size+1:=by simpa [blks,Value.ownBlock]using hg
  have h2:=(hV1.lt g hm).1;simp only [World.size_alloc]at h2;omega
 clear hE hV1 ht1;go_loopw [7,8] (fun s7 s8 wr=>∃xs todo,ReachW Wd layers id s7 s8 wr xs todo) (fun s7 s8 _=>(2501 - slen s7)*51+slen s8);case atStart=>exact⟨_,_,R0⟩
 clear R0;obtain⟨xs,todo,R⟩:=hrel;have hsz:=R.inv.short hsh;have hlv:=R.iv;have hlu:=R.iu;obtain⟨A7,n7,c7,rfl,hI7⟩:=hlv.ints;have hn7:=hI7.1;cases todo with
 | nil=>
  obtain⟨A8,n8,c8,rfl,hI8⟩:=hlu.ints;obtain rfl:n8=0:=hI8.1;have HR:=lh R;clear R hlv hlu hI7 hI8 hsz;go_wp2_with fail
  go_ret;exact⟨_,_,rfl,HR.out.iv.base (by omega),HR.out.inv.done,(HR.out.inv.short hsh).1,T0.trans HR.out.t⟩
 | cons x rest=>
  rcases hlu.form with ⟨_,h0⟩ | ⟨g,o,cp,rfl,hg,hgl,hcp,hcell⟩
  ·cases h0
  have hx:=hcell 0 (by simp);have hRest:=hlu.tail;have hx:wr.cell? ⟨g,o,none⟩=some (.int .i64 x):=by simpa using hx
  have hsz2:=hsz.2;have hsx:=hsz.1;simp only [List.length_cons]at *;generalize hm:rest.length=m at *;have b0:(0:Int)<(m:Int)+1:=by omega
  have d0:decide ((0:Int)<(m:Int)+1)=true:=decide_eq_true b0;have b1:(m:Int)+1≤(cp:Int):=by omega
  have hHas:=ref_has xs x A7 n7 c7 (by omega) wr hI7;have HR:=lh R;have HH:=lh hHas;have HRe:=lh hRest;have HN7:=lh hn7;have HM:=lh hm;clear R hlv hlu hRest hHas hcell hsz hn7 hm;have hbl:∀q∈blks (.slice (if cp=1 then some ⟨g,o,none⟩ else some ⟨g,o+1,none⟩) m (cp - 1)),q=g:=by
   intro q hq;by_cases hc:cp=1
   ·rw [if_pos hc]at hq;simpa [blks,Value.ownBlock]using hq
   rw [if_neg hc]at hq;simpa [blks,Value.ownBlock]using hq
  have HBL:=lh hbl;clear hbl;go_upto_region 6 with (fail)
  generalize (if cp=1 then some (Addr.mk g o none) else some (Addr.mk g (o+1) none))=Ar at *;have hap:∀q∈blks (.slice A7 n7 c7),q∉blks (.slice Ar m (cp - 1)):=by intro q hq hq2;have h1:=HBL.out q hq2;subst h1;exact HR.out.ap q hq (by simp [blks,Value.ownBlock])
  have HAP:=lh hap;clear hap;by_cases hmem:x∈xs
  ·rw [decide_eq_true hmem]at HH;(go_wp2_with (go_at_call 73;refine HH.out.mono ?_;rintro e w2 ⟨rfl,hw⟩;rw [hw];clear hw));refine⟨⟨xs,rest,HR.out.iv,HRe.out,HR.out.inv.seen hmem,HAP.out,HR.out.t⟩,?_⟩;simp [slen]
  rw [decide_eq_false hmem]at HH;have hI1:=ints_one wr x;have hIv:=HR.out.iv.turn ((tR wr).alloc (.cells #[x] 3));have hbs:Wd.heap.size≤wr.heap.size:=HR.out.t.size;go_upto_region 8 with (first
   | (go_at_call 73;refine HH.out.mono ?_;rintro e w2 ⟨rfl,hw⟩;rw [hw];clear hw)
   | (refine wpList_ints (v:=.slice A7 n7 c7) rfl _ _ rfl rfl hIv rfl hI1 (by simp only [World.size_alloc];omega) (by omega) ?_;intro v' V hV hT hB))
  have TV:Turn [] Wd V:=turn_new (HR.out.t.alloc _) hT (fun q hq=>(HR.out.iv.lt q hq).1);have hRest:Il V Wd.heap.size (.slice Ar m (cp - 1)) rest:=(HRe.out.turn ((tR wr).alloc _)).kept hT (fun q hq hq2=>HAP.out q hq2 hq);have D0:Hid (∀w',Turn [] V w'→w'.cell? ⟨w,0,none⟩=some (.slice sA sn sc)):=lh fun w' T=>by rw [(tcell (TV.trans T)).1 _ _ (block_lt_of_cell q0)];exact q0
  have D1:Hid (∀w',Turn [] V w'→w'.cell? ⟨w,1,none⟩=some (.int .i64 root)):=lh fun w' T=>by rw [(tcell (TV.trans T)).1 _ _ (block_lt_of_cell q0)];exact q1
  have D2:Hid (∀w',Turn [] V w'→w'.cell? ⟨w,2,none⟩=some (.int .i64 next)):=lh fun w' T=>by rw [(tcell (TV.trans T)).1 _ _ (block_lt_of_cell q0)];exact q2
  have D3:Hid (∀w',Turn [] V w'→w'.cell? ⟨w,3,none⟩=some (.slice lA ln lc)):=lh fun w' T=>by rw [(tcell (TV.trans T)).1 _ _ (block_lt_of_cell q0)];exact q3
  have hAtV:=HAt.out.turn (T0.trans TV);have HV:=lh hV;clear hIv hI1 hT hB hV;refine AnyTill.start (fun w'=>Turn [] V w') 8 (by kernel_rfl) ?_;have hS:=(tR V).drawn 1;change Turn [] V V.drew at hS;generalize V.drew=Y at *;refine tk 1 9 32 (.slice Ar m (cp - 1)) hS ?_;try go_frame
  refine tk 3 9 34 (.agg #[.slice sA sn sc,root,next,.slice lA ln lc]) hS ?_ (hy:=fun w' hw=>by have e0:=D0.out _ hw;have e1:=D1.out _ hw;have e2:=D2.out _ hw;have e3:=D3.out _ hw;go_simp);try go_frame
  refine tk 4 9 35 x hS ?_;try go_frame
  refine tk 5 9 36 (.bool false) hS ?_;try go_frame
  have hY:V.heap.size≤Y.heap.size:=hS.size;have hY:V.heap.size≤Y.heap.size:=hS.size;refine tk1 0 fun K hK=>?_;go_simp;refine hK _ _ (fun _=>hS.alloc _) ?_;clear hK K;try go_frame
  obtain⟨v2,w5,e2,E2,t2,f2⟩:=app_ints (cap:=cp - 1) (il_empty Y) (hRest.turn (hS.alloc (.cells #[] 3))).ints' (by simp only [World.size_alloc];omega) (by have:=HM.out;simp;omega) 22;have t2:Turn [Y.heap.size] (Y.alloc (.cells #[] 3)) w5:=t2;have S5:Turn [] V w5:=turn_new1 (hS.alloc _) t2 hY;refine tk1 2 fun K hK=>?_;refine wp_app_run (d:=some 33) rfl _ _ 22 rfl rfl rfl e2 ?_;refine hK _ _ (fun _=>S5) ?_;clear hK K;try go_frame
  rw [List.nil_append]at E2;have hY5:Y.heap.size≤w5.heap.size:=by have:=t2.size;simp only [World.size_alloc]at this;omega
  refine tk1 6 fun K hK=>?_;go_simp;refine (HS.out x _ (hAtV.turn S5)).mono ?_;rintro e w6 ⟨v3,rfl,E3,t3⟩;have S6:=S5.trans t3;refine hK _ _ (fun _=>S6) ?_;clear hK K;try go_frame
  have E26:=E2.turn t3;obtain⟨A3,n3,c3,rfl,hI3⟩:=E3.ints;have hn3:=hI3.1;have hs3:=steps_short hsh x;obtain⟨v4,w7,e4,E4,t4,f4⟩:=app_ints (cap:=c3) E26 hI3 (by have:=t3.size;omega) (by have:=HM.out;omega) 22;have S7:Turn [] V w7:=turn_newI S6 t4 E26 hY;refine tk1 7 fun K hK=>?_;refine wp_app_run (d:=some 38) rfl _ _ 22 rfl rfl rfl e4 ?_;refine hK _ _ (fun _=>S7) ?_;clear hK K;try go_frame
  clear hS;have hS:=S7;refine tk1 8 fun K hK=>?_;go_simp;refine hK _ _ (fun h=>absurd rfl h) ?_;clear hK K;try go_frame
  refine tkd ?_;go_wp2_with fail
  refine⟨⟨xs ++ [x],rest ++ stepsM layers x,HV.out.turn hS,E4.base (by have:=hY;have:=TV.size;omega),HR.out.inv.fresh hsh hmem,fun q hq hq2=>?_,TV.trans hS⟩,?_⟩
  ·have h1:=(HV.out.lt q hq).2.1;have h2:=(E4.lt q hq2).1;omega
  have h1:=HV.out.slen;have h2:=E4.slen;have h3:=steps_short hsh x;have h4:=HR.out.iv.slen;have h5:=HM.out;have h6:=(HR.out.inv.short hsh).1;have h7:slen (.slice A7 n7 c7)=n7:=rfl;have h8:=HN7.out;simp only [slen,List.length_append,List.length_cons,List.length_nil]at *;omega
end Go.Proofs.YtbpklgllihhgpaaGreat
