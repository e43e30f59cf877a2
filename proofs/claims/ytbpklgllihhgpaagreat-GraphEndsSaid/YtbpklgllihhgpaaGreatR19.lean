import Derived.Deep.RegionHeld3
import Derived.Test.YtbpklgllihhgpaaGreatR16
import Derived.Test.YtbpklgllihhgpaaGreatR18
set_option maxRecDepth 100000
set_option maxHeartbeats 16000000
namespace Go.Proofs.YtbpklgllihhgpaaGreat
open Tryz Go.RowKit Go.Den
structure TileM where
 x:Int
 y:Int
 px:List Int
def TileM.row(t:TileM): List Value:=t.x :: t.y :: t.px.map (Value.int .u8)
def TilesAt(w:World)(A:Option Addr)(n:Nat)(ts:List TileM): Prop:=n=ts.length∧∀j t,ts[j]?=some t→okPx t.px∧∃g o,A=some ⟨g,o,none⟩∧w.rangeAt g (o+j*258) t.row
theorem range_turn{w w':World}(T:Turn [] w w'){g o:Nat}{l:List Value}(h:w.rangeAt g o l): w'.rangeAt g o l:=by intro j v hv;have:=h j v hv;rw [(tcell T).1 _ _ (block_lt_of_cell this)];exact this
theorem TilesAt.turn{w w':World}{A:Option Addr}{n:Nat}{ts:List TileM}(h:TilesAt w A n ts)(T:Turn [] w w'): TilesAt w' A n ts:=by refine⟨h.1,fun j t ht=>?_⟩;obtain⟨h1,g,o,h2,h3⟩:=h.2 j t ht;exact⟨h1,g,o,h2,range_turn T h3⟩
theorem TilesAt.get{w:World}{A:Option Addr}{n:Nat}{ts:List TileM}(h:TilesAt w A n ts)(h1:1≤n): ∃g o,A=some ⟨g,o,none⟩∧∀w',Turn [] w w'→∀j t,ts[j]?=some t→okPx t.px∧w'.rangeAt g (o+j*258) t.row:=by
 have hl:0<ts.length:=by have:=h.1;omega
 obtain⟨_,g,o,rfl,_⟩:=h.2 0 ts[0] (by simp [hl]);refine⟨g,o,rfl,fun w' T j t hj=>?_⟩;obtain⟨a,g',o',e,b⟩:=h.2 j t hj;injection e with e;injection e with e1 e2 e3;subst e1;subst e2;exact⟨a,range_turn T b⟩
def inTile(t:TileM): Bool:=decide (-8192≤t.x) && decide (t.x≤8191) && decide (-8192≤t.y) && decide (t.y≤8191)
def lessT(a b:TileM): Bool:=decide (a.y<b.y) || decide (a.y=b.y) && decide (a.x<b.x)
def tileGood(t:TileM): Bool:=inTile t && !tzero t.px && tsame (tclean t.px) t.px
def rasOKb(ts:List TileM)(i:Nat): Bool:=match ts[i]? with
 | some t=>tileGood t && (match i with | 0=>true | k+1=>(match ts[k]? with | some s=>lessT s t | none=>false))
 | none=>false
def rasterB(ts:List TileM): Bool:=decide (ts.length≤1024) && (List.range ts.length).all (rasOKb ts)
set_option linter.unusedSimpArgs false in
theorem ref_inTile(x y:Int)(w:World): Calls prog 101 #[.agg #[x,y]] w fun e w'=>e=.returned (.bool (decide (-8192≤x) && decide (x≤8191) && decide (-8192≤y) && decide (y≤8191)))∧Turn [] w w':=by
 by_cases h1:-8192≤x
 ·by_cases h2:x≤8191
  ·by_cases h3:-8192≤y
   ·by_cases h4:y≤8191
    ·go_enter func101,ntmps101;(go_wp2_with fail);go_ret;exact⟨by simp [h1,h2,h3,h4],(Turn.refl _ _).alloc _⟩
    go_enter func101,ntmps101;(go_wp2_with fail);go_ret;exact⟨by simp;omega,(Turn.refl _ _).alloc _⟩
   go_enter func101,ntmps101;(go_wp2_with fail);go_ret;exact⟨by simp;omega,(Turn.refl _ _).alloc _⟩
  go_enter func101,ntmps101;go_wp2_with fail
  go_ret;exact⟨by simp;omega,(Turn.refl _ _).alloc _⟩
 go_enter func101,ntmps101;go_wp2_with fail
 go_ret;exact⟨by simp;omega,(Turn.refl _ _).alloc _⟩
set_option linter.unusedSimpArgs false in
theorem ref_less(ax ay bx by':Int)(w:World): Calls prog 155 #[.agg #[ax,ay],.agg #[bx,by']] w fun e w'=>e=.returned (.bool (decide (ay<by') || decide (ay=by') && decide (ax<bx)))∧Turn [] w w':=by
 by_cases h1:ay<by'
 ·go_enter func155,ntmps155;go_wp2_with fail
  go_ret;exact⟨by simp [h1],((Turn.refl _ _).alloc _).alloc _⟩
 by_cases h2:ay=by'
 ·subst h2;by_cases h3:ax<bx
  ·go_enter func155,ntmps155;(go_wp2_with fail);go_ret;exact⟨by simp [h3],((Turn.refl _ _).alloc _).alloc _⟩
  go_enter func155,ntmps155;go_wp2_with fail
  go_ret;exact⟨by simp;omega,((Turn.refl _ _).alloc _).alloc _⟩
 go_enter func155,ntmps155;go_wp2_with fail
 go_ret;exact⟨by simp;omega,((Turn.refl _ _).alloc _).alloc _⟩
theorem wpList_load_at{P:Program}{ops:Array Oper}{rest:List Oper}{o:Oper}{a:Act}{w:World}{Q:Exit→Act→World→Prop}(hg:o.guard=none)(t:TypeId)(x:Operand)(ho:o.op=.load t x){p v:Value}
  (hx:a.eval x=p) (hr:(Instr.loadAt t p).run P w=.ok v w) (h:wpList P ops Q rest (a.put o.dst v) w):wpList P ops Q (o :: rest) a w:=by
 refine wpList_plain hg fun K hK=>?_;unfold Oper.wp;simp only [execOp,ho,hx,Sem.run_bind,hr,Result.andThen];exact hK _ _ h
theorem exec_load{P:Program}{o:Oper}{a:Act}{w:World}{t:TypeId}{x:Operand}{p v:Value}(ho:o.op=.load t x)(hx:a.eval x=p)(hr:(Instr.loadAt t p).run P w=.ok v w): (execOp a.eval o).run P w=.ok (.value v) w:=by simp only [execOp,ho,hx,Sem.run_bind,hr,Result.andThen,Sem.run_pure]
theorem infoTA:(prog.info? 171).map (fun i=>(i.zero,i.size))=some (some (.agg zeroCells171),258):=by kernel_rfl
structure RasW(w:World)(A:Option Addr)(n cap:Nat)(wr:World): Prop where
 t:Turn [] w wr
 c:wr.cell? ⟨w,0,none⟩=some (.slice A n cap)
def RasOK(ts:List TileM)(i:Nat): Prop:=rasOKb ts i=true
theorem raster_no{ts:List TileM}{k:Nat}(hk:k<ts.length)(h:¬RasOK ts k): rasterB ts=false:=by unfold rasterB;rw [List.all_eq_false.2 ⟨k,List.mem_range.2 hk,h⟩,Bool.and_false]
theorem raster_yes{ts:List TileM}(h1:ts.length≤1024)(h:∀k,k<ts.length→RasOK ts k): rasterB ts=true:=by unfold rasterB;rw [List.all_eq_true.2 fun k hk=>h k (List.mem_range.1 hk),decide_eq_true h1];rfl
theorem ref_raster(ts:List TileM)(A:Option Addr)(n cap:Nat)(w:World)(h:TilesAt w A n ts):
  Calls prog 100 #[.agg #[.slice A n cap]] w fun e w'=>e=.returned (.bool (rasterB ts))∧Turn [] w w':=by
 have hn:=h.1;by_cases hbig:1024<n
 ·have:rasterB ts=false:=by unfold rasterB;rw [decide_eq_false (by omega)];rfl
  rw [this];have d1:decide (1024<(n:Int))=true:=decide_eq_true (by omega);clear this hn h;go_enter func100,ntmps100;go_wp2_with fail
  go_ret;exact⟨rfl,(Turn.refl _ _).alloc _⟩
 have d1:decide (1024<(n:Int))=false:=decide_eq_false (by omega);have hA:1≤n→∃g o,A=some ⟨g,o,none⟩∧∀w',Turn [] w w'→∀j t,ts[j]?=some t→okPx t.px∧w'.rangeAt g (o+j*258) t.row:=fun h1=>h.get h1;have HA:=lh hA;have HN:=lh hn;clear hA hn h;go_enter func100,ntmps100;go_wp2_with fail
 have hz:zeroCells171.size=258:=by kernel_rfl
 have T0:Turn [] _ _:=(tR w).alloc (.cells #[.slice A n cap] 87);go_loopw [3] (fun s3 wr=>∃k:Nat,k≤n∧s3=k∧RasW w A n cap wr∧∀i,i<k→RasOK ts i) (fun s3 _=>n - (intOf s3).toNat);case atStart=>
  exact⟨0,by omega,rfl,⟨T0,by simp [go_sem]⟩,fun i hi=>absurd hi (Nat.not_lt_zero i)⟩
 clear T0;obtain⟨k,hk,rfl,hF,hall⟩:=hrel;have HALL:=lh hall;clear hall;by_cases hlt:k<n
 ·obtain⟨g,o,rfl,hA⟩:=HA.out (by omega);have hts:k<ts.length:=by have:=HN.out;omega
  obtain⟨t,ht⟩:∃t,ts[k]?=some t:=⟨ts[k],by simp [hts]⟩;obtain⟨ok,hR⟩:=hA wr hF.t k t ht;have hlen:t.row.length=258:=by simp [TileM.row,ok.1]
  have hone:(⟨t.row⟩:Array Value).all (·.oneCell')=true:=all_oneCell_toArray (cs:=t.row) (fun v hv=>by
   rcases List.mem_cons.1 hv with rfl | hv
   ·rfl
   rcases List.mem_cons.1 hv with rfl | hv
   ·rfl
   obtain⟨x,_,rfl⟩:=List.mem_map.1 hv;rfl)
  have hc0:=hF.c;have haT:(Instr.alloc 171 true (.tuple #[])).run prog wr=.ok (.pointer (some ⟨wr,0,none⟩)) (wr.alloc (.cells zeroCells171 171)):=by unfold Instr.alloc;rw [Sem.run_bind,(zero_of_info infoTA).1];rfl
  have hiT:(prog.info? 171).map (·.size)=some t.row.length:=by rw [hlen];exact (zero_of_info infoTA).2
  have hst:(Instr.storeAt 171 (.pointer (some ⟨wr,0,none⟩)) (.agg ⟨t.row⟩)).run prog (wr.alloc (.cells zeroCells171 171))=.ok () (wr.alloc (.cells ⟨t.row⟩ 171)):=
   run_storeAt_new wr 171 zeroCells171 ⟨t.row⟩ hiT (by rw [hz];exact hlen.symm) hone
  have HF:=lh hF;have HAA:=lh hA;have HT:=lh ht;have b0:(0:Int)≤(k:Int):=by omega
  have b1:(k:Int)<(n:Int):=by omega
  clear hF hA ht hone hlen hz;generalize hrow:t.row=row at *;go_upto_region 7 with (first
   | (refine wpList_load_mid rfl 171 _ rfl _ _ rfl _ _ hR underlying171 rfl hiT ?_)
   | (refine wpList_store_run rfl 171 _ _ rfl rfl rfl hst ?_))
  have r0:(wr.alloc (.cells ⟨row⟩ 171)).cell? ⟨wr,0,none⟩=some (.int .i64 t.x):=by rw [cell_of_row _ _ _ _ 171 (0,0) (heap_alloc_new wr _),←hrow];rfl
  have r1:(wr.alloc (.cells ⟨row⟩ 171)).cell? ⟨wr,1,none⟩=some (.int .i64 t.y):=by rw [cell_of_row _ _ _ _ 171 (0,0) (heap_alloc_new wr _),←hrow];rfl
  have r2:(wr.alloc (.cells ⟨row⟩ 171)).rangeAt wr.heap.size 2 (t.px.map (Value.int .u8)):=by intro j v hv;rw [cell_of_row _ _ _ _ 171 (0,0) (heap_alloc_new wr _),←hrow,Nat.add_comm 2 j,←hv];show (t.row.toArray)[j+2]?=_;rw [List.getElem?_toArray];rfl
  have hlx:(t.px.map (Value.int .u8)).length=256:=by rw [List.length_map,ok.1]
  have rc:(wr.alloc (.cells ⟨row⟩ 171)).cell? ⟨w,0,none⟩=some (.slice (some ⟨g,o,none⟩) n cap):=by rw [(tcell ((tR wr).alloc _)).1 _ _ (block_lt_of_cell hc0)];exact hc0
  have T2:=HF.out.t.alloc (.cells ⟨row⟩ 171);clear hst haT hiT hR hc0;generalize wr.alloc (.cells ⟨row⟩ 171)=W2 at *;generalize wr.heap.size=b at *;have HZe:=lh (ref_zero t.px ok.1);have HCl:=lh (ref_clean t.px ok.1);have HSa:=lh (ref_same (tclean t.px) t.px (by simp [tclean]) ok.1);have HIn:=lh (ref_inTile t.x t.y);have hi66:(prog.info? 66).map (·.size)=some (t.px.map (Value.int .u8)).length:=by rw [hlx,info66]
  have hld:∀w',Turn [] W2 w'→(Instr.loadAt 66 (.pointer (some ⟨b,2,none⟩))).run prog w'=.ok (tv t.px) w':=fun w' T=>run_loadAt_mid w' b 2 66 _ _ (range_turn T r2) underlying66 rfl hi66;have HL:=lh hld;have HI66:=lh hi66;clear hi66 hlx hld;generalize hz2:tzero t.px=z at *;generalize hsm2:tsame (tclean t.px) t.px=sm at *;have HZ2:=lh hz2;have HSM:=lh hsm2;clear hz2 hsm2;unfold tv at *;generalize t.px.map (Value.int .u8)=cl at *;generalize (tclean t.px).map (Value.int .u8)=cc at *;go_upto_region 8 with (first
   | (refine wpList_load_at rfl 66 _ rfl rfl (HL.out _ (tR W2)) ?_)
   | (go_at_call 152;refine (HZe.out _).mono ?_;rintro e w1 ⟨rfl,ht1⟩))
  refine AnyTill.start (fun u=>Turn [] W2 u) 6 (by kernel_rfl) ?_;have hS:Turn [] W2 w1.drew:=ht1.drawn 1;clear ht1;generalize w1.drew=Y at *;refine tk 0 7 26 (.pointer (some ⟨b,2,none⟩)) hS ?_ (hy:=fun w hw=>by go_simp);try go_frame
  refine tk 1 7 27 (.agg ⟨cl⟩) hS ?_ rfl (hy:=fun w hw=>exec_load rfl rfl (HL.out w hw));try go_frame
  refine tk 3 7 29 (.pointer (some ⟨b,2,none⟩)) hS ?_ (hy:=fun w hw=>by go_simp);try go_frame
  refine tk 4 7 30 (.agg ⟨cl⟩) hS ?_ rfl (hy:=fun w hw=>exec_load rfl rfl (HL.out w hw));try go_frame
  refine tk1 2 fun K hK=>?_;go_simp;refine (HCl.out _).mono ?_;rintro e w2 ⟨rfl,ht2⟩;refine hK _ _ (fun _=>hS.trans ht2) ?_;clear hK K;try go_frame
  refine tk1 5 fun K hK=>?_;go_simp;refine (HSa.out _).mono ?_;rintro e w3 ⟨rfl,ht3⟩;have T3:Turn [] W2 w3:=(hS.trans ht2).trans ht3;clear hS ht2 ht3;refine hK _ _ (fun _=>T3) ?_;clear hK K;try go_frame
  refine tk1 6 fun K hK=>?_;go_simp;refine hK _ _ (fun _=>T3) ?_;clear hK K;try go_frame
  refine tkd ?_;have c0:∀w',Turn [] W2 w'→w'.cell? ⟨b,0,none⟩=some (.int .i64 t.x):=fun w' T=>by rw [(tcell T).1 _ _ (block_lt_of_cell r0)];exact r0
  have c1:∀w',Turn [] W2 w'→w'.cell? ⟨b,1,none⟩=some (.int .i64 t.y):=fun w' T=>by rw [(tcell T).1 _ _ (block_lt_of_cell r1)];exact r1
  have c2:∀w',Turn [] W2 w'→w'.cell? ⟨w,0,none⟩=some (.slice (some ⟨g,o,none⟩) n cap):=fun w' T=>by rw [(tcell T).1 _ _ (block_lt_of_cell rc)];exact rc
  have hgood:tileGood t=((decide (-8192≤t.x) && decide (t.x≤8191) && decide (-8192≤t.y) && decide (t.y≤8191)) && !z && sm):=by unfold tileGood inTile;rw [HZ2.out,HSM.out]
  have HG:=lh hgood;have HX:=lh c0;have HY:=lh c1;have HR:=lh c2;clear r0 r1 r2 rc HCl HSa HZe HL HI66 hgood c0 c1 c2;have hno:tileGood t=false→rasterB ts=false:=fun h=>raster_no hts (by unfold RasOK rasOKb;rw [HT.out];simp [h]);have HNO:=lh hno;clear hno hts;generalize (decide (-8192≤t.x) && decide (t.x≤8191) && decide (-8192≤t.y) && decide (t.y≤8191))=it at *;generalize hxe:t.x=x at *;generalize hye:t.y=y at *;have HXE:=lh hxe;have HYE:=lh hye;clear hxe hye;go_upto_region 9 with (fail)
  cases k with
  | zero=>
   have hyes:tileGood t=true→RasOK ts 0:=fun h=>by unfold RasOK rasOKb;rw [HT.out];simp [h]
   have HYES:=lh hyes;clear hyes;refine AnyTill.start (fun w'=>Turn [] W2 w') 27 (by kernel_rfl) ?_;have hS:=T3.drawn 1;change Turn [] W2 w3.drew at hS;generalize w3.drew=Y at *;refine tk 0 28 32 (.pointer (some ⟨b,0,none⟩)) hS ?_;(try go_frame);refine tk 1 28 33 (.agg #[x,y]) hS ?_ (hy:=fun w' hw=>by have e0:=HX.out _ hw;have e1:=HY.out _ hw;have e2:=HR.out _ hw;go_simp);(try go_frame);refine tk1 2 fun K hK=>?_;go_simp;refine (HIn.out _).mono ?_;rintro e w4 ⟨rfl,ht4⟩;have hS:=hS.trans ht4;clear ht4;refine hK _ _ (fun _=>hS) ?_;clear hK K;(try go_frame);cases it;refine tk 3 28 35 (.bool true) hS ?_;(try go_frame);refine tk 4 28 36 (.bool true) hS ?_;(try go_frame);refine tks 5 28 37 hS ?_;(try go_frame);refine tk 6 28 38 (.bool true) hS ?_;(try go_frame);refine tk 7 28 39 (.bool true) hS ?_;(try go_frame);refine tks 8 28 40 hS ?_;(try go_frame);refine tks 9 28 41 hS ?_;(try go_frame);refine tk 10 28 42 (.bool true) hS ?_;(try go_frame);refine tk 11 28 43 (.bool true) hS ?_;(try go_frame);rotate_left;refine tk 3 28 35 (.bool false) hS ?_;(try go_frame);refine tk 4 28 36 (.bool false) hS ?_;(try go_frame);cases z;rotate_left;refine tk 5 28 37 (.bool true) hS ?_;(try go_frame);refine tk 6 28 38 (.bool true) hS ?_;(try go_frame);refine tk 7 28 39 (.bool true) hS ?_;(try go_frame);refine tks 8 28 40 hS ?_;(try go_frame);refine tks 9 28 41 hS ?_;(try go_frame);refine tk 10 28 42 (.bool true) hS ?_;(try go_frame);refine tk 11 28 43 (.bool true) hS ?_;(try go_frame);rotate_left;rotate_left;refine tk 5 28 37 (.bool false) hS ?_;(try go_frame);refine tk 6 28 38 (.bool false) hS ?_;(try go_frame);refine tk 7 28 39 (.bool false) hS ?_;(try go_frame);cases sm;refine tk 8 28 40 (.bool false) hS ?_;(try go_frame);refine tk 9 28 41 (.bool true) hS ?_;(try go_frame);refine tk 10 28 42 (.bool true) hS ?_;(try go_frame);refine tk 11 28 43 (.bool true) hS ?_;(try go_frame);rotate_left;refine tk 8 28 40 (.bool true) hS ?_;(try go_frame);refine tk 9 28 41 (.bool false) hS ?_;(try go_frame);refine tk 10 28 42 (.bool false) hS ?_;(try go_frame);refine tk 11 28 43 (.bool false) hS ?_;(try go_frame);refine tk 12 28 44 ((0:Int)) hS ?_;(try go_frame);refine tk 13 28 45 (.bool false) hS ?_;(try go_frame);refine tk 14 28 46 (.bool false) hS ?_;try go_frame
   ·refine tks 15 28 47 hS ?_;(try go_frame);refine tks 16 28 48 hS ?_;(try go_frame);refine tks 17 28 49 hS ?_;(try go_frame);refine tks 18 28 50 hS ?_;(try go_frame);refine tks 19 28 51 hS ?_;(try go_frame);refine tks 20 28 52 hS ?_;(try go_frame);refine tks 21 28 53 hS ?_;(try go_frame);refine tks 22 28 54 hS ?_;(try go_frame);refine tks 23 28 55 hS ?_;(try go_frame);refine tks 24 28 56 hS ?_;(try go_frame);refine tks 25 28 57 hS ?_;(try go_frame);refine tk 26 28 58 (.bool false) hS ?_;(try go_frame);refine tk1 27 fun K hK=>?_;go_simp;refine hK _ _ (fun h=>absurd rfl h) ?_;clear hK K;(try go_frame);refine tkd ?_;(go_wp2_with fail);exact⟨⟨1,by omega,by go_num,⟨T2.trans hS,HR.out _ hS⟩,fun i hi=>by
     by_cases h:i<0
     ·exact HALL.out i h
     obtain rfl:i=0:=(by omega);exact HYES.out (by rw [HG.out];rfl)⟩,by simp [intOf];omega⟩
   all_goals
    refine tks 12 28 44 hS ?_;(try go_frame);refine tks 13 28 45 hS ?_;(try go_frame);refine tks 14 28 46 hS ?_;(try go_frame);refine tks 15 28 47 hS ?_;(try go_frame);refine tks 16 28 48 hS ?_;(try go_frame);refine tks 17 28 49 hS ?_;(try go_frame);refine tks 18 28 50 hS ?_;(try go_frame);refine tks 19 28 51 hS ?_;(try go_frame);refine tks 20 28 52 hS ?_;(try go_frame);refine tks 21 28 53 hS ?_;(try go_frame);refine tks 22 28 54 hS ?_;(try go_frame);refine tks 23 28 55 hS ?_;(try go_frame);refine tks 24 28 56 hS ?_;(try go_frame);refine tks 25 28 57 hS ?_;(try go_frame);refine tks 26 28 58 hS ?_;(try go_frame);refine tk1 27 fun K hK=>?_;go_simp;refine hK _ _ (fun h=>absurd rfl h) ?_;clear hK K;(try go_frame);refine tkd ?_;(go_wp2_with fail);go_ret;exact⟨by rw [HNO.out (by rw [HG.out];rfl)];rfl,T2.trans hS⟩
  | succ m=>
   have hts:m+1<ts.length:=(by have:=HN.out;omega);obtain⟨p,hp⟩:∃p,ts[m]?=some p:=⟨ts[m]'(by omega),List.getElem?_eq_getElem (by omega)⟩;have hP:∀w',Turn [] W2 w'→w'.cell? ⟨g,o+m*258,none⟩=some (.int .i64 p.x):=fun w' T=>by simpa using (HAA.out w' (T2.trans T) m p hp).2 0 _ rfl
   have hQ:∀w',Turn [] W2 w'→w'.cell? ⟨g,o+m*258+1,none⟩=some (.int .i64 p.y):=fun w' T=>(HAA.out w' (T2.trans T) m p hp).2 1 _ rfl;have hL:=ref_less p.x p.y x y;have hl2:lessT p t=(decide (p.y<y) || decide (p.y=y) && decide (p.x<x)):=(by rw [←HXE.out,←HYE.out];rfl);generalize hls:(decide (p.y<y) || decide (p.y=y) && decide (p.x<x))=ls at *;have hyes:tileGood t=true→ls=true→RasOK ts (m+1):=fun h h2=>by unfold RasOK rasOKb;rw [HT.out];simp [h,hp,hl2,h2]
   have hnl:ls=false→rasterB ts=false:=fun h=>raster_no hts (by unfold RasOK rasOKb;rw [HT.out];simp [hp,hl2,h]);have HYES:=lh hyes;have HNL:=lh hnl;have HP:=lh hP;have HQ:=lh hQ;have HLe:=lh hL;generalize p.x=px at *;generalize p.y=py at *;clear hyes hnl hP hQ hL hl2 hls hp hts;have b2:(0:Int)≤(m:Int):=(by omega);have b3:(m:Int)<(n:Int):=(by omega);have wm:IntKind.i64.wrap (m:Int)=m:=IntWalk.i64_in _ ⟨by omega,by omega⟩;have d2:decide ((0:Int)<((m:Int)+1))=true:=decide_eq_true (by omega);refine AnyTill.start (fun w'=>Turn [] W2 w') 27 (by kernel_rfl) ?_;have hS:=T3.drawn 1;change Turn [] W2 w3.drew at hS;generalize w3.drew=Y at *;refine tk 0 28 32 (.pointer (some ⟨b,0,none⟩)) hS ?_;(try go_frame);refine tk 1 28 33 (.agg #[x,y]) hS ?_ (hy:=fun w' hw=>by have e0:=HX.out _ hw;have e1:=HY.out _ hw;have e2:=HR.out _ hw;go_simp);(try go_frame);refine tk1 2 fun K hK=>?_;go_simp;refine (HIn.out _).mono ?_;rintro e w4 ⟨rfl,ht4⟩;have hS:=hS.trans ht4;clear ht4;refine hK _ _ (fun _=>hS) ?_;clear hK K;(try go_frame);cases it;refine tk 3 28 35 (.bool true) hS ?_;(try go_frame);refine tk 4 28 36 (.bool true) hS ?_;(try go_frame);refine tks 5 28 37 hS ?_;(try go_frame);refine tk 6 28 38 (.bool true) hS ?_;(try go_frame);refine tk 7 28 39 (.bool true) hS ?_;(try go_frame);refine tks 8 28 40 hS ?_;(try go_frame);refine tks 9 28 41 hS ?_;(try go_frame);refine tk 10 28 42 (.bool true) hS ?_;(try go_frame);refine tk 11 28 43 (.bool true) hS ?_;(try go_frame);rotate_left;refine tk 3 28 35 (.bool false) hS ?_;(try go_frame);refine tk 4 28 36 (.bool false) hS ?_;(try go_frame);cases z;rotate_left;refine tk 5 28 37 (.bool true) hS ?_;(try go_frame);refine tk 6 28 38 (.bool true) hS ?_;(try go_frame);refine tk 7 28 39 (.bool true) hS ?_;(try go_frame);refine tks 8 28 40 hS ?_;(try go_frame);refine tks 9 28 41 hS ?_;(try go_frame);refine tk 10 28 42 (.bool true) hS ?_;(try go_frame);refine tk 11 28 43 (.bool true) hS ?_;(try go_frame);rotate_left;rotate_left;refine tk 5 28 37 (.bool false) hS ?_;(try go_frame);refine tk 6 28 38 (.bool false) hS ?_;(try go_frame);refine tk 7 28 39 (.bool false) hS ?_;(try go_frame);cases sm;refine tk 8 28 40 (.bool false) hS ?_;(try go_frame);refine tk 9 28 41 (.bool true) hS ?_;(try go_frame);refine tk 10 28 42 (.bool true) hS ?_;(try go_frame);refine tk 11 28 43 (.bool true) hS ?_;(try go_frame);rotate_left;refine tk 8 28 40 (.bool true) hS ?_;(try go_frame);refine tk 9 28 41 (.bool false) hS ?_;(try go_frame);refine tk 10 28 42 (.bool false) hS ?_;(try go_frame);refine tk 11 28 43 (.bool false) hS ?_;(try go_frame);refine tk 12 28 44 (.int .i64 ((m:Int)+1)) hS ?_;(try go_frame);refine tk 13 28 45 (.bool true) hS ?_;(try go_frame);refine tk 14 28 46 (.bool true) hS ?_;(try go_frame);refine tk 15 28 47 (.pointer (some ⟨w,0,none⟩)) hS ?_;(try go_frame);refine tk 16 28 48 (.slice (some ⟨g,o,none⟩) n cap) hS ?_ (hy:=fun w' hw=>by have e0:=HX.out _ hw;have e1:=HY.out _ hw;have e2:=HR.out _ hw;go_simp);(try go_frame);refine tk 17 28 49 (.int .i64 ((m:Int)+1)) hS ?_;(try go_frame);refine tk 18 28 50 ((m:Int)) hS ?_;(try go_frame);refine tk 19 28 51 (.pointer (some ⟨g,o+m*258,none⟩)) hS ?_;(try go_frame);refine tk 20 28 52 (.pointer (some ⟨g,o+m*258,none⟩)) hS ?_;(try go_frame);refine tk 21 28 53 (.agg #[px,py]) hS ?_ (hy:=fun w' hw=>by have e0:=HP.out _ hw;have e1:=HQ.out _ hw;go_simp);(try go_frame);refine tk 22 28 54 (.pointer (some ⟨b,0,none⟩)) hS ?_;(try go_frame);refine tk 23 28 55 (.agg #[x,y]) hS ?_ (hy:=fun w' hw=>by have e0:=HX.out _ hw;have e1:=HY.out _ hw;have e2:=HR.out _ hw;go_simp);(try go_frame);refine tk1 24 fun K hK=>?_;go_simp;refine (HLe.out _).mono ?_;rintro e w5 ⟨rfl,ht5⟩;have hS:=hS.trans ht5;clear ht5;refine hK _ _ (fun _=>hS) ?_;clear hK K;(try go_frame);cases ls
   ·refine tk 25 28 57 (.bool true) hS ?_;(try go_frame);refine tk 26 28 58 (.bool true) hS ?_;(try go_frame);refine tk1 27 fun K hK=>?_;go_simp;refine hK _ _ (fun h=>absurd rfl h) ?_;clear hK K;(try go_frame);refine tkd ?_;(go_wp2_with fail);go_ret;exact⟨by rw [HNL.out (by first | rfl | trivial)];rfl,T2.trans hS⟩
   ·refine tk 25 28 57 (.bool false) hS ?_;(try go_frame);refine tk 26 28 58 (.bool false) hS ?_;(try go_frame);refine tk1 27 fun K hK=>?_;go_simp;refine hK _ _ (fun h=>absurd rfl h) ?_;clear hK K;(try go_frame);refine tkd ?_;(go_wp2_with fail);exact⟨⟨m+2,by omega,by go_num,⟨T2.trans hS,HR.out _ hS⟩,fun i hi=>by
     by_cases h:i<m+1
     ·exact HALL.out i h
     obtain rfl:i=m+1:=(by omega);exact HYES.out (by rw [HG.out];rfl) rfl⟩,by simp [intOf];omega⟩
   all_goals
    refine tks 12 28 44 hS ?_;(try go_frame);refine tks 13 28 45 hS ?_;(try go_frame);refine tks 14 28 46 hS ?_;(try go_frame);refine tks 15 28 47 hS ?_;(try go_frame);refine tks 16 28 48 hS ?_;(try go_frame);refine tks 17 28 49 hS ?_;(try go_frame);refine tks 18 28 50 hS ?_;(try go_frame);refine tks 19 28 51 hS ?_;(try go_frame);refine tks 20 28 52 hS ?_;(try go_frame);refine tks 21 28 53 hS ?_;(try go_frame);refine tks 22 28 54 hS ?_;(try go_frame);refine tks 23 28 55 hS ?_;(try go_frame);refine tks 24 28 56 hS ?_;(try go_frame);refine tks 25 28 57 hS ?_;(try go_frame);refine tks 26 28 58 hS ?_;(try go_frame);refine tk1 27 fun K hK=>?_;go_simp;refine hK _ _ (fun h=>absurd rfl h) ?_;clear hK K;(try go_frame);refine tkd ?_;(go_wp2_with fail);go_ret;exact⟨by rw [HNO.out (by rw [HG.out];rfl)];rfl,T2.trans hS⟩
 obtain rfl:k=n:=by omega
 have hT:=hF.t;have hc0:=hF.c;go_wp2_with fail
 go_ret;exact⟨by rw [raster_yes (by have:=HN.out;omega) (fun i hi=>HALL.out i (by have:=HN.out;omega))];rfl,hT⟩
theorem cmp_any(x y:Int)(w:World): Calls prog 216 #[x,y] w fun e w'=>e=.returned (.int .i64 (if x<y then -1 else if y<x then 1 else 0))∧w'=w:=by
 have H:=lh cmp_nan;by_cases h1:x<y
 ·have hd:decide (x<y)=true:=decide_eq_true h1;rw [if_pos h1];go_enter func216,ntmps216;go_wp2_with (go_at_call 220;refine (H.out _ _).mono ?_;rintro e w1 ⟨rfl,rfl⟩)
  go_ret;exact⟨rfl,rfl⟩
 have hd:decide (x<y)=false:=decide_eq_false h1;rw [if_neg h1];by_cases h2:y<x
 ·have hd2:decide (y<x)=true:=decide_eq_true h2;rw [if_pos h2];go_enter func216,ntmps216;go_wp2_with (go_at_call 220;refine (H.out _ _).mono ?_;rintro e w1 ⟨rfl,rfl⟩)
  go_ret;exact⟨rfl,rfl⟩
 have hd2:decide (y<x)=false:=decide_eq_false h2;rw [if_neg h2];go_enter func216,ntmps216;go_wp2_with (go_at_call 220;refine (H.out _ _).mono ?_;rintro e w1 ⟨rfl,rfl⟩)
 go_ret;exact⟨rfl,rfl⟩
theorem cmp_or(c d:Int)(g:Nat)(w:World)(h0:w.cell? ⟨g,0,none⟩=some (.int .i64 c))(h1:w.cell? ⟨g,1,none⟩=some (.int .i64 d)):
  Calls prog 215 #[.slice (some ⟨g,0,none⟩) 2 2] w fun e w'=>e=.returned (.int .i64 (if c=0 then d else c))∧w'=w:=by
 go_enter func215,ntmps215;go_wp2_with fail
 go_loop [8] (fun s8=>∃k:Nat,k≤2∧s8=k∧(1≤k→c=0)∧(2≤k→d=0)) (fun s8=>2 - (intOf s8).toNat);case atStart=>exact⟨0,by omega,rfl,fun h=>by omega,fun h=>by omega⟩
 obtain⟨k,hk,rfl,hc,hd⟩:=hrel;have h3:k=0∨k=1∨k=2:=by omega
 rcases h3 with rfl | rfl | rfl
 ·by_cases hz:c=0
  ·subst hz;clear hc hd hk;(go_wp2_with fail);go_round;case rel=>exact⟨1,by omega,by go_num,fun _=>by first | rfl | trivial,fun h=>by omega⟩
   simp [intOf]
  clear hc hd hk;go_wp2_with fail
  go_ret;exact⟨by first | rfl | (rw [if_neg hz];rfl),rfl⟩
 ·have hz:=hc (by omega);subst hz;by_cases hz:d=0
  ·subst hz;clear hc hd hk;(go_wp2_with fail);go_round;case rel=>exact⟨2,by omega,by go_num,fun _=>by first | rfl | trivial,fun _=>by first | rfl | trivial⟩
   simp [intOf]
  clear hc hd hk;go_wp2_with fail
  go_ret;exact⟨by simp,rfl⟩
 have hz:=hc (by omega);have hz2:=hd (by omega);subst hz hz2;clear hc hd hk;go_wp2_with fail
 go_ret;exact⟨by simp,rfl⟩
theorem cmp_or_new(c d:Int)(u:World)(g:Nat)(hg:g=u.heap.size):
  Calls prog 215 #[.slice (some ⟨g,0,none⟩) 2 2] (u.alloc (.cells #[c,d] 3)) fun e w'=>e=.returned (.int .i64 (if c=0 then d else c))∧w'=u.alloc (.cells #[c,d] 3):=by
 subst hg;exact cmp_or c d _ _ (by simp [go_sem]) (by simp [go_sem])
theorem order_less(ax ay bx by':Int)(h:(decide (ay<by') || decide (ay=by') && decide (ax<bx))=true)(w:World):
  Calls prog 206 #[.agg #[ax,ay],.agg #[bx,by']] w fun e w'=>e=.returned (.int .i64 (-1))∧Turn [] w w':=by
 have h1:=cmp_any ay by';have h2:=cmp_any ax bx;have hr:(if (if ay<by' then (-1:Int) else if by'<ay then 1 else 0)=0 then (if ax<bx then (-1:Int) else if bx<ax then 1 else 0) else (if ay<by' then (-1:Int) else if by'<ay then 1 else 0))=-1:=by
  by_cases a:ay<by'
  ·simp [a]
  simp [a]at h;obtain⟨rfl,b⟩:=h;simp [b]
 generalize (if ay<by' then (-1:Int) else if by'<ay then 1 else 0)=c at *;generalize (if ax<bx then (-1:Int) else if bx<ax then 1 else 0)=d at *;have ho:=fun u g hg=>cmp_or_new c d u g hg;rw [hr]at ho;have H1:=lh h1;have H2:=lh h2;have HO:=lh ho;clear h1 h2 ho hr h;have T0:=((tR w).alloc (.cells #[ax,ay] 133)).alloc (.cells #[bx,by'] 133);have c0:((w.alloc (.cells #[ax,ay] 133)).alloc (.cells #[bx,by'] 133)).cell? ⟨w,0,none⟩=some (.int .i64 ax):=by simp [go_sem]
 have c1:((w.alloc (.cells #[ax,ay] 133)).alloc (.cells #[bx,by'] 133)).cell? ⟨w,1,none⟩=some (.int .i64 ay):=by simp [go_sem]
 have c2:((w.alloc (.cells #[ax,ay] 133)).alloc (.cells #[bx,by'] 133)).cell? ⟨w.heap.size+1,0,none⟩=some (.int .i64 bx):=by simp [go_sem]
 have c3:((w.alloc (.cells #[ax,ay] 133)).alloc (.cells #[bx,by'] 133)).cell? ⟨w.heap.size+1,1,none⟩=some (.int .i64 by'):=by simp [go_sem]
 go_enter func206,ntmps206;go_wp2_with fail
 generalize (w.alloc (.cells #[ax,ay] 133)).alloc (.cells #[bx,by'] 133)=W at *;have C0:Hid (∀w',Turn [] W w'→w'.cell? ⟨w,0,none⟩=some (.int .i64 ax)):=lh fun w' T=>by rw [(tcell T).1 _ _ (block_lt_of_cell c0)];exact c0
 have C1:Hid (∀w',Turn [] W w'→w'.cell? ⟨w,1,none⟩=some (.int .i64 ay)):=lh fun w' T=>by rw [(tcell T).1 _ _ (block_lt_of_cell c1)];exact c1
 have C2:Hid (∀w',Turn [] W w'→w'.cell? ⟨w.heap.size+1,0,none⟩=some (.int .i64 bx)):=lh fun w' T=>by rw [(tcell T).1 _ _ (block_lt_of_cell c2)];exact c2
 have C3:Hid (∀w',Turn [] W w'→w'.cell? ⟨w.heap.size+1,1,none⟩=some (.int .i64 by')):=lh fun w' T=>by rw [(tcell T).1 _ _ (block_lt_of_cell c3)];exact c3
 clear c0 c1 c2 c3;refine AnyTill.start (fun w'=>Turn [] W w') 12 (by kernel_rfl) ?_;have hS:=(tR W).drawn 1;change Turn [] W W.drew at hS;generalize W.drew=Y at *;refine tk 0 13 5 (.pointer (some ⟨w,1,none⟩)) hS ?_;try go_frame
 refine tk 1 13 6 ay hS ?_ (hy:=fun w' hw=>by have e0:=C0.out _ hw;have e1:=C1.out _ hw;have e2:=C2.out _ hw;have e3:=C3.out _ hw;go_simp);try go_frame
 refine tk 2 13 7 (.pointer (some ⟨w.heap.size+1,1,none⟩)) hS ?_;try go_frame
 refine tk 3 13 8 by' hS ?_ (hy:=fun w' hw=>by have e0:=C0.out _ hw;have e1:=C1.out _ hw;have e2:=C2.out _ hw;have e3:=C3.out _ hw;go_simp);try go_frame
 refine tk 5 13 10 (.pointer (some ⟨w,0,none⟩)) hS ?_;try go_frame
 refine tk 6 13 11 ax hS ?_ (hy:=fun w' hw=>by have e0:=C0.out _ hw;have e1:=C1.out _ hw;have e2:=C2.out _ hw;have e3:=C3.out _ hw;go_simp);try go_frame
 refine tk 7 13 12 (.pointer (some ⟨w.heap.size+1,0,none⟩)) hS ?_;try go_frame
 refine tk 8 13 13 bx hS ?_ (hy:=fun w' hw=>by have e0:=C0.out _ hw;have e1:=C1.out _ hw;have e2:=C2.out _ hw;have e3:=C3.out _ hw;go_simp);try go_frame
 refine tk1 4 fun K hK=>?_;go_simp;refine (H1.out _).mono ?_;rintro e w1 ⟨rfl,rfl⟩;refine hK _ _ (fun _=>hS) ?_;clear hK K;try go_frame
 refine tk1 9 fun K hK=>?_;go_simp;refine (H2.out _).mono ?_;rintro e w1 ⟨rfl,rfl⟩;refine hK _ _ (fun _=>hS) ?_;clear hK K;try go_frame
 refine tk1 10 fun K hK=>?_;go_simp;refine hK _ _ (fun _=>hS.alloc _) ?_;clear hK K;try go_frame
 refine tk1 11 fun K hK=>?_;go_simp;refine (HO.out _ _ rfl).mono ?_;rintro e w1 ⟨rfl,rfl⟩;refine hK _ _ (fun _=>hS.alloc _) ?_;clear hK K;try go_frame
 refine tk1 12 fun K hK=>?_;go_simp;refine hK _ _ (fun h=>absurd rfl h) ?_;clear hK K;try go_frame
 refine tkd ?_;go_wp2_with fail
 go_ret;exact⟨rfl,T0.trans (hS.alloc _)⟩
set_option linter.unusedSimpArgs false in
theorem prog_inTile(x y:Int)(h1:-8192≤x)(h2:x≤8191)(h3:-8192≤y)(h4:y≤8191)(w:World): Calls prog 205 #[.agg #[x,y]] w fun e w'=>e=.returned (.bool true)∧Turn [] w w':=by
 go_enter func205,ntmps205;go_wp2_with fail
 go_ret;exact⟨by simp [h1,h2,h3,h4],(Turn.refl _ _).alloc _⟩
theorem prog_raster(ts:List TileM)(hb:rasterB ts=true)(A:Option Addr)(n cap:Nat)(w:World)(h:TilesAt w A n ts):
  Calls prog 186 #[.agg #[.slice A n cap]] w fun e w'=>e=.returned (.bool true)∧Turn [] w w':=by
 have hn:=h.1;unfold rasterB at hb;rw [Bool.and_eq_true]at hb;have hlen:=of_decide_eq_true hb.1;have hall:=List.all_eq_true.1 hb.2;have hbig:¬1024<n:=by omega
 have d1:decide (1024<(n:Int))=false:=decide_eq_false (by omega);have hA:1≤n→∃g o,A=some ⟨g,o,none⟩∧∀w',Turn [] w w'→∀j t,ts[j]?=some t→okPx t.px∧w'.rangeAt g (o+j*258) t.row:=fun h1=>h.get h1;have HALL:Hid (∀k,k<ts.length→rasOKb ts k=true):=lh fun k hk=>hall k (List.mem_range.2 hk);have HA:=lh hA;have HN:=lh hn;clear hA hn h hall hb hlen;have T0:Turn [] _ _:=(tR w).alloc (.cells #[.slice A n cap] 87);go_enter func186,ntmps186;go_wp2_with fail
 go_loopw [12] (fun s12 wr=>∃k:Nat,k≤n∧s12=k∧Turn [] w wr∧wr.cell? ⟨w,0,none⟩=some (.slice A n cap)) (fun s12 _=>n - (intOf s12).toNat);case atStart=>exact⟨0,by omega,rfl,T0,by simp [go_sem]⟩
 clear T0;obtain⟨k,hk,rfl,hFt,hFc⟩:=hrel;by_cases hlt:k<n
 ·obtain⟨g,o,rfl,hA⟩:=HA.out (by omega);have hts:k<ts.length:=by have:=HN.out;omega
  obtain⟨t,ht⟩:∃t,ts[k]?=some t:=⟨ts[k],by simp [hts]⟩;have hok:=HALL.out k hts;have HOK:=lh hok;have hgood:tileGood t=true:=by unfold rasOKb at hok;rw [ht]at hok;simp only [Bool.and_eq_true]at hok;exact hok.1
  clear hok;unfold tileGood at hgood;simp only [Bool.and_eq_true,Bool.not_eq_true']at hgood;obtain⟨⟨hin,hzero⟩,hclean⟩:=hgood;obtain⟨ok,hR⟩:=hA wr hFt k t ht;have hcl:tclean t.px=t.px:=(tsame_iff (by simp [tclean]) ok.1).1 hclean;have hlen:t.row.length=258:=by simp [TileM.row,ok.1]
  have hone:(⟨t.row⟩:Array Value).all (·.oneCell')=true:=all_oneCell_toArray (cs:=t.row) (fun v hv=>by
   rcases List.mem_cons.1 hv with rfl | hv
   ·rfl
   rcases List.mem_cons.1 hv with rfl | hv
   ·rfl
   obtain⟨x,_,rfl⟩:=List.mem_map.1 hv;rfl)
  have hc0:=hFc;have haT:(Instr.alloc 171 true (.tuple #[])).run prog wr=.ok (.pointer (some ⟨wr,0,none⟩)) (wr.alloc (.cells zeroCells171 171)):=by unfold Instr.alloc;rw [Sem.run_bind,(zero_of_info infoTA).1];rfl
  have hiT:(prog.info? 171).map (·.size)=some t.row.length:=by rw [hlen];exact (zero_of_info infoTA).2
  have hst:(Instr.storeAt 171 (.pointer (some ⟨wr,0,none⟩)) (.agg ⟨t.row⟩)).run prog (wr.alloc (.cells zeroCells171 171))=.ok () (wr.alloc (.cells ⟨t.row⟩ 171)):=
   run_storeAt_new wr 171 zeroCells171 ⟨t.row⟩ hiT (by rw [show zeroCells171.size=258 by kernel_rfl];exact hlen.symm) hone
  have HF:=lh hFt;have HAA:=lh hA;have HT:=lh ht;have b0:(0:Int)≤(k:Int):=by omega
  have b1:(k:Int)<(n:Int):=by omega
  clear hA ht hone hlen;generalize hrow:t.row=row at *;go_upto_region 6 with (first
   | (refine wpList_load_mid rfl 171 _ rfl _ _ rfl _ _ hR underlying171 rfl hiT ?_)
   | (refine wpList_store_run rfl 171 _ _ rfl rfl rfl hst ?_))
  have r0:(wr.alloc (.cells ⟨row⟩ 171)).cell? ⟨wr,0,none⟩=some (.int .i64 t.x):=by rw [cell_of_row _ _ _ _ 171 (0,0) (heap_alloc_new wr _),←hrow];rfl
  have r1:(wr.alloc (.cells ⟨row⟩ 171)).cell? ⟨wr,1,none⟩=some (.int .i64 t.y):=by rw [cell_of_row _ _ _ _ 171 (0,0) (heap_alloc_new wr _),←hrow];rfl
  have r2:(wr.alloc (.cells ⟨row⟩ 171)).rangeAt wr.heap.size 2 (t.px.map (Value.int .u8)):=by intro j v hv;rw [cell_of_row _ _ _ _ 171 (0,0) (heap_alloc_new wr _),←hrow,Nat.add_comm 2 j,←hv];show (t.row.toArray)[j+2]?=_;rw [List.getElem?_toArray];rfl
  have hlx:(t.px.map (Value.int .u8)).length=256:=by rw [List.length_map,ok.1]
  have rc:(wr.alloc (.cells ⟨row⟩ 171)).cell? ⟨w,0,none⟩=some (.slice (some ⟨g,o,none⟩) n cap):=by rw [(tcell ((tR wr).alloc _)).1 _ _ (block_lt_of_cell hc0)];exact hc0
  have T2:=HF.out.alloc (.cells ⟨row⟩ 171);clear hst haT hiT hR hc0;generalize wr.alloc (.cells ⟨row⟩ 171)=W2 at *;generalize wr.heap.size=b at *;have hze:=tile_zero t.px ok;rw [hzero]at hze;have hclc:=tile_clean t.px ok.1;rw [hcl]at hclc;unfold inTile at hin;simp only [Bool.and_eq_true,decide_eq_true_eq]at hin;have hInn:=prog_inTile t.x t.y hin.1.1.1 hin.1.1.2 hin.1.2 hin.2;have hne:∀w,(binOp .neq 66 (tv t.px) (tv t.px)).run prog w=.ok (.bool false) w:=fun w=>by have:=tile_cmp ok ok w;unfold tv at this ⊢;simp [binOp,Op.equal,show Op.maxDepth=10000 from rfl,this,Result.andThen]
  have HZe:=lh hze;have HCl:=lh hclc;have HIn:=lh hInn;have HNE:=lh hne;have hi66:(prog.info? 66).map (·.size)=some (t.px.map (Value.int .u8)).length:=by rw [hlx,info66]
  have hld:∀w',Turn [] W2 w'→(Instr.loadAt 66 (.pointer (some ⟨b,2,none⟩))).run prog w'=.ok (tv t.px) w':=fun w' T=>run_loadAt_mid w' b 2 66 _ _ (range_turn T r2) underlying66 rfl hi66;have HL:=lh hld;clear hi66 hlx hld hze hclc hInn hne hzero hclean hcl hin;unfold tv at *;have c0:∀w',Turn [] W2 w'→w'.cell? ⟨b,0,none⟩=some (.int .i64 t.x):=fun w' T=>by rw [(tcell T).1 _ _ (block_lt_of_cell r0)];exact r0
  have c1:∀w',Turn [] W2 w'→w'.cell? ⟨b,1,none⟩=some (.int .i64 t.y):=fun w' T=>by rw [(tcell T).1 _ _ (block_lt_of_cell r1)];exact r1
  have c2:∀w',Turn [] W2 w'→w'.cell? ⟨w,0,none⟩=some (.slice (some ⟨g,o,none⟩) n cap):=fun w' T=>by rw [(tcell T).1 _ _ (block_lt_of_cell rc)];exact rc
  have HX:=lh c0;have HY:=lh c1;have HR:=lh c2;clear r0 r1 r2 rc c0 c1 c2;generalize t.px.map (Value.int .u8)=cl at *;generalize hxe:t.x=x at *;generalize hye:t.y=y at *;have HXE:=lh hxe;have HYE:=lh hye;clear hxe hye hFc hFt;cases k with
  | zero=>
   refine AnyTill.start (fun w'=>Turn [] W2 w') 33 (by kernel_rfl) ?_;have hS:=(tR W2).drawn 1;change Turn [] W2 W2.drew at hS;generalize W2.drew=Y at *;refine tk 0 34 17 (.pointer (some ⟨b,0,none⟩)) hS ?_;(try go_frame);refine tk 1 34 18 (.agg #[x,y]) hS ?_ (hy:=fun w' hw=>by have e0:=HX.out _ hw;have e1:=HY.out _ hw;have e2:=HR.out _ hw;go_simp);(try go_frame);refine tk1 2 fun K hK=>?_;go_simp;refine (HIn.out _).mono ?_;rintro e w3 ⟨rfl,hw3⟩;have hS:=hS.trans hw3;clear hw3;refine hK _ _ (fun _=>hS) ?_;clear hK K;(try go_frame);refine tk 3 34 20 (.bool false) hS ?_;(try go_frame);refine tk 4 34 21 (.bool false) hS ?_;(try go_frame);refine tk 5 34 22 (.pointer (some ⟨b,2,none⟩)) hS ?_;(try go_frame);refine tk 6 34 23 (.agg ⟨cl⟩) hS ?_ rfl (hy:=fun w' hw=>exec_load rfl rfl (HL.out w' hw));(try go_frame);refine tk1 7 fun K hK=>?_;go_simp;refine (HZe.out _).mono ?_;rintro e w4 ⟨rfl,hw4⟩;have hS:=hS.trans hw4;clear hw4;refine hK _ _ (fun _=>hS) ?_;clear hK K;(try go_frame);refine tk 8 34 25 (.bool false) hS ?_;(try go_frame);refine tk 9 34 26 (.bool false) hS ?_;(try go_frame);refine tk 10 34 27 (.pointer (some ⟨b,2,none⟩)) hS ?_;(try go_frame);refine tk 11 34 28 (.agg ⟨cl⟩) hS ?_ rfl (hy:=fun w' hw=>exec_load rfl rfl (HL.out w' hw));(try go_frame);refine tk 13 34 30 (.pointer (some ⟨b,2,none⟩)) hS ?_;(try go_frame);refine tk 14 34 31 (.agg ⟨cl⟩) hS ?_ rfl (hy:=fun w' hw=>exec_load rfl rfl (HL.out w' hw));(try go_frame);refine tk1 12 fun K hK=>?_;go_simp;refine (HCl.out _).mono ?_;rintro e w5 ⟨rfl,hw5⟩;have hS:=hS.trans hw5;clear hw5;refine hK _ _ (fun _=>hS) ?_;clear hK K;(try go_frame);refine tk 15 34 32 (.bool false) hS ?_ (hy:=fun w' hw=>by have e0:=HNE.out;go_simp);(try go_frame);refine tk 16 34 33 (.bool false) hS ?_;(try go_frame);refine tk 17 34 34 (.bool false) hS ?_;(try go_frame);refine tk 18 34 35 ((0:Int)) hS ?_;(try go_frame);refine tk 19 34 36 (.bool false) hS ?_;(try go_frame);refine tk 20 34 37 (.bool false) hS ?_;(try go_frame);refine tks 21 34 38 hS ?_;(try go_frame);refine tks 22 34 39 hS ?_;(try go_frame);refine tks 23 34 40 hS ?_;(try go_frame);refine tks 24 34 41 hS ?_;(try go_frame);refine tks 25 34 42 hS ?_;(try go_frame);refine tks 26 34 43 hS ?_;(try go_frame);refine tks 27 34 44 hS ?_;(try go_frame);refine tks 28 34 45 hS ?_;(try go_frame);refine tks 29 34 46 hS ?_;(try go_frame);refine tks 30 34 47 hS ?_;(try go_frame);refine tks 31 34 48 hS ?_;(try go_frame);refine tk 32 34 49 (.bool false) hS ?_;(try go_frame);refine tk1 33 fun K hK=>?_;go_simp;refine hK _ _ (fun h=>absurd rfl h) ?_;clear hK K;(try go_frame);refine tkd ?_;(go_wp2_with fail);exact⟨⟨1,by omega,by go_num,T2.trans hS,HR.out _ hS⟩,by simp [intOf];omega⟩
  | succ m=>
   obtain⟨p,hp⟩:∃p,ts[m]?=some p:=⟨ts[m]'(by omega),List.getElem?_eq_getElem (by omega)⟩;have hP:∀w',Turn [] W2 w'→w'.cell? ⟨g,o+m*258,none⟩=some (.int .i64 p.x):=fun w' T=>by simpa using (HAA.out w' (T2.trans T) m p hp).2 0 _ rfl
   have hQ:∀w',Turn [] W2 w'→w'.cell? ⟨g,o+m*258+1,none⟩=some (.int .i64 p.y):=fun w' T=>(HAA.out w' (T2.trans T) m p hp).2 1 _ rfl;have hl2:lessT p t=true:=(by have:=HOK.out;unfold rasOKb at this;rw [HT.out]at this;simp only [Bool.and_eq_true,hp]at this;exact this.2);have hL:=order_less p.x p.y x y (by rw [←HXE.out,←HYE.out];exact hl2);have HP:=lh hP;have HQ:=lh hQ;have HLe:=lh hL;generalize p.x=px at *;generalize p.y=py at *;clear hP hQ hL hl2 hp;have b2:(0:Int)≤(m:Int):=(by omega);have b3:(m:Int)<(n:Int):=(by omega);have wm:IntKind.i64.wrap (m:Int)=m:=IntWalk.i64_in _ ⟨by omega,by omega⟩;have d2:decide ((0:Int)<((m:Int)+1))=true:=decide_eq_true (by omega);refine AnyTill.start (fun w'=>Turn [] W2 w') 33 (by kernel_rfl) ?_;have hS:=(tR W2).drawn 1;change Turn [] W2 W2.drew at hS;generalize W2.drew=Y at *;refine tk 0 34 17 (.pointer (some ⟨b,0,none⟩)) hS ?_;(try go_frame);refine tk 1 34 18 (.agg #[x,y]) hS ?_ (hy:=fun w' hw=>by have e0:=HX.out _ hw;have e1:=HY.out _ hw;have e2:=HR.out _ hw;go_simp);(try go_frame);refine tk1 2 fun K hK=>?_;go_simp;refine (HIn.out _).mono ?_;rintro e w3 ⟨rfl,hw3⟩;have hS:=hS.trans hw3;clear hw3;refine hK _ _ (fun _=>hS) ?_;clear hK K;(try go_frame);refine tk 3 34 20 (.bool false) hS ?_;(try go_frame);refine tk 4 34 21 (.bool false) hS ?_;(try go_frame);refine tk 5 34 22 (.pointer (some ⟨b,2,none⟩)) hS ?_;(try go_frame);refine tk 6 34 23 (.agg ⟨cl⟩) hS ?_ rfl (hy:=fun w' hw=>exec_load rfl rfl (HL.out w' hw));(try go_frame);refine tk1 7 fun K hK=>?_;go_simp;refine (HZe.out _).mono ?_;rintro e w4 ⟨rfl,hw4⟩;have hS:=hS.trans hw4;clear hw4;refine hK _ _ (fun _=>hS) ?_;clear hK K;(try go_frame);refine tk 8 34 25 (.bool false) hS ?_;(try go_frame);refine tk 9 34 26 (.bool false) hS ?_;(try go_frame);refine tk 10 34 27 (.pointer (some ⟨b,2,none⟩)) hS ?_;(try go_frame);refine tk 11 34 28 (.agg ⟨cl⟩) hS ?_ rfl (hy:=fun w' hw=>exec_load rfl rfl (HL.out w' hw));(try go_frame);refine tk 13 34 30 (.pointer (some ⟨b,2,none⟩)) hS ?_;(try go_frame);refine tk 14 34 31 (.agg ⟨cl⟩) hS ?_ rfl (hy:=fun w' hw=>exec_load rfl rfl (HL.out w' hw));(try go_frame);refine tk1 12 fun K hK=>?_;go_simp;refine (HCl.out _).mono ?_;rintro e w5 ⟨rfl,hw5⟩;have hS:=hS.trans hw5;clear hw5;refine hK _ _ (fun _=>hS) ?_;clear hK K;(try go_frame);refine tk 15 34 32 (.bool false) hS ?_ (hy:=fun w' hw=>by have e0:=HNE.out;go_simp);(try go_frame);refine tk 16 34 33 (.bool false) hS ?_;(try go_frame);refine tk 17 34 34 (.bool false) hS ?_;(try go_frame);refine tk 18 34 35 (.int .i64 ((m:Int)+1)) hS ?_;(try go_frame);refine tk 19 34 36 (.bool true) hS ?_;(try go_frame);refine tk 20 34 37 (.bool true) hS ?_;(try go_frame);refine tk 21 34 38 (.pointer (some ⟨w,0,none⟩)) hS ?_;(try go_frame);refine tk 22 34 39 (.slice (some ⟨g,o,none⟩) n cap) hS ?_ (hy:=fun w' hw=>by have e0:=HX.out _ hw;have e1:=HY.out _ hw;have e2:=HR.out _ hw;go_simp);(try go_frame);refine tk 23 34 40 (.int .i64 ((m:Int)+1)) hS ?_;(try go_frame);refine tk 24 34 41 ((m:Int)) hS ?_;(try go_frame);refine tk 25 34 42 (.pointer (some ⟨g,o+m*258,none⟩)) hS ?_;(try go_frame);refine tk 26 34 43 (.pointer (some ⟨g,o+m*258,none⟩)) hS ?_;(try go_frame);refine tk 27 34 44 (.agg #[px,py]) hS ?_ (hy:=fun w' hw=>by have e0:=HP.out _ hw;have e1:=HQ.out _ hw;go_simp);(try go_frame);refine tk 28 34 45 (.pointer (some ⟨b,0,none⟩)) hS ?_;(try go_frame);refine tk 29 34 46 (.agg #[x,y]) hS ?_ (hy:=fun w' hw=>by have e0:=HX.out _ hw;have e1:=HY.out _ hw;have e2:=HR.out _ hw;go_simp);(try go_frame);refine tk1 30 fun K hK=>?_;go_simp;refine (HLe.out _).mono ?_;rintro e w6 ⟨rfl,hw6⟩;have hS:=hS.trans hw6;clear hw6;refine hK _ _ (fun _=>hS) ?_;clear hK K;(try go_frame);refine tk 31 34 48 (.bool false) hS ?_;(try go_frame);refine tk 32 34 49 (.bool false) hS ?_;(try go_frame);refine tk1 33 fun K hK=>?_;go_simp;refine hK _ _ (fun h=>absurd rfl h) ?_;clear hK K;(try go_frame);refine tkd ?_;(go_wp2_with fail);exact⟨⟨m+2,by omega,by go_num,T2.trans hS,HR.out _ hS⟩,by simp [intOf];omega⟩
 obtain rfl:k=n:=by omega
 go_wp2_with fail
 go_ret;exact⟨rfl,hFt⟩
end Go.Proofs.YtbpklgllihhgpaaGreat
