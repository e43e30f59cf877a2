import Derived.Laws.MakeOwn
import Derived.Test.YtbpklgllihhgpaaGreatR35
import Derived.Test.YtbpklgllihhgpaaGreatR36
import Derived.Test.YtbpklgllihhgpaaGreatR37
import Derived.Test.YtbpklgllihhgpaaGreatR38
set_option maxRecDepth 100000
set_option maxHeartbeats 16000000
namespace Go.Proofs.YtbpklgllihhgpaaGreat
open Tryz Go.RowKit Go.Den
def depsOf(ls:List LayerM)(id:Int)(r:Rc): List DepM:=match layerAt ls id with
 | none=>[]
 | some l=>if r.can.empty=true then [] else depsM ls l id r.can
def IsDeps(w w':World)(ds:List DepM)(e:Ending): Prop:=∃v,e=.returned v∧OwnD w' w.heap.size v ds
structure DpW(w wr:World)(dv:Array Value)(q:Rc)(b:Nat)(l:LayerM): Prop where
 t:Turn [] w wr
 h0:wr.heap[w.heap.size]?=some (.cells dv 29 (0,0))
 h1:wr.heap[w.heap.size+1]?=some (.cells (rcs q) 24 (0,0))
 h2:wr.heap[b]?=some (.cells ⟨l.row⟩ 89 (0,0))
 lt:w.heap.size+1<b
theorem DpW.turn{w wr u:World}{dv:Array Value}{q:Rc}{b:Nat}{l:LayerM}(P:DpW w wr dv q b l){bs:List Nat}(T:Turn bs wr u)(hb:∀g∈bs,b<g): DpW w u dv q b l:=by
 have h2:=(Array.getElem?_eq_some_iff.1 P.h2).1;have hlt:=P.lt;have no:∀x,x≤b→x∉bs:=fun x hx hm=>by have:=hb x hm;omega
 exact⟨turn_new P.t T (fun g hg=>by have:=hb g hg;omega),(T.old _ (by omega) (no _ (by omega))).trans P.h0,(T.old _ (by omega) (no _ (by omega))).trans P.h1,(T.old _ (by omega) (no _ (by omega))).trans P.h2,hlt⟩
theorem Own.base{k:Elem}{w:World}{base base':Nat}{v:Value}{rows:List (List Value)}(h:Own k w base v rows)(hb:base'≤base): Own k w base' v rows:=by refine⟨h.1,h.2.1,h.2.2.imp id ?_⟩;rintro⟨g,off,cap,arr,e,hg,r⟩;exact⟨g,off,cap,arr,e,Nat.le_trans hb hg,r⟩
theorem build_DP(a x0 x1 x2 x3:Int)(u:World): (Instr.build 46 #[(0,a),(2,.agg #[x0,x1,x2,x3])]).run prog u=.ok (DepM.v ⟨a,false,⟨x0,x1,x2,x3⟩⟩) u:=by kernel_rfl
theorem exec_build3{P:Program}{o:Oper}{a:Act}{w w':World}{t:TypeId}{i j k:Nat}{x y z:Operand}{p q r v:Value}(ho:o.op=.build t #[(i,x),(j,y),(k,z)])(hx:a.eval x=p)(hy:a.eval y=q)(hz:a.eval z=r)(hr:(Instr.build t #[(i,p),(j,q),(k,r)]).run P w=.ok v w'): (execOp a.eval o).run P w=.ok (.value v) w':=
 exec_build ho (by simp [hx,hy,hz]) hr
theorem kids_len{d:DocM}(hok:d.Ok){id:Int}{l:LayerM}(h:layerAt d.layers id=some l): (l.kids.filterMap (layerAt d.layers)).length=l.kids.length∧∀j m,(l.kids.filterMap (layerAt d.layers))[j]?=some m→layerAt d.layers (l.kids.getD j 0)=some m:=by
 obtain⟨k,_,hk,_⟩:=layerAt_some h;have hall:∀x∈l.kids,(layerAt d.layers x).isSome=true:=by
  have:=hok.kids k l hk;unfold kidsM at this;rw [Bool.and_eq_true,List.all_eq_true]at this;intro x hx;rw [←atM_isSome];have h2:=this.1 x hx;unfold atM;cases ha:atN (d.layers.map (·.id)) x with
  | none=>rw [ha]at h2;simp at h2
  | some j=>simp
 generalize l.kids=ks at *;clear h hk;induction ks with
 | nil=>exact⟨rfl,fun j m h=>by simp at h⟩
 | cons x ks ih=>
  obtain⟨i1,i2⟩:=ih (fun y hy=>hall y (List.mem_cons_of_mem _ hy));obtain⟨m,hm⟩:=Option.isSome_iff_exists.1 (hall x (List.mem_cons_self ..));rw [List.filterMap_cons_some hm];refine⟨by simp [i1],fun j u hu=>?_⟩;obtain _ | j:=j
  ·simp only [List.getElem?_cons_zero,Option.some.injEq]at hu;subst hu;exact hm
  simp only [List.getElem?_cons_succ]at hu;exact i2 j u hu
theorem ref_deps(d:DocM)(id:Int)(r:Rc)(w:World)(h:d.At w)(ht:d.Tidy)(hok:d.Ok):
  Calls prog 14 #[d.v,id,r.v] w fun e w'=>IsDeps w w' (depsOf d.layers id r) e∧Turn [] w w':=by
 have hKn:=fun u (t:Turn [] w u)=>ref_known d id u (h.turn t) ht hok;have hLy:=fun x m (hx:layerAt d.layers x=some m) u (t:Turn [] w u)=>ref_lay d x m hx u (h.turn t);have hLA:=fun x m (hx:layerAt d.layers x=some m) u (t:Turn [] w u)=>layerAt_at hx (h.turn t);have hLv:=fun (l:LayerM) (hl:layerAt d.layers id=some l) (i:Nat) (hi:i<l.kidn) (q:Rc) (hq:q.InC) u (t:Turn [] w u) (hA:IntsAt u l.kidA l.kidn l.kids) (hn:l.kidn≤50)=>ref_level d l.kids _ (kids_len hok hl).1 (kids_len hok hl).2 l.kidA l.kidn l.kidc hn i hi q hq u (h.turn t) hA;have hKl:=fun (l:LayerM) (hl:layerAt d.layers id=some l)=>kids_len hok hl;have hPl:=fun (l:LayerM) (hl:layerAt d.layers id=some l)=>ht.lay l (by obtain⟨k,_,hk,_⟩:=layerAt_some hl;exact List.mem_of_getElem? hk);have hCa:=ref_can r;have hEm:=ref_empty r.can;clear h ht hok;generalize hsp:d.sn=sn0 at *;obtain⟨sA,sn,sc,spaces,root,next,lA,ln,lc,layers⟩:=d;simp only [DocM.v]at *;clear hsp;obtain⟨W,hW⟩:∃W,W=(w.alloc (.cells #[.slice sA sn sc,root,next,.slice lA ln lc] 29)).alloc (.cells (rcs r) 24):=⟨_,rfl⟩;have T0:Turn [] w W:=hW ▸ ((tR w).alloc _).alloc _;have x0:W.heap[w.heap.size]?=some (.cells #[.slice sA sn sc,root,next,.slice lA ln lc] 29 (0,0)):=by rw [hW];simp only [heap_at,World.size_alloc];rw [if_neg (by omega),if_pos (by first | trivial | omega)]
 have x1:W.heap[w.heap.size+1]?=some (.cells (rcs r) 24 (0,0)):=by rw [hW];simp only [heap_at,World.size_alloc];rw [if_pos (by first | trivial | omega)]
 have HKN:=lh hKn;have HLY:=lh hLy;have HLA:=lh hLA;have HLV:=lh hLv;have HKL:=lh hKl;have HPL:=lh hPl;have HCA:=lh hCa;have HEM:=lh hEm;clear hKn hLy hLA hLv hKl hPl hCa hEm;have hWs:w.heap.size+2≤W.heap.size:=(Array.getElem?_eq_some_iff.1 x1).1;have q0_0:=cell_of x0 (i:=0) (v:=.slice sA sn sc) rfl;have q0_1:=cell_of x0 (i:=1) (v:=root) rfl;have q0_2:=cell_of x0 (i:=2) (v:=next) rfl;have q0_3:=cell_of x0 (i:=3) (v:=.slice lA ln lc) rfl;have q1_0:=cell_of x1 (i:=0) (v:=r.x0) rfl;have q1_1:=cell_of x1 (i:=1) (v:=r.y0) rfl;have q1_2:=cell_of x1 (i:=2) (v:=r.x1) rfl;have q1_3:=cell_of x1 (i:=3) (v:=r.y1) rfl;have HX0:=lh x0;have HX1:=lh x1;clear x0 x1;generalize hcan:r.can=c at *;have HCN:=lh hcan;clear hcan;unfold Rc.v rcs at *;go_enter func14,ntmps14;go_upto_region 1 with (fail)
 rw [←hW];clear hW;try simp only [World.size_alloc]
 go_upto_region 5 with (first
  | (go_at_call 45;refine (HKN.out _ T0).mono ?_;rintro e w1 ⟨rfl,ht1⟩;have q1_0:=(show w1.cell? ⟨w.heap.size+1,0,none⟩=some (.int .i64 r.x0) from ((tcell ht1).1 _ _ (by omega)).trans q1_0);have q1_1:=(show w1.cell? ⟨w.heap.size+1,1,none⟩=some (.int .i64 r.y0) from ((tcell ht1).1 _ _ (by omega)).trans q1_1);have q1_2:=(show w1.cell? ⟨w.heap.size+1,2,none⟩=some (.int .i64 r.x1) from ((tcell ht1).1 _ _ (by omega)).trans q1_2);have q1_3:=(show w1.cell? ⟨w.heap.size+1,3,none⟩=some (.int .i64 r.y1) from ((tcell ht1).1 _ _ (by omega)).trans q1_3);have HT1:=lh ht1;clear ht1)
  | (go_at_call 19;refine (HCA.out _).mono ?_;rintro e w2 ⟨rfl,ht2⟩;have X1:=((HT1.out.trans ht2).old (w.heap.size+1) (by omega) (by simp)).trans HX1.out;have y0:=cell_of X1 (i:=0) (v:=r.x0) rfl;have y1:=cell_of X1 (i:=1) (v:=r.y0) rfl;have y2:=cell_of X1 (i:=2) (v:=r.x1) rfl;have y3:=cell_of X1 (i:=3) (v:=r.y1) rfl;have yf:=(fun i=>frozen_of X1 i);have HX2:=lh X1;have HT2:=lh (HT1.out.trans ht2);clear ht2 X1)
  | (go_at_call 46;refine (HEM.out _).mono ?_;rintro e w3 ⟨rfl,ht3⟩))
 have hT3:Turn [] w w3:=((((((T0.trans HT2.out).sc).sc).sc).sc)).trans ht3;have hs2:w.heap.size+2≤w2.heap.size:=Nat.le_trans hWs HT2.out.size;have x1:w3.heap[w.heap.size+1]?=some (.cells (rcs c) 24 (0,0)):=(ht3.old (w.heap.size+1) (by simp only [World.size_setCell];omega) (by simp)).trans (set4 (q:=r) HX2.out);have x0:w3.heap[w.heap.size]?=some (.cells #[.slice sA sn sc,root,next,.slice lA ln lc] 29 (0,0)):=(ht3.old w.heap.size (by simp only [World.size_setCell];omega) (by simp)).trans ((set4_other _ _ _ _ _ _ _ (by omega)).trans ((HT2.out.old _ (by omega) (by simp)).trans HX0.out));have HT3:=lh hT3;have HX0:=lh x0;have HX1:=lh x1;clear hT3 x0 x1 ht3 HT1 HT2 HX2 q0_0 q0_1 q0_2 q0_3 q1_0 q1_1 q1_2 q1_3 y0 y1 y2 y3 yf HKN HCA HEM T0 hs2 hWs;have HNIL:layerAt layers id=none∨c.empty=true→depsOf layers id r=[]:=by
  intro hh;unfold depsOf;rcases hh with hh | hh
  ·rw [hh]
  split
  ·rfl
  rw [HCN.out,if_pos hh]
 have HNL:=lh HNIL;clear HNIL;cases hla:layerAt layers id with
 | none=>
  rw [Option.isSome_none];have HL0:=lh hla;clear hla;go_wp2_with fail
  go_ret;exact⟨⟨_,rfl,by rw [HNL.out (.inl HL0.out)];exact own_none _ _ _⟩,HT3.out⟩
 | some l=>
  rw [Option.isSome_some];have HL0:=lh hla;clear hla;cases he:c.empty with
  | true=>
   have HE0:=lh he;clear he;(go_wp2_with fail);go_ret;exact⟨⟨_,rfl,by rw [HNL.out (.inr HE0.out)];exact own_none _ _ _⟩,HT3.out⟩
  | false=>
   have hin:c.InC:=(by rw [←HCN.out];exact Rc.can_in (by rw [HCN.out];exact he));have hds:depsOf layers id r=depsM layers l id c:=(by unfold depsOf;rw [HL0.out,HCN.out];simp only;rw [if_neg (by rw [he];simp)]);have HDS:=lh hds;have HIN:=lh hin;have HTY:=lh (HPL.out l HL0.out);have hlr:=fun u (t:Turn [] w u)=>HLY.out id l HL0.out u t;have HLR:=lh hlr;have HAL:=lh alloc_LY;have HST:=lh (fun u=>store_LY u l);have d0:=cell_of HX0.out (i:=0) (v:=.slice sA sn sc) rfl;have d1:=cell_of HX0.out (i:=1) (v:=root) rfl;have d2:=cell_of HX0.out (i:=2) (v:=next) rfl;have d3:=cell_of HX0.out (i:=3) (v:=.slice lA ln lc) rfl;clear he hin hds hlr HNL;go_upto_region 8 with (first
    | (go_at_call 47;refine (HLR.out _ HT3.out).mono ?_;rintro e w4 ⟨rfl,ht4⟩)
    | (refine wpList_yield rfl (exec_alloc (t:=89) rfl (HAL.out _)) ?_;try go_frame)
    | (refine wpList_store_run rfl 89 (.tmp 10) (.tmp 28) rfl rfl rfl (HST.out _) ?_;try go_frame))
   obtain⟨V,hV⟩:∃V,V=w4.alloc (.cells ⟨l.row⟩ 89):=⟨_,rfl⟩;have hb1:w.heap.size+1<w3.heap.size:=(Array.getElem?_eq_some_iff.1 HX1.out).1;have TV:=(ht4.alloc (.cells ⟨l.row⟩ 89));rw [←hV]at TV;have P:DpW w V #[.slice sA sn sc,root,next,.slice lA ln lc] c w4.heap.size l:=⟨HT3.out.trans TV,(TV.old _ (by omega) (by simp)).trans HX0.out,(TV.old _ (by omega) (by simp)).trans HX1.out,hV ▸ heap_alloc_new _ _,by have:=ht4.size;omega⟩;rw [←hV];clear hV TV ht4 d0 d1 d2 d3 hb1 HX0 HX1 HT3 HLR HAL HST;generalize w4.heap.size=b at *;have hA:=HLA.out id l HL0.out _ P.t;have HA:=lh hA;clear hA;have y1:=cell_at (i:=1) P.h2 rfl;have HP:=lh P;clear P;obtain hk | hk | hk | hk | hk:l.kind=1∨l.kind=2∨l.kind=3∨l.kind=4∨l.kind=5:=by have:=HTY.out.kind;omega
   ·rw [hk]at y1;have hm:depsOf layers id r=[]:=(by rw [HDS.out];unfold depsM;rw [hk];rfl);have HM:=lh hm;clear hm hk;(go_wp2_with fail);go_ret;exact⟨⟨_,rfl,by rw [HM.out];exact own_none _ _ _⟩,HP.out.t⟩
   ·have hm:depsOf layers id r=kidDeps (l.kids.filterMap (layerAt layers)) c:=(by rw [HDS.out];unfold depsM;rw [if_neg (by omega),if_pos hk]);rw [hk]at y1;obtain⟨kl,hkl⟩:∃kl,l.kids.filterMap (layerAt layers)=kl:=⟨_,rfl⟩;have hkk:=HKL.out l HL0.out;have hlv:=HLV.out l HL0.out;rw [hkl]at hm hkk hlv;have HM:=lh hm;have HKK:=lh hkk;have HLV2:=lh hlv;have hkn:l.kidn=l.kids.length:=HA.out.kids.1;have hkb:=HA.out.kidb;have HKN:=lh hkn;have HKB:=lh hkb;clear hm hkk hlv hk hkl hkn hkb HKL HLV;(go_wp2_with fail);clear y1;go_loopw [7,11] (fun s7 s11 wr=>∃(k:Nat) (A9:Option Addr) (n9 c9:Nat),k≤l.kidn∧s7=.slice A9 n9 c9∧s11=k∧OwnD wr V.heap.size (.slice A9 n9 c9) (firstDeps kl c k)∧Turn [] V wr) (fun _ s11 _=>l.kidn - (intOf s11).toNat);case atStart=>exact⟨0,none,0,0,by omega,rfl,rfl,own_none _ _ _,Turn.refl _ _⟩
    obtain⟨k,A9,n9,c9,hk,rfl,rfl,hO,T⟩:=hrel;have P:=HP.out.turn T (by simp);have HO:=lh hO;have y15:=cell_at (i:=15) P.h2 rfl;have HP1:=lh P;have HT:=lh T;clear hO P T;by_cases hlt:k<l.kidn
    ·obtain⟨g,o,hga,hR⟩:=HA.out.kids.cell (by omega);obtain⟨m,hml⟩:∃m,kl[k]?=some m:=⟨kl[k]'(by have:=HKK.out.1;have:=HKN.out;omega),by rw [List.getElem?_eq_getElem]⟩;have hfd:firstDeps kl c (k+1)=if m.hidden=false∧m.kind≠3 then firstDeps kl c k ++ [⟨m.id,false,lowR (kl.drop (k+1)) c⟩] else firstDeps kl c k:=by show (match kl[k]? with | none=>_ | some l=>_)=_;rw [hml]
     have HFD:=lh hfd;have HR:=lh (fun u t=>hR u t k hlt);have HLM:=lh (fun u (t:Turn [] w u)=>HLY.out _ m (HKK.out.2 k m hml) u t);have hcall:=fun u (t:Turn [] w u) hA=>HLV2.out k hlt c HIN.out u t hA HKB.out;have hqi:=lowR_in (kl.drop (k+1)) HIN.out;clear hfd hR hml;generalize lowR (kl.drop (k+1)) c=qq at *;obtain⟨q0,q1,q2,q3⟩:=qq;dsimp only at hcall;rw [hga]at y15 hcall;have HCALL:=lh hcall;have HQI:=lh hqi;have HGA:=lh hga;clear hcall hqi hga;generalize l.kids.getD k 0=kid at *;have b0:(0:Int)≤(k:Int):=(by omega);have b1:(k:Int)<(l.kidn:Int):=(by omega);have b2:(k:Int)≤50:=(by have:=HKB.out;omega);(go_upto_region 15 with (fail));go_cut [12] (fun s12 wx=>∃c2,s12=.pointer (some ⟨c2,0,none⟩)∧wx.heap[c2]?=some (.cells ⟨m.row⟩ 89 (0,0))∧wr.heap.size≤c2∧Turn [] wr wx);case first=>
      refine AnyTill.start (fun w'=>Turn [] wr w') 8 (by kernel_rfl) ?_;have hS:Turn [] wr wr.drew:=(tR wr).drawn 1;generalize wr.drew=Y at *;refine tk 0 2 51 (.agg #[.slice sA sn sc,root,next,.slice lA ln lc]) hS ?_ (hy:=fun w' hw=>by have hP:=HP1.out.turn hw (by simp);have d0:=cell_of hP.h0 (i:=0) (v:=.slice sA sn sc) rfl;have d1:=cell_of hP.h0 (i:=1) (v:=root) rfl;have d2:=cell_of hP.h0 (i:=2) (v:=next) rfl;have d3:=cell_of hP.h0 (i:=3) (v:=.slice lA ln lc) rfl;go_simp);(try go_frame);refine tk 1 2 52 (.pointer (some ⟨b,15,none⟩)) hS ?_;(try go_frame);refine tk 2 2 53 (.slice (some ⟨g,o,none⟩) l.kidn l.kidc) hS ?_ (hy:=fun w' hw=>by have hP:=HP1.out.turn hw (by simp);have y15:=cell_at (i:=15) hP.h2 rfl;rw [HGA.out]at y15;go_simp);(try go_frame);refine tk 3 2 54 k hS ?_;(try go_frame);refine tk 4 2 55 (.pointer (some ⟨g,o+k,none⟩)) hS ?_;(try go_frame);refine tk 5 2 56 kid hS ?_ (hy:=fun w' hw=>by have e0:=HR.out _ (HT.out.trans hw);go_simp);(try go_frame);refine AnyTill.two (i:=6) (j:=7) rfl rfl (by kernel_rfl) rfl rfl (fun K hK=>?_) (fun K hK=>?_)
      ·go_simp;(with_reducible refine (HLM.out _ (HP1.out.t.trans hS)).mono ?_);rintro e w3 ⟨rfl,ht3⟩;have hS3:=hS.trans ht3;refine hK _ _ (fun _=>hS3) ?_;clear hK K;(try go_frame);refine tk1 7 fun K hK=>?_;have hcl:wr.heap.size≤w3.heap.size:=hS3.size;refine wp_yieldR (d:=some 12) rfl (exec_alloc rfl (alloc_LY w3)) ?_;have hc:=heap_alloc_new w3 (.cells ⟨zeroL.row⟩ 89);have tz:=(tR w3).alloc (.cells ⟨zeroL.row⟩ 89);have hS2:=hS3.trans tz;have hgc:w3.heap.size<(w3.alloc (.cells ⟨zeroL.row⟩ 89)).heap.size:=(by simp);generalize w3.alloc (.cells ⟨zeroL.row⟩ 89)=Z at *;generalize w3.heap.size=c_ at *;refine hK _ _ (fun _=>hS2) ?_;clear hK K;(try go_frame);refine tk1 8 fun K hK=>?_;have hst:=part_store (o:=0) (ty:=89) (p:=m.row) (L':=m.row) hc (zero_of_info infoLYR).2 (by simp [LayerM.row]) (row_one _) (by simp [LayerM.row]);refine wp_storeR (d:=none) rfl 89 (.tmp 12) (.tmp 57) rfl rfl rfl hst ?_;refine hK _ _ (fun h=>absurd rfl h) ?_;clear hK K;(try go_frame);refine tkd ?_;have hSF:=hS2.setRow (g:=c_) ⟨m.row⟩ (.inr hcl);have hcF:=setRow_at (L':=m.row) hc;(go_wp2_with fail);go_meet;exact⟨c_,rfl,hcF,hcl,hSF⟩
      have hcl:wr.heap.size≤Y.heap.size:=hS.size;refine wp_yieldR (d:=some 12) rfl (exec_alloc rfl (alloc_LY Y)) ?_;have hc:=heap_alloc_new Y (.cells ⟨zeroL.row⟩ 89);have tz:=(tR Y).alloc (.cells ⟨zeroL.row⟩ 89);have hS2:=hS.trans tz;have hgc:Y.heap.size<(Y.alloc (.cells ⟨zeroL.row⟩ 89)).heap.size:=(by simp);generalize Y.alloc (.cells ⟨zeroL.row⟩ 89)=Z at *;generalize Y.heap.size=c_ at *;refine hK _ _ (fun _=>hS2) ?_;clear hK K;(try go_frame);refine tk1 6 fun K hK=>?_;go_simp;(with_reducible refine (HLM.out _ (HP1.out.t.trans hS2)).mono ?_);rintro e w3 ⟨rfl,ht3⟩;have hS3:=hS2.trans ht3;refine hK _ _ (fun _=>hS3) ?_;clear hK K;(try go_frame);have hc:=(ht3.old c_ hgc (by simp)).trans hc;refine tk1 8 fun K hK=>?_;have hst:=part_store (o:=0) (ty:=89) (p:=m.row) (L':=m.row) hc (zero_of_info infoLYR).2 (by simp [LayerM.row]) (row_one _) (by simp [LayerM.row]);refine wp_storeR (d:=none) rfl 89 (.tmp 12) (.tmp 57) rfl rfl rfl hst ?_;refine hK _ _ (fun h=>absurd rfl h) ?_;clear hK K;(try go_frame);refine tkd ?_;have hSF:=hS3.setRow (g:=c_) ⟨m.row⟩ (.inr hcl);have hcF:=setRow_at (L':=m.row) hc;(go_wp2_with fail);go_meet;exact⟨c_,rfl,hcF,hcl,hSF⟩
     obtain⟨c2,rfl,hc2,hcb,hT⟩:=hcut;have z1:=cell_at (i:=1) hc2 rfl;have z3:=cell_at (i:=3) hc2 rfl;have HC2:=lh hc2;have HT2:=lh hT;clear hc2 hT y15;by_cases had:m.hidden=false∧m.kind≠3
     ·obtain⟨h1,h2⟩:=had;have hfd2:=HFD.out;rw [if_pos ⟨h1,h2⟩]at hfd2;have HFD2:=lh hfd2;rw [h1]at z3;have hk3:(m.kind != 3)=true:=(by simpa using h2);have hk4:(m.kind == 3)=false:=(by simpa using h2);have hbl:∀x∈blks (.slice A9 n9 c9),V.heap.size≤x:=fun x hx=>(HO.out.2.lt x hx).1;have hcn:c2∉blks (.slice A9 n9 c9):=fun hx=>by have:=(HO.out.2.lt c2 hx).2.1;omega
      have HB:=lh hbl;have HTV:Hid (∀u,Turn (blks (.slice A9 n9 c9)) wc u→Turn [] V u):=lh fun u t=>turn_new (HT.out.trans HT2.out) t HB.out;have HCC:Hid (∀u,Turn (blks (.slice A9 n9 c9)) wc u→u.cell? ⟨c2,0,none⟩=some (.int .i64 m.id)):=lh fun u t=>cell_at ((t.old c2 (Array.getElem?_eq_some_iff.1 HC2.out).1 hcn).trans HC2.out) rfl;have HPS:Hid (∀u,Turn (blks (.slice A9 n9 c9)) wc u→DpW w u #[.slice sA sn sc,root,next,.slice lA ln lc] c b l):=lh fun u t=>HP.out.turn (HTV.out u t) (by simp);clear hfd2 h1 h2 hbl hcn hcb;(go_upto_region 17 with (fail));clear z1 z3 hk3 hk4;refine AnyTill.start (fun w'=>Turn (blks (.slice A9 n9 c9)) wc w') 14 (by kernel_rfl) ?_;have hS:Turn (blks (.slice A9 n9 c9)) wc wc.drew:=(Turn.refl _ wc).drawn 1;have hS0:Turn [] wc wc.drew:=(tR wc).drawn 1;generalize wc.drew=Y at *;refine tk 0 2 66 (.slice A9 n9 c9) hS ?_;(try go_frame);refine tk 1 2 67 (.pointer (some ⟨c2,0,none⟩)) hS ?_;(try go_frame);refine tk 2 2 68 m.id hS ?_ (hy:=fun w' hw=>by have e0:=HCC.out _ hw;go_simp);(try go_frame);refine tk 3 2 69 (.agg #[.slice sA sn sc,root,next,.slice lA ln lc]) hS ?_ (hy:=fun w' hw=>by have hP:=HPS.out _ hw;have d0:=cell_of hP.h0 (i:=0) (v:=.slice sA sn sc) rfl;have d1:=cell_of hP.h0 (i:=1) (v:=root) rfl;have d2:=cell_of hP.h0 (i:=2) (v:=next) rfl;have d3:=cell_of hP.h0 (i:=3) (v:=.slice lA ln lc) rfl;go_simp);(try go_frame);refine tk 4 2 70 (.pointer (some ⟨b,15,none⟩)) hS ?_;(try go_frame);refine tk 5 2 71 (.slice (some ⟨g,o,none⟩) l.kidn l.kidc) hS ?_ (hy:=fun w' hw=>by have hP:=HPS.out _ hw;have y15:=cell_at (i:=15) hP.h2 rfl;rw [HGA.out]at y15;go_simp);(try go_frame);refine tk 6 2 72 k hS ?_;(try go_frame);refine tk 7 2 73 (.pointer (some ⟨b,15,none⟩)) hS ?_;(try go_frame);refine tk 8 2 74 (.slice (some ⟨g,o,none⟩) l.kidn l.kidc) hS ?_ (hy:=fun w' hw=>by have hP:=HPS.out _ hw;have y15:=cell_at (i:=15) hP.h2 rfl;rw [HGA.out]at y15;go_simp);(try go_frame);refine tk 9 2 75 l.kidn hS ?_;(try go_frame);refine tk 10 2 76 (.agg #[c.x0,c.y0,c.x1,c.y1]) hS ?_ (hy:=fun w' hw=>by have hP:=HPS.out _ hw;have r0:=cell_of hP.h1 (i:=0) (v:=c.x0) rfl;have r1:=cell_of hP.h1 (i:=1) (v:=c.y0) rfl;have r2:=cell_of hP.h1 (i:=2) (v:=c.x1) rfl;have r3:=cell_of hP.h1 (i:=3) (v:=c.y1) rfl;go_simp);(try go_frame);refine tk1 11 fun K hK=>?_;go_simp;refine (HCALL.out _ (HP.out.t.trans (HTV.out _ hS)) (by rw [←HGA.out];exact HA.out.kids.turn (HTV.out _ hS))).mono ?_;rintro e wy ⟨rfl,ht⟩;have hS:=hS.trans (ht.mono (by simp));have hS0:=hS0.trans ht;clear ht;refine hK _ _ (fun _=>hS) ?_;clear hK K;(try go_frame);refine tk 12 2 78 (DepM.v ⟨m.id,false,⟨q0,q1,q2,q3⟩⟩) hS ?_ rfl (hy:=fun w' hw=>exec_build2 rfl rfl rfl (build_DP _ _ _ _ _ _));(try go_frame);refine tk1 13 fun K hK=>?_;go_simp;refine (ref_dput (firstDeps kl c k) ⟨m.id,false,⟨q0,q1,q2,q3⟩⟩ (.slice A9 n9 c9) (V.heap.size) _ ((HO.out.turn HT2.out).turn hS0) (HTV.out _ hS).size (by have:=firstDeps_len kl c k;have:=HKB.out;omega)).mono ?_;rintro e w6 ⟨⟨v,rfl,hO,hN⟩,ht6⟩;refine hK _ _ (fun _=>hS.trans ht6) ?_;clear hK K;(try go_frame);refine tk1 14 fun K hK=>?_;go_simp;refine hK _ _ (fun h=>absurd rfl h) ?_;clear hK K;(try go_frame);refine tkd ?_;obtain⟨A8,c8,hv⟩:=own_len hO;generalize (List.map DepM.row (putD (firstDeps kl c k) ⟨m.id,false,⟨q0,q1,q2,q3⟩⟩)).length=n8 at hv;subst hv;have hpd:putD (firstDeps kl c k) ⟨m.id,false,⟨q0,q1,q2,q3⟩⟩=firstDeps kl c (k+1):=(by rw [HFD2.out];unfold putD;rw [if_neg (by rw [HQI.out.full];simp)]);rw [hpd]at hO;have HF:=lh (And.intro hO (HTV.out _ (hS.trans ht6)));clear hpd hO ht6 hS hS0;(go_wp2_with fail);go_roundw;case rel=>exact⟨k+1,_,_,_,by omega,rfl,by go_num,HF.out.1,HF.out.2⟩
      simp [intOf];omega
     have hfd2:=HFD.out;rw [if_neg had]at hfd2;have HF:Hid (OwnD wc V.heap.size (.slice A9 n9 c9) (firstDeps kl c (k+1))∧Turn [] V wc):=lh ⟨by rw [hfd2];exact HO.out.turn HT2.out,HT.out.trans HT2.out⟩;clear hfd2 hcb;cases hh:m.hidden with
     | true=>
      rw [hh]at z3;clear had hh;(go_wp2_with fail);go_roundw;case rel=>exact⟨k+1,_,_,_,by omega,rfl,by go_num,HF.out.1,HF.out.2⟩
      simp [intOf];omega
     | false=>
      have hk3:m.kind=3:=(by simpa [hh]using had);rw [hh]at z3;rw [hk3]at z1;clear had hh hk3;(go_wp2_with fail);go_roundw;case rel=>exact⟨k+1,_,_,_,by omega,rfl,by go_num,HF.out.1,HF.out.2⟩
      simp [intOf];omega
    obtain rfl:k=l.kidn:=(by omega);(go_wp2_with fail);go_ret;refine⟨⟨_,rfl,?_⟩,HP1.out.t⟩;rw [HM.out,←firstDeps_all,HKK.out.1,←HKN.out];exact HO.out.base HP.out.t.size
   ·rw [hk]at y1;have hm:depsOf layers id r=putD [] ⟨id,true,(l.nd c).can⟩:=(by rw [HDS.out];unfold depsM;rw [if_neg (by omega),if_neg (by omega),if_pos hk]);have HM:=lh hm;have hnd:=ref_needC l.filt l.ks l.cs c HIN.out.bd V HA.out.ks HA.out.cs;clear hm;unfold LayerM.nd at HM;generalize (l.filt.area (fltB l.filt l.ks l.cs) c (-1)).can=m at *;obtain⟨m0,m1,m2,m3⟩:=m;unfold Rc.v Fv.v at hnd;have HND:=lh hnd;have HPUT:=lh (fun u (t:Turn [] V u)=>ref_dput [] ⟨id,true,⟨m0,m1,m2,m3⟩⟩ (.slice none 0 0) w.heap.size u (own_none _ _ _) (by have:=HP.out.t.size;have:=t.size;omega) (by simp));clear hk hnd;have r0:=cell_of HP.out.h1 (i:=0) (v:=c.x0) rfl;have r1:=cell_of HP.out.h1 (i:=1) (v:=c.y0) rfl;have r2:=cell_of HP.out.h1 (i:=2) (v:=c.x1) rfl;have r3:=cell_of HP.out.h1 (i:=3) (v:=c.y1) rfl;have y17:=cell_at (i:=17) HP.out.h2 rfl;have y18:=cell_at (i:=18) HP.out.h2 rfl;have y19:=cell_at (i:=19) HP.out.h2 rfl;have y20:=cell_at (i:=20) HP.out.h2 rfl;have y21:=cell_at (i:=21) HP.out.h2 rfl;have y22:=cell_at (i:=22) HP.out.h2 rfl;go_wp2_with (first
     | (go_at_call 51;refine HND.out.mono ?_;rintro e w5 ⟨rfl,ht5⟩)
     | (go_at_call 48;refine (HPUT.out _ ht5).mono ?_;rintro e w6 ⟨⟨v,rfl,hO,hN⟩,ht6⟩))
    go_ret;exact⟨⟨v,rfl,by rw [HM.out];exact hO⟩,HP.out.t.trans (ht5.trans ht6)⟩
   ·rw [hk]at y1;have hm:depsOf layers id r=putD [] ⟨l.of,false,(l.place.need c).can⟩:=(by rw [HDS.out];unfold depsM;rw [if_pos hk]);have HM:=lh hm;have hok:l.place.ok=true:=HTY.out.place (.inr hk);have hsrc:=ref_src l.place hok c HIN.out;clear hm hok;generalize (l.place.need c).can=m at *;obtain⟨m0,m1,m2,m3⟩:=m;unfold Rc.v Af.v at hsrc;have HSRC:=lh hsrc;clear hk hsrc;(go_upto_region 10 with (fail));clear y1;refine AnyTill.start (fun w'=>Turn [] V w') 9 (by kernel_rfl) ?_;have hS:Turn [] V V.drew:=(tR V).drawn 1;generalize V.drew=Y at *;refine tk 0 2 33 (.slice none 0 0) hS ?_;(try go_frame);refine tk 1 2 34 (.pointer (some ⟨b,16,none⟩)) hS ?_;(try go_frame);refine tk 2 2 35 l.of hS ?_ (hy:=fun w' hw=>by have hP:=HP.out.turn hw (by simp);have y16:=cell_at (i:=16) hP.h2 rfl;go_simp);(try go_frame);refine tk 3 2 36 (.pointer (some ⟨b,7,none⟩)) hS ?_;(try go_frame);refine tk 4 2 37 (.agg #[l.place.a,l.place.b,l.place.c,l.place.d,l.place.e,l.place.f,l.place.den]) hS ?_ (hy:=fun w' hw=>by have hP:=HP.out.turn hw (by simp);have y7:=cell_at (i:=7) hP.h2 rfl;have y8:=cell_at (i:=8) hP.h2 rfl;have y9:=cell_at (i:=9) hP.h2 rfl;have y10:=cell_at (i:=10) hP.h2 rfl;have y11:=cell_at (i:=11) hP.h2 rfl;have y12:=cell_at (i:=12) hP.h2 rfl;have y13:=cell_at (i:=13) hP.h2 rfl;go_simp);(try go_frame);refine tk 5 2 38 (.agg #[c.x0,c.y0,c.x1,c.y1]) hS ?_ (hy:=fun w' hw=>by have hP:=HP.out.turn hw (by simp);have r0:=cell_of hP.h1 (i:=0) (v:=c.x0) rfl;have r1:=cell_of hP.h1 (i:=1) (v:=c.y0) rfl;have r2:=cell_of hP.h1 (i:=2) (v:=c.x1) rfl;have r3:=cell_of hP.h1 (i:=3) (v:=c.y1) rfl;go_simp);(try go_frame);refine tk1 6 fun K hK=>?_;go_simp;refine (HSRC.out _).mono ?_;rintro e wy ⟨rfl,ht⟩;have hS:=hS.trans ht;clear ht;refine hK _ _ (fun _=>hS) ?_;clear hK K;(try go_frame);refine tk 7 2 40 (DepM.v ⟨l.of,false,⟨m0,m1,m2,m3⟩⟩) hS ?_ rfl (hy:=fun w' hw=>exec_build2 rfl rfl rfl (build_DP _ _ _ _ _ _));(try go_frame);refine tk1 8 fun K hK=>?_;go_simp;refine (ref_dput [] ⟨l.of,false,⟨m0,m1,m2,m3⟩⟩ (.slice none 0 0) (w.heap.size) _ (own_none _ _ _) (by have:=HP.out.t.size;have:=hS.size;omega) (by simp)).mono ?_;rintro e w6 ⟨⟨v,rfl,hO,hN⟩,ht6⟩;refine hK _ _ (fun _=>hS.trans ht6) ?_;clear hK K;(try go_frame);refine tk1 9 fun K hK=>?_;go_simp;refine hK _ _ (fun h=>absurd rfl h) ?_;clear hK K;(try go_frame);refine tkd ?_;(go_wp2_with fail);go_ret;exact⟨⟨v,rfl,by rw [HM.out];exact hO⟩,HP.out.t.trans (hS.trans ht6)⟩
   rw [hk]at y1;have hm:depsOf layers id r=[]:=(by rw [HDS.out];unfold depsM;rw [hk];rfl);have HM:=lh hm;clear hm hk;(go_wp2_with fail);go_ret;exact⟨⟨_,rfl,by rw [HM.out];exact own_none _ _ _⟩,HP.out.t⟩
theorem graph_widened(l:LayerM)(hb:fltB l.filt l.ks l.cs=true)(r:Rc)(hr:r.bd)(w:World)(hl:l.At w):
  Calls prog 81 #[l.v,r.v] w fun e w'=>e=.returned (l.wide r).v∧Turn [] w w':=by
 have hN:=fun u (t:Turn [] w u)=>prog_need l.filt l.ks l.cs hb r hr u (hl.ks.turn t) (hl.cs.turn t);have hJ:=rect_join r (l.nd r);have hC:=prog_can (r.join (l.nd r));rw [show (r.join (l.nd r)).can=l.wide r from rfl]at hC;rw [show l.filt.area (fltB l.filt l.ks l.cs) r (-1)=l.nd r from rfl]at hN;generalize l.wide r=m at *;generalize r.join (l.nd r)=b at *;generalize l.nd r=a at *;clear hl hr hb;have HN:=lh hN;have HJ:=lh hJ;have HC:=lh hC;clear hN hJ hC;obtain⟨W,hW⟩:∃W,W=((w.alloc (.cells ⟨l.row⟩ 89)).alloc (.cells (rcs r) 24)).alloc (.cells #[(0:Int),(0:Int),(0:Int),(0:Int)] 24):=⟨_,rfl⟩;have T0:Turn [] w W:=hW ▸ (((tR w).alloc _).alloc _).alloc _;have hWs:w.heap.size+3≤W.heap.size:=by rw [hW];simp
 have x0:W.heap[w.heap.size]?=some (.cells ⟨l.row⟩ 89 (0,0)):=by rw [hW];simp only [heap_at,World.size_alloc];rw [if_neg (by omega),if_neg (by omega),if_pos (by first | trivial | omega)]
 have x1:W.heap[w.heap.size+1]?=some (.cells (rcs r) 24 (0,0)):=by rw [hW];simp only [heap_at,World.size_alloc];rw [if_neg (by omega),if_pos (by first | trivial | omega)]
 have x2:W.heap[w.heap.size+1+1]?=some (.cells #[(0:Int),(0:Int),(0:Int),(0:Int)] 24 (0,0)):=by rw [hW];simp only [heap_at,World.size_alloc];rw [if_pos (by first | trivial | omega)]
 unfold rcs at *;have HX0:=lh x0;have HX1:=lh x1;have HX2:=lh x2;clear x0 x1 x2;unfold LayerM.v Rc.v at *;unfold Fv.v at HN;go_enter func81,ntmps81;go_upto_region 1 with (fail)
 rw [←hW];clear hW;try simp only [World.size_alloc]
 refine AnyTill.start (fun w'=>Turn [] W w') 7 (by kernel_rfl) ?_;have hS:Turn [] W W.drew:=(tR W).drawn 1;generalize W.drew=V at *;refine tk 0 9 5 (.agg #[r.x0,r.y0,r.x1,r.y1]) hS ?_ (hy:=fun w' hw=>by have hr:=(hw.old (w.heap.size+1) (by omega) (by simp)).trans HX1.out;have r0:=cell_of hr (i:=0) (v:=r.x0) rfl;have r1:=cell_of hr (i:=1) (v:=r.y0) rfl;have r2:=cell_of hr (i:=2) (v:=r.x1) rfl;have r3:=cell_of hr (i:=3) (v:=r.y1) rfl;go_simp);try go_frame
 refine tk 1 9 6 (.pointer (some ⟨w,17,none⟩)) hS ?_;try go_frame
 refine tk 2 9 7 (.agg #[l.filt.kind,l.filt.radius,.slice l.filt.kA l.filt.kn l.filt.kc,l.filt.div,l.filt.value,.slice l.filt.cA l.filt.cn l.filt.cc]) hS ?_ (hy:=fun w' hw=>by have hl:=(hw.old w.heap.size (by omega) (by simp)).trans HX0.out;have y0:=cell_at (i:=17) hl (v:=l.filt.kind) rfl;have y1:=cell_at (i:=18) hl (v:=l.filt.radius) rfl;have y2:=cell_at (i:=19) hl (v:=.slice l.filt.kA l.filt.kn l.filt.kc) rfl;have y3:=cell_at (i:=20) hl (v:=l.filt.div) rfl;have y4:=cell_at (i:=21) hl (v:=l.filt.value) rfl;have y5:=cell_at (i:=22) hl (v:=.slice l.filt.cA l.filt.cn l.filt.cc) rfl;go_simp);try go_frame
 refine tk 3 9 8 (.agg #[r.x0,r.y0,r.x1,r.y1]) hS ?_ (hy:=fun w' hw=>by have hr:=(hw.old (w.heap.size+1) (by omega) (by simp)).trans HX1.out;have r0:=cell_of hr (i:=0) (v:=r.x0) rfl;have r1:=cell_of hr (i:=1) (v:=r.y0) rfl;have r2:=cell_of hr (i:=2) (v:=r.x1) rfl;have r3:=cell_of hr (i:=3) (v:=r.y1) rfl;go_simp);try go_frame
 refine tk1 4 fun K hK=>?_;go_simp;refine (HN.out _ (T0.trans hS)).mono ?_;rintro e wy ⟨rfl,ht⟩;have hS:=hS.trans ht;clear ht;refine hK _ _ (fun _=>hS) ?_;clear hK K;try go_frame
 refine tk1 5 fun K hK=>?_;go_simp;refine (HJ.out _).mono ?_;rintro e wy ⟨rfl,ht⟩;have hS:=hS.trans ht;clear ht;refine hK _ _ (fun _=>hS) ?_;clear hK K;try go_frame
 refine tk1 6 fun K hK=>?_;go_simp;refine (HC.out _).mono ?_;rintro e wy ⟨rfl,ht⟩;have hS:=hS.trans ht;clear ht;refine hK _ _ (fun _=>hS) ?_;clear hK K;try go_frame
 have hx2:=(hS.old (w.heap.size+1+1) (by omega) (by simp)).trans HX2.out;have z0:=cell_of hx2 (i:=0) (v:=(0:Int)) rfl;have z1:=cell_of hx2 (i:=1) (v:=(0:Int)) rfl;have z2:=cell_of hx2 (i:=2) (v:=(0:Int)) rfl;have z3:=cell_of hx2 (i:=3) (v:=(0:Int)) rfl;have zf:=fun i=>frozen_of hx2 i;clear hx2;refine tk1 7 fun K hK=>?_;go_simp;refine hK _ _ (fun h=>absurd rfl h) ?_;clear hK K;try go_frame
 refine tkd ?_;go_wp2_with fail
 exact bodyPost_ret (v:=.agg #[m.x0,m.y0,m.x1,m.y1]) (by simp [results,results81,go_sem,z0,z1,z2,z3]) rfl ⟨rfl,(((((T0.trans hS).sc).sc).sc).sc)⟩
theorem walker_layer(d:DocM)(id:Int)(l:LayerM)(hla:layerAt d.layers id=some l)(w:World)(bs:List Nat)(hbs:∀b∈bs,b<w.heap.size)(h0:Stab bs w fun u=>d.At u)(hth:∀l∈d.layers,l.Thin):
  Calls prog 80 #[d.v,id] w fun e w'=>(∃m,l.Like m∧Stab bs w' (fun u=>m.At u)∧e=.returned m.v)∧Turn [] w w':=by
 have hL:=fun u (t:Turn [] w u) cs (hcs:∀b∈cs,b<u.heap.size) (hcb:∀b∈cs,b<w.heap.size→b∈bs)=>doc_layer d id u cs hcs (h0.new t hcb) hth;unfold IsLayer at hL;rw [hla]at hL;clear h0 hth hla;obtain⟨sA,sn,sc,spaces,root,next,lA,ln,lc,layers⟩:=d;simp only [DocM.v]at *;have HL:=lh hL;have HBS:=lh hbs;clear hL hbs;obtain⟨W,hW⟩:∃W,W=(w.alloc (.cells #[.slice sA sn sc,root,next,.slice lA ln lc] 107)).alloc (.cells ⟨zeroL.row⟩ 89):=⟨_,rfl⟩;have T0:Turn [] w W:=hW ▸ ((tR w).alloc _).alloc _;have hWs:w.heap.size+2≤W.heap.size:=by rw [hW];simp
 have x0:W.heap[w.heap.size]?=some (.cells #[.slice sA sn sc,root,next,.slice lA ln lc] 107 (0,0)):=by rw [hW];simp only [heap_at,World.size_alloc];rw [if_neg (by omega),if_pos (by first | trivial | omega)]
 have x1:W.heap[w.heap.size+1]?=some (.cells ⟨zeroL.row⟩ 89 (0,0)):=by rw [hW];simp only [heap_at,World.size_alloc];rw [if_pos (by first | trivial | omega)]
 have q0:=cell_of x0 (i:=0) (v:=.slice sA sn sc) rfl;have q1:=cell_of x0 (i:=1) (v:=root) rfl;have q2:=cell_of x0 (i:=2) (v:=next) rfl;have q3:=cell_of x0 (i:=3) (v:=.slice lA ln lc) rfl;have HX1:=lh x1;have HAL:=lh alloc_LY;have HC:=lh (HL.out W T0 ((w.heap.size+1) :: bs) (fun b hb=>by rcases List.mem_cons.1 hb with rfl | hb;omega;have:=HBS.out b hb;omega) (fun b hb hlt=>by rcases List.mem_cons.1 hb with rfl | hb;omega;exact hb));clear x0 x1 HL;go_enter func80,ntmps80;go_upto_region 1 with (refine wpList_yield rfl (exec_alloc (t:=89) rfl (HAL.out _)) ?_;try go_frame)
 rw [←hW];clear hW;try simp only [World.size_alloc]
 go_upto_region 2 with (first
  | (go_at_call 77;refine HC.out.mono ?_;rintro e w1 ⟨⟨m,hm,hA,rfl⟩,ht⟩;have HST:=lh (fun u=>store_LY u m);have HM:=lh (And.intro hm (And.intro hA ht));clear hm hA ht)
  | (refine wpList_yield rfl (exec_alloc (t:=89) rfl (HAL.out _)) ?_;try go_frame)
  | (refine wpList_store_run rfl 89 (.tmp 5) (.tmp 12) rfl rfl rfl (HST.out _) ?_;try go_frame))
 obtain⟨hm,hA,ht⟩:=HM.out;obtain⟨V,hV⟩:∃V,V=w1.alloc (.cells ⟨m.row⟩ 89):=⟨_,rfl⟩;have TV:Turn [] w1 V:=hV ▸ (tR w1).alloc _;have h5:V.heap[w1.heap.size]?=some (.cells ⟨m.row⟩ 89 (0,0)):=by rw [hV];exact heap_alloc_new _ _
 have X1:=((ht.trans TV).old (w.heap.size+1) (by omega) (by simp)).trans HX1.out;have hlA:(Instr.loadAt 89 (.pointer (some ⟨w1,0,none⟩))).run prog V=.ok (.agg ⟨m.row⟩) V:=run_loadAt_mid V w1.heap.size 0 89 m.row _ (part_range h5 (by simp)) underlying89 rfl (zero_of_info infoLYR).2;have hstA:=part_store (o:=0) (ty:=89) (p:=m.row) (L':=m.row) X1 (zero_of_info infoLYR).2 (by simp [LayerM.row]) (row_one _) (by simp [LayerM.row]);have hl9:=run_loadVar_row (P:=prog) _ (w.heap.size+1) 89 89 ⟨m.row⟩ (0,0) _ (setRow_at (L':=m.row) X1) underlying89 rfl (zero_of_info infoLYR).2;have HF:Hid (Stab bs (V.setRow (w.heap.size+1) ⟨m.row⟩) (fun u=>m.At u)∧Turn [] w (V.setRow (w.heap.size+1) ⟨m.row⟩)):=lh ⟨((hA.turn TV).setRow (by simp)).mono (fun b hb=>by simp [hb]),((T0.trans ht).trans TV).setRow _ (.inr (by omega))⟩;rw [←hV];clear hV TV h5 X1 hA ht HM;generalize w1.heap.size=b9 at *;go_wp2_with (first
  | (refine wpList_yield rfl (exec_load rfl rfl hlA) ?_;try go_frame)
  | (refine wpList_store_run rfl 89 (.tmp 4) (.tmp 14) rfl rfl rfl hstA ?_;try go_frame))
 exact bodyPost_ret (v:=m.v) (by simp [results,results80,asAddr,hl9];rfl) rfl ⟨⟨m,hm,HF.out.1,rfl⟩,HF.out.2⟩
def rcl(r:Rc): List Value:=[r.x0,r.y0,r.x1,r.y1]
def lvRow(x:LayerM×Rc): List Value:=x.1.row ++ rcl x.2
def zLV:List Value:=zeroL.row ++ rcl Rc.zero
theorem infoLV:(prog.info? 115).map (fun i=>(i.zero,i.size,i.bytes))=some (some (.agg ⟨zLV⟩),35,360):=by kernel_rfl
def elemV:Elem:=⟨115,35,360,.agg ⟨zLV⟩,infoLV,rfl,by decide,by decide,by decide⟩
theorem infoLB:(prog.info? 89).map (fun i=>(i.zero,i.size,i.bytes))=some (some (.agg ⟨zeroL.row⟩),31,328):=by kernel_rfl
def elemL:Elem:=⟨89,31,328,.agg ⟨zeroL.row⟩,infoLB,rfl,by decide,by decide,by decide⟩
theorem layer_row(l:LayerM): elemL.Row l.row:=⟨rfl,row_one l⟩
theorem lv_row(x:LayerM×Rc): elemV.Row (lvRow x):=⟨rfl,fun u hu=>by
 unfold lvRow at hu;rcases List.mem_append.1 hu with hu | hu
 ·exact row_one x.1 u hu
 simp only [rcl,List.mem_cons,List.mem_nil_iff,or_false]at hu;rcases hu with rfl | rfl | rfl | rfl <;> rfl⟩
theorem build_LV(m:LayerM)(a b c d:Int)(u:World): (Instr.build 115 #[(0,.agg ⟨m.row⟩),(1,.agg #[a,b,c,d])]).run prog u=.ok (.agg ⟨lvRow (m,⟨a,b,c,d⟩)⟩) u:=by kernel_rfl
theorem own_one{k:Elem}{r:List Value}(hr:k.Row r)(w:World): Own k (w.alloc (.cells ⟨r⟩ k.e)) w.heap.size (.slice (some ⟨w,0,none⟩) 1 1) [r]:=
 ⟨fun x hx=>by rw [List.mem_singleton.1 hx];exact hr,by simp [hr.len],.inr ⟨_,_,_,_,rfl,Nat.le_refl _,heap_alloc_new _ _,Nat.le_refl _,by unfold maxLen;omega,by simp [hr.len],fun j u hj=>by simpa using hj⟩⟩
theorem Own.rowsAt{k:Elem}{w:World}{base:Nat}{A:Option Addr}{n c:Nat}{rows:List (List Value)}(h:Own k w base (.slice A n c) rows): RowsAt k w A rows∧n=rows.length:=by
 rcases h.form with ⟨e,h0⟩ | ⟨g,o,cap',e,hb,_,_,hr⟩
 ·injection e with e1 e2 e3;rw [h0];exact⟨fun j r hj=>by simp at hj,by rw [e2];rfl⟩
 injection e with e1 e2 e3;exact⟨fun j r hj=>⟨g,o,e1,hr j r hj⟩,e2⟩
theorem make_own{k:Elem}{t:TypeId}(ht:prog.underlying t=some (.slice k.e))(n:Nat)(hn:n≤1000)(w:World): ∃w',(Instr.makeSlice t (0:Int) n).run prog w=.ok (.slice (some ⟨w,0,none⟩) 0 n) w'∧Own k w' w.heap.size (.slice (some ⟨w,0,none⟩) 0 n) []∧Turn [] w w':=by obtain⟨i,hI,iz,is,ib⟩:=k.info;obtain⟨w',h1,h2,h3⟩:=run_make_own (P:=prog) (w:=w) w.heap.size t k.e i k.Z k.size ht hI iz is .i64 .i64 n (by rw [ib];have:=k.hc;have:k.bytes*n≤4096*1000:=Nat.mul_le_mul this hn;omega) (by unfold maxLen;omega) (Nat.le_refl _);exact⟨w',h1,⟨fun r hr=>by simp at hr,by simpa using SRow.of_own h2⟩,turn_of_grown (v:=.slice none 0 0) h3⟩
inductive LikeL:List (LayerM×Rc)→List (LayerM×Rc)→Prop where
 | nil:LikeL [] []
 | cons {l m:LayerM} {q:Rc} {xs ys:List (LayerM×Rc)} (h:l.Like m) (t:LikeL xs ys):LikeL ((l,q) :: xs) ((m,q) :: ys)
theorem LikeL.len{xs ys:List (LayerM×Rc)}(h:LikeL xs ys): xs.length=ys.length:=by
 induction h with
 | nil=>rfl
 | cons _ _ ih=>simp [ih]
theorem LikeL.get{xs ys:List (LayerM×Rc)}(h:LikeL xs ys): ∀(j:Nat) (y:LayerM×Rc),ys[j]?=some y→∃l,xs[j]?=some (l,y.2)∧l.Like y.1:=by
 induction h with
 | nil=>intro j y hy;simp at hy
 | cons h t ih=>
  intro j y hy;obtain _ | j:=j
  ·simp only [List.getElem?_cons_zero,Option.some.injEq]at hy;subst hy;exact⟨_,rfl,h⟩
  simp only [List.getElem?_cons_succ]at hy;simpa using ih j y hy
def defect(e id:Int): Value:=.iface 188 (.agg #[e,id])
theorem demand_ok(e id:Int)(w:World): Calls prog 161 #[.bool true,e,id] w fun x w'=>x=.returned (.tuple #[])∧w=w':=by
 go_enter func161,ntmps161;go_wp2_with fail
 go_end0;exact⟨rfl,rfl⟩
theorem demand_no(e id:Int)(w:World): Calls prog 161 #[.bool false,e,id] w fun x w'=>x=.panicked [{ v:=defect e id,recovered:=false }]∧w=w':=by
 go_enter func161,ntmps161;go_wp2_with fail
 exact⟨rfl,rfl,rfl⟩
def atD(ids:List Int)(k:Int): Option Value:=(atN ids k).map fun i=>(i:Int)
structure TreeW(w:World)(t mb:Nat)(d:DocM): Prop where
 ht:w.heap[t]?=some (.cells #[.slice d.sA d.sn d.sc,d.root,d.next,.slice d.lA d.ln d.lc,.map (some mb)] 221 (0,0))
 hm:MapI w mb (atD d.ids)
theorem TreeW.turn{w w':World}{t mb:Nat}{d:DocM}(h:TreeW w t mb d){bs:List Nat}(T:Turn bs w w')(h1:t∉bs)(h2:mb∉bs): TreeW w' t mb d:=
 ⟨(T.old _ (Array.getElem?_eq_some_iff.1 h.ht).1 h1).trans h.ht,h.hm.turn T h2⟩
theorem zeroI(w:World): (zeroValue 3).run prog w=.ok (0:Int) w:=by kernel_rfl
def layerOr(ls:List LayerM)(id:Int): LayerM:=(layerAt ls id).getD zeroL
theorem tree_layer(d:DocM)(t mb:Nat)(id:Int)(w:World)(hT:TreeW w t mb d)(h:d.At w):
  Calls prog 165 #[.pointer (some ⟨t,0,none⟩),id] w fun e w'=>e=.returned (.tuple #[(layerOr d.layers id).v,.bool (layerAt d.layers id).isSome])∧Turn [] w w':=by
 obtain⟨W,hW⟩:∃W,W=w.alloc (.cells ⟨zeroL.row⟩ 89):=⟨_,rfl⟩;have T0:Turn [] w W:=hW ▸ (tR w).alloc _;have hWs:w.heap.size<W.heap.size:=by rw [hW];simp
 have x1:W.heap[w.heap.size]?=some (.cells ⟨zeroL.row⟩ 89 (0,0)):=by rw [hW];simp only [heap_at];rw [if_pos trivial]
 have hT1:=hT.turn T0 (by simp) (by simp);have hlk:=hT1.hm.lookOk (P:=prog) (mt:=219) underlying219 underlying3 (zeroI W) id;have hids:d.ids=d.layers.map (·.id):=rfl;have q3:=cell_of hT1.ht (i:=3) (v:=.slice d.lA d.ln d.lc) rfl;have q4:=cell_of hT1.ht (i:=4) (v:=.map (some mb)) rfl;have hL:=h.layers;have HAL:=lh alloc_LY;have HX1:=lh x1;clear hT hT1 h x1;unfold atD at hlk;cases hla:layerAt d.layers id with
 | none=>
  have hat:atN d.ids id=none:=by
   rw [hids];unfold layerAt at hla;cases ha:atN (d.layers.map (·.id)) id with
   | none=>rfl
   | some k=>
    rw [ha]at hla;have hla:d.layers[k]?=none:=hla;unfold atN at ha;rw [List.findIdx?_eq_some_iff_getElem]at ha;obtain⟨h1,_⟩:=ha;rw [List.getElem?_eq_none_iff]at hla;simp at h1;omega
  rw [hat]at hlk;have hlo:layerOr d.layers id=zeroL:=by unfold layerOr;rw [hla];rfl
  rw [hlo];have hst:=part_store (o:=0) (ty:=89) (p:=zeroL.row) (L':=zeroL.row) HX1.out (zero_of_info infoLYR).2 (by simp [LayerM.row]) (row_one _) (by simp [LayerM.row]);have hl9:=run_loadVar_row (P:=prog) _ w.heap.size 89 89 ⟨zeroL.row⟩ (0,0) _ (setRow_at (L':=zeroL.row) HX1.out) underlying89 rfl (zero_of_info infoLYR).2;have hbz:∀u,(Instr.build 89 #[]).run prog u=.ok (.agg ⟨zeroL.row⟩) u:=fun u=>by kernel_rfl
  have HBZ:=lh hbz;have HST:=lh hst;have HL9:=lh hl9;clear hat hla hlo hst hl9 hbz hids hL;have hlk:(Instr.lookup 219 (.map (some mb)) id true).run prog W=.ok (.tuple #[(0:Int),.bool false]) W:=hlk;go_enter func165,ntmps165;go_upto_region 1 with (refine wpList_yield (o:=⟨some 4,_,_,_,_,_⟩) rfl (exec_alloc (t:=89) rfl (HAL.out _)) ?_;try go_frame)
  rw [←hW];clear hW HAL;go_wp2_with (first
   | (refine wpList_yield (o:=⟨some 19,_,_,_,_,_⟩) rfl (exec_build (vs:=#[]) (v:=.agg ⟨zeroL.row⟩) rfl rfl (HBZ.out _)) ?_;try go_frame)
   | (refine wpList_store_run rfl 89 (.tmp 4) (.tmp 19) rfl rfl rfl HST.out ?_;try go_frame))
  refine bodyPost_ret (v:=.tuple #[zeroL.v,.bool false]) ?_ rfl ⟨rfl,T0.setRow _ (.inr (by omega))⟩;have hl9:=HL9.out;simp [results,results165,asAddr,hl9];rfl
 | some l=>
  obtain⟨k,hk,hlk2,_⟩:=layerAt_some hla;have hat:atN d.ids id=some k:=by
   rw [hids];unfold atM at hk;cases ha:atN (d.layers.map (·.id)) id with
   | none=>rw [ha]at hk;simp at hk
   | some j=>
    rw [ha]at hk;have:j=k:=(by simp at hk;omega);rw [this]
  rw [hat]at hlk;have hlk:(Instr.lookup 219 (.map (some mb)) id true).run prog W=.ok (.tuple #[(k:Int),.bool true]) W:=hlk;have hlo:layerOr d.layers id=l:=by unfold layerOr;rw [hla];rfl
  rw [hlo];have hls:k<d.layers.length:=(List.getElem?_eq_some_iff.1 hlk2).1;have hkl:k<d.ln:=by rw [hL.1];exact hls
  obtain⟨gl,ol,hga,hR⟩:=hL.cell (by omega);have hlA:=run_loadAt_mid W gl (ol+k*31) 89 l.row _ (hR W T0 k l hlk2).2 underlying89 rfl (zero_of_info infoLYR).2;have hst:=part_store (o:=0) (ty:=89) (p:=l.row) (L':=l.row) HX1.out (zero_of_info infoLYR).2 (by simp [LayerM.row]) (row_one _) (by simp [LayerM.row]);have hl9:=run_loadVar_row (P:=prog) _ w.heap.size 89 89 ⟨l.row⟩ (0,0) _ (setRow_at (L':=l.row) HX1.out) underlying89 rfl (zero_of_info infoLYR).2;rw [hga]at q3;have b0:(0:Int)≤(k:Int):=by omega
  have b1:(k:Int)<(d.ln:Int):=by omega
  have HLA:=lh hlA;have HST:=lh hst;have HL9:=lh hl9;clear hat hla hlo hst hl9 hids hL hR hls hlk2 hk hga hlA;go_enter func165,ntmps165;go_upto_region 1 with (refine wpList_yield (o:=⟨some 4,_,_,_,_,_⟩) rfl (exec_alloc (t:=89) rfl (HAL.out _)) ?_;try go_frame)
  rw [←hW];clear hW HAL;go_wp2_with (first
   | (refine wpList_yield (o:=⟨some 27,_,_,_,_,_⟩) rfl (exec_load (p:=.pointer (some ⟨gl,ol+k*31,none⟩)) (v:=.agg ⟨l.row⟩) rfl rfl HLA.out) ?_;try go_frame)
   | (refine wpList_store_run rfl 89 (.tmp 4) (.tmp 27) rfl rfl rfl HST.out ?_;try go_frame))
  refine bodyPost_ret (v:=.tuple #[l.v,.bool true]) ?_ rfl ⟨rfl,T0.setRow _ (.inr (by omega))⟩;have hl9:=HL9.out;simp [results,results165,asAddr,hl9];rfl
theorem zeroL_at(w:World): zeroL.At w:=⟨ints_none w,ints_none w,ints_none w,⟨rfl,fun j hj=>absurd hj (Nat.not_lt_zero j)⟩,tiles_none' w,tiles_none' w,by decide⟩
theorem layerOr_at{d:DocM}{w:World}(h:d.At w)(id:Int): (layerOr d.layers id).At w:=by
 unfold layerOr;cases hl:layerAt d.layers id with
 | none=>exact zeroL_at w
 | some l=>exact layerAt_at hl h
theorem steps_or(ls:List LayerM)(id:Int): stepsM ls id=partsM (layerOr ls id):=by
 unfold layerOr;cases hl:layerAt ls id with
 | some l=>exact steps_at hl
 | none=>
  unfold stepsM;unfold layerAt at hl;cases ha:atN (ls.map (·.id)) id with
  | none=>rfl
  | some k=>rw [ha]at hl;simp only at hl ⊢;rw [hl];rfl
def IsParts(w':World)(xs:List Int)(e:Ending): Prop:=∃A n c,e=.returned (.slice A n c)∧IntsAt w' A n xs∧n≤50
theorem tree_parts(d:DocM)(t mb:Nat)(id:Int)(w:World)(hT:TreeW w t mb d)(h:d.At w):
  Calls prog 169 #[.pointer (some ⟨t,0,none⟩),id] w fun e w'=>IsParts w' (stepsM d.layers id) e∧Turn [] w w':=by
 have hL:=tree_layer d t mb id w hT h;have hA:=layerOr_at h id;rw [steps_or];clear hT h;generalize layerOr d.layers id=l at *;generalize (layerAt d.layers id).isSome=b at *;have HL:=lh hL;have HA:=lh hA;have HAL:=lh alloc_LY;have HST:=lh (fun u=>store_LY u l);clear hL hA;by_cases hk:l.kind=4
 ·have hp:partsM l=[l.of]:=by unfold partsM;rw [if_pos hk]
  rw [hp];have HK:=lh hk;clear hp hk;go_enter func169,ntmps169;go_upto_region 2 with (first
   | (go_at_call 165;refine HL.out.mono ?_;rintro e w1 ⟨rfl,ht⟩)
   | (refine wpList_yield (o:=⟨some 5,_,_,_,_,_⟩) rfl (exec_alloc (t:=89) rfl (HAL.out _)) ?_;try go_frame)
   | (refine wpList_store_run rfl 89 (.tmp 5) (.tmp 11) rfl rfl rfl (HST.out _) ?_;try go_frame))
  obtain⟨V,hV⟩:∃V,V=w1.alloc (.cells ⟨l.row⟩ 89):=⟨_,rfl⟩;have TV:Turn [] w V:=by rw [hV];exact ht.alloc _
  have h9:V.heap[w1.heap.size]?=some (.cells ⟨l.row⟩ 89 (0,0)):=by rw [hV];exact heap_alloc_new _ _
  have y1:=cell_at (i:=1) h9 rfl;have y16:=cell_at (i:=16) h9 rfl;rw [HK.out]at y1;rw [←hV];clear hV h9 ht;generalize w1.heap.size=b9 at *;go_wp2_with fail
  go_ret;refine⟨⟨_,_,_,rfl,?_,by decide⟩,TV.alloc _⟩;exact ints_one V l.of
 have hp:partsM l=l.kids:=by unfold partsM;rw [if_neg hk]
 rw [hp];have hk4:(l.kind == 4)=false:=by simpa using hk
 clear hp hk;go_enter func169,ntmps169;go_upto_region 2 with (first
  | (go_at_call 165;refine HL.out.mono ?_;rintro e w1 ⟨rfl,ht⟩)
  | (refine wpList_yield (o:=⟨some 5,_,_,_,_,_⟩) rfl (exec_alloc (t:=89) rfl (HAL.out _)) ?_;try go_frame)
  | (refine wpList_store_run rfl 89 (.tmp 5) (.tmp 11) rfl rfl rfl (HST.out _) ?_;try go_frame))
 obtain⟨V,hV⟩:∃V,V=w1.alloc (.cells ⟨l.row⟩ 89):=⟨_,rfl⟩;have TV:Turn [] w V:=by rw [hV];exact ht.alloc _
 have h9:V.heap[w1.heap.size]?=some (.cells ⟨l.row⟩ 89 (0,0)):=by rw [hV];exact heap_alloc_new _ _
 have y1:=cell_at (i:=1) h9 rfl;have y15:=cell_at (i:=15) h9 rfl;rw [←hV];clear hV h9 ht;generalize w1.heap.size=b9 at *;go_wp2_with fail
 go_ret;exact⟨⟨_,_,_,rfl,(HA.out.turn TV).kids,HA.out.kidb⟩,TV⟩
end Go.Proofs.YtbpklgllihhgpaaGreat
