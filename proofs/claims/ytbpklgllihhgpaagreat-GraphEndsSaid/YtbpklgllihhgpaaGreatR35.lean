import Derived.Deep.CutBlock
import Derived.Test.YtbpklgllihhgpaaGreatR33
import Derived.Test.YtbpklgllihhgpaaGreatR34
set_option maxRecDepth 100000
set_option maxHeartbeats 16000000
namespace Go.Proofs.YtbpklgllihhgpaaGreat
open Tryz Go.RowKit Go.Den
section
def LayerM.Like(l m:LayerM): Prop:=m={ l with kidA:=m.kidA,kidc:=m.kidc,filt:={ l.filt with kA:=m.filt.kA,kc:=m.filt.kc,cA:=m.filt.cA,cc:=m.filt.cc },pA:=m.pA,pc:=m.pc,tA:=m.tA,tc:=m.tc,mA:=m.mA,mc:=m.mc }
theorem LayerM.Like.refl(l:LayerM): l.Like l:=rfl
theorem size_setRow(w:World)(b:Nat)(c:Array Value): (w.setRow b c).heap.size=w.heap.size:=by simp [World.setRow]
def Stab(bs:List Nat)(w:World)(P:World→Prop): Prop:=∀u,w.heap.size≤u.heap.size→(∀q,q<w.heap.size→q∉bs→u.heap[q]?=w.heap[q]?)→P u
variable {bs:List Nat}
theorem Stab.now{w:World}{P:World→Prop}(h:Stab bs w P): P w:=h w (Nat.le_refl _) fun _ _ _=>rfl
theorem Stab.turn{w w':World}{P:World→Prop}(h:Stab bs w P)(T:Turn [] w w'): Stab bs w' P:=fun u hs hu=>h u (Nat.le_trans T.size hs) fun q hq hb=>(hu q (Nat.lt_of_lt_of_le hq T.size) hb).trans (T.old q hq (by simp))
theorem Stab.setCell{b i:Nat}{v:Value}{w:World}{P:World→Prop}(h:Stab bs w P)(hb:b∈bs): Stab bs (w.setCell ⟨b,i,none⟩ v) P:=fun u hs hu=>h u (by rw [World.size_setCell]at hs;exact hs) fun q hq hq'=>(hu q (by rw [World.size_setCell];exact hq) hq').trans (setCell_other _ _ _ _ q fun e=>hq' (e ▸ hb))
theorem Stab.setRow{b:Nat}{c:Array Value}{w:World}{P:World→Prop}(h:Stab bs w P)(hb:b∈bs): Stab bs (w.setRow b c) P:=fun u hs hu=>h u (by rw [size_setRow]at hs;exact hs) fun q hq hq'=>(hu q (by rw [size_setRow];exact hq) hq').trans (setRow_other _ _ _ q fun e=>hq' (e ▸ hb))
theorem Stab.and{w:World}{P Q:World→Prop}(h:Stab bs w P)(k:Stab bs w Q): Stab bs w fun u=>P u∧Q u:=fun u hs hu=>⟨h u hs hu,k u hs hu⟩
theorem Stab.imp{w:World}{P Q:World→Prop}(h:Stab bs w P)(k:∀u,P u→Q u): Stab bs w Q:=fun u hs hu=>k u (h u hs hu)
theorem stab_old{w w':World}(T:Turn [] w w')(hb:∀b∈bs,w.heap.size≤b){P:World→Prop}(h:∀u,(∀q,q<w.heap.size→u.heap[q]?=w.heap[q]?)→P u): Stab bs w' P:=fun u hs hu=>
 h u fun q hq=>(hu q (Nat.lt_of_lt_of_le hq T.size) (fun hm=>by have:=hb q hm;omega)).trans (T.old q hq (by simp))
theorem Stab.mono{w:World}{P:World→Prop}{cs:List Nat}(h:Stab bs w P)(hc:∀b∈cs,b∈bs): Stab cs w P:=fun u hs hu=>h u hs fun q hq hb=>hu q hq fun hm=>hb (hc q hm)
theorem Stab.new{w w':World}{P:World→Prop}{cs:List Nat}(h:Stab bs w P)(T:Turn [] w w')(hc:∀b∈cs,b<w.heap.size→b∈bs): Stab cs w' P:=fun u hs hu=>
 h u (Nat.le_trans T.size hs) fun q hq hb=>(hu q (Nat.lt_of_lt_of_le hq T.size) (fun hm=>hb (hc q hm hq))).trans (T.old q hq (by simp))
theorem own_stab{k:Elem}{w:World}{base:Nat}{v:Value}{rows:List (List Value)}(h:Own k w base v rows)(hb:∀b∈bs,b<base): Stab bs w fun u=>Own k u base v rows:=fun u hs hu=>
 ⟨h.1,h.2.keep fun g hg=>hu g (h.2.lt g hg).2.1 (fun hm=>by have:=(h.2.lt g hg).1;have:=hb g hm;omega)⟩
def intRow(x:Int): List Value:=[x]
theorem int_row(x:Int): elemN.Row (intRow x):=⟨rfl,fun u hu=>by rw [List.mem_singleton.1 hu];rfl⟩
theorem ints_rows{w:World}{A:Option Addr}{n:Nat}{c:List Int}(h:IntsAt w A n c): RowsAt elemN w A (c.map intRow):=fun j r hr=>by
 rw [List.getElem?_map]at hr;obtain⟨x,hx,rfl⟩:=Option.map_eq_some_iff.1 hr;have hj:=(List.getElem?_eq_some_iff.1 hx).1;obtain⟨g,o,e,h2⟩:=h.2 j (by rw [h.1];exact hj);refine⟨g,o,e,fun i u hu=>?_⟩;obtain _ | i:=i
 ·have:u=x:=by simpa [intRow]using hu.symm
  rw [this];show w.cell? ⟨g,o+j*1+0,none⟩=_;rw [Nat.mul_one,Nat.add_zero,h2];simp [List.getD,hx]
 simp [intRow]at hu
theorem own_ints{w:World}{base:Nat}{A:Option Addr}{n cap:Nat}{c:List Int}(h:Own elemN w base (.slice A n cap) (c.map intRow)): IntsAt w A n c:=by
 rcases h.form with ⟨e,h0⟩ | ⟨g,o,cap',e,hb,_,_,hr⟩
 ·injection e with e1 e2 e3;have:c=[]:=List.map_eq_nil_iff.1 h0;rw [e1,e2,this];exact ints_none _
 injection e with e1 e2 e3;rw [List.length_map]at e2;refine⟨e2,fun j hj=>⟨g,o,e1,?_⟩⟩;rw [e2]at hj;have h2:=hr j (intRow c[j]) (by simp [hj]) 0 _ rfl;rw [show elemN.size=1 from rfl,Nat.mul_one,Nat.add_zero]at h2;rw [h2];simp [List.getD,hj]
theorem pts_rows{w:World}{A:Option Addr}{n:Nat}{c:List (Int×Int)}(h:PtsAt w A n c): RowsAt elemP w A (c.map ptRow):=fun j r hr=>by
 rw [List.getElem?_map]at hr;obtain⟨x,hx,rfl⟩:=Option.map_eq_some_iff.1 hr;have hj:=(List.getElem?_eq_some_iff.1 hx).1;obtain⟨g,o,e,h2,h3⟩:=h.2 j (by rw [h.1];exact hj);refine⟨g,o,e,fun i u hu=>?_⟩;show w.cell? ⟨g,o+j*2+i,none⟩=_;have hd:c.getD j (0,0)=x:=by simp [List.getD,hx]
 rw [hd]at h2 h3;obtain _ | _ | i:=i
 ·have:u=x.1:=by simpa [ptRow]using hu.symm
  rw [this];exact h2
 ·have:u=x.2:=by simpa [ptRow]using hu.symm
  rw [this];exact h3
 simp [ptRow]at hu
theorem tiles_rows{w:World}{A:Option Addr}{n:Nat}{ts:List TileM}(h:TilesAt w A n ts): RowsAt elemT w A (ts.map TileM.row):=fun j r hr=>by rw [List.getElem?_map]at hr;obtain⟨t,ht,rfl⟩:=Option.map_eq_some_iff.1 hr;obtain⟨_,g,o,e,h2⟩:=h.2 j t ht;exact⟨g,o,e,h2⟩
theorem tiles_ok{w:World}{A:Option Addr}{n:Nat}{ts:List TileM}(h:TilesAt w A n ts): ∀t∈ts,okPx t.px:=fun t ht=>by obtain⟨j,hj⟩:=List.mem_iff_getElem?.1 ht;exact (h.2 j t hj).1
theorem own_tiles{w:World}{base:Nat}{A:Option Addr}{n cap:Nat}{ts:List TileM}(hk:∀t∈ts,okPx t.px)(h:Own elemT w base (.slice A n cap) (ts.map TileM.row)): TilesAt w A n ts:=by
 rcases h.form with ⟨e,h0⟩ | ⟨g,o,cap',e,hb,_,_,hr⟩
 ·injection e with e1 e2 e3;have:ts=[]:=List.map_eq_nil_iff.1 h0;rw [e1,e2,this];exact⟨rfl,fun j t h=>by simp at h⟩
 injection e with e1 e2 e3;rw [List.length_map]at e2;refine⟨e2,fun j t ht=>⟨hk t (List.mem_of_getElem? ht),g,o,e1,?_⟩⟩;exact hr j t.row (by rw [List.getElem?_map,ht];rfl)
theorem own_len{k:Elem}{w:World}{base:Nat}{v:Value}{rows:List (List Value)}(h:Own k w base v rows): ∃A cap,v=.slice A rows.length cap:=by
 rcases h.form with ⟨e,h0⟩ | ⟨g,o,cap',e,_⟩
 ·exact⟨none,0,by rw [e,h0];rfl⟩
 exact⟨_,_,e⟩
structure CpW(bs:List Nat)(w wr:World)(l0 l:LayerM): Prop where
 t:Turn [] w wr
 h1:wr.heap[w.heap.size]?=some (.cells ⟨l.row⟩ 89 (0,0))
 h2:wr.heap[w.heap.size+1]?=some (.cells ⟨zeroL.row⟩ 89 (0,0))
 like:l0.Like l
 st:Stab (w.heap.size :: (w.heap.size+1) :: bs) wr fun u=>l.At u
variable {w wr u:World} {l0 l:LayerM}
theorem CpW.turn(P:CpW bs w wr l0 l)(T:Turn [] wr u): CpW bs w u l0 l:=by have h1:=(Array.getElem?_eq_some_iff.1 P.h1).1;have h2:=(Array.getElem?_eq_some_iff.1 P.h2).1;exact⟨P.t.trans T,(T.old _ h1 (by simp)).trans P.h1,(T.old _ h2 (by simp)).trans P.h2,P.like,P.st.turn T⟩
theorem CpW.put(P:CpW bs w wr l0 l){l':LayerM}{i:Nat}{v:Value}(hr:l.row.set i v=l'.row)(hl:l0.Like l')(hs:Stab (w.heap.size :: (w.heap.size+1) :: bs) wr fun u=>l'.At u): CpW bs w (wr.setCell ⟨w,i,none⟩ v) l0 l':=
 ⟨P.t.setCell _ (.inr (Nat.le_refl _)),setCell_at P.h1 hr,(setCell_other _ _ _ _ _ (by omega)).trans P.h2,hl,hs.setCell (by simp)⟩
theorem CpW.kid(P:CpW bs w wr l0 l){base:Nat}{A':Option Addr}{c':Nat}(h:Own elemN wr base (.slice A' l.kidn c') (l.kids.map intRow))(hb:w.heap.size+1<base)(hbs:∀b∈bs,b<w.heap.size): CpW bs w (wr.setCell ⟨w,15,none⟩ (.slice A' l.kidn c')) l0 { l with kidA:=A',kidc:=c' }:=by
 refine P.put rfl ?_ ((P.st.and (own_stab h (fun b hm=>by simp only [List.mem_cons]at hm;rcases hm with rfl | rfl | hm;omega;omega;have:=hbs b hm;omega))).imp fun u hu=>?_)
 ·have:=P.like;unfold LayerM.Like at this ⊢;rw [this]
 have hA:=hu.1;exact⟨own_ints hu.2,hA.ks,hA.cs,hA.pts,hA.tiles,hA.mask,hA.kidb⟩
theorem CpW.pts(P:CpW bs w wr l0 l){base:Nat}{A':Option Addr}{c':Nat}(h:Own elemP wr base (.slice A' l.pn c') (l.pts.map ptRow))(hb:w.heap.size+1<base)(hbs:∀b∈bs,b<w.heap.size): CpW bs w (wr.setCell ⟨w,27,none⟩ (.slice A' l.pn c')) l0 { l with pA:=A',pc:=c' }:=by
 refine P.put rfl ?_ ((P.st.and (own_stab h (fun b hm=>by simp only [List.mem_cons]at hm;rcases hm with rfl | rfl | hm;omega;omega;have:=hbs b hm;omega))).imp fun u hu=>?_)
 ·have:=P.like;unfold LayerM.Like at this ⊢;rw [this]
 have hA:=hu.1;exact⟨hA.kids,hA.ks,hA.cs,(own_pts hu.2).1,hA.tiles,hA.mask,hA.kidb⟩
theorem CpW.ks(P:CpW bs w wr l0 l){base:Nat}{A':Option Addr}{c':Nat}(h:Own elemN wr base (.slice A' l.filt.kn c') (l.ks.map intRow))(hb:w.heap.size+1<base)(hbs:∀b∈bs,b<w.heap.size): CpW bs w (wr.setCell ⟨w,19,none⟩ (.slice A' l.filt.kn c')) l0 { l with filt:={ l.filt with kA:=A',kc:=c' } }:=by
 refine P.put rfl ?_ ((P.st.and (own_stab h (fun b hm=>by simp only [List.mem_cons]at hm;rcases hm with rfl | rfl | hm;omega;omega;have:=hbs b hm;omega))).imp fun u hu=>?_)
 ·have:=P.like;unfold LayerM.Like at this ⊢;rw [this]
 have hA:=hu.1;exact⟨hA.kids,own_ints hu.2,hA.cs,hA.pts,hA.tiles,hA.mask,hA.kidb⟩
theorem CpW.cs(P:CpW bs w wr l0 l){base:Nat}{A':Option Addr}{c':Nat}(h:Own elemN wr base (.slice A' l.filt.cn c') (l.cs.map intRow))(hb:w.heap.size+1<base)(hbs:∀b∈bs,b<w.heap.size): CpW bs w (wr.setCell ⟨w,22,none⟩ (.slice A' l.filt.cn c')) l0 { l with filt:={ l.filt with cA:=A',cc:=c' } }:=by
 refine P.put rfl ?_ ((P.st.and (own_stab h (fun b hm=>by simp only [List.mem_cons]at hm;rcases hm with rfl | rfl | hm;omega;omega;have:=hbs b hm;omega))).imp fun u hu=>?_)
 ·have:=P.like;unfold LayerM.Like at this ⊢;rw [this]
 have hA:=hu.1;exact⟨hA.kids,hA.ks,own_ints hu.2,hA.pts,hA.tiles,hA.mask,hA.kidb⟩
theorem CpW.tiles(P:CpW bs w wr l0 l)(hk:∀t∈l.tiles,okPx t.px){base:Nat}{A':Option Addr}{c':Nat}(h:Own elemT wr base (.slice A' l.tn c') (l.tiles.map TileM.row))(hb:w.heap.size+1<base)(hbs:∀b∈bs,b<w.heap.size): CpW bs w (wr.setCell ⟨w,28,none⟩ (.slice A' l.tn c')) l0 { l with tA:=A',tc:=c' }:=by
 refine P.put rfl ?_ ((P.st.and (own_stab h (fun b hm=>by simp only [List.mem_cons]at hm;rcases hm with rfl | rfl | hm;omega;omega;have:=hbs b hm;omega))).imp fun u hu=>?_)
 ·have:=P.like;unfold LayerM.Like at this ⊢;rw [this]
 have hA:=hu.1;exact⟨hA.kids,hA.ks,hA.cs,hA.pts,own_tiles hk hu.2,hA.mask,hA.kidb⟩
theorem CpW.mask(P:CpW bs w wr l0 l)(hk:∀t∈l.mask,okPx t.px){base:Nat}{A':Option Addr}{c':Nat}(h:Own elemT wr base (.slice A' l.mn c') (l.mask.map TileM.row))(hb:w.heap.size+1<base)(hbs:∀b∈bs,b<w.heap.size): CpW bs w (wr.setCell ⟨w,30,none⟩ (.slice A' l.mn c')) l0 { l with mA:=A',mc:=c' }:=by
 refine P.put rfl ?_ ((P.st.and (own_stab h (fun b hm=>by simp only [List.mem_cons]at hm;rcases hm with rfl | rfl | hm;omega;omega;have:=hbs b hm;omega))).imp fun u hu=>?_)
 ·have:=P.like;unfold LayerM.Like at this ⊢;rw [this]
 have hA:=hu.1;exact⟨hA.kids,hA.ks,hA.cs,hA.pts,hA.tiles,own_tiles hk hu.2,hA.kidb⟩
theorem int_rows_ok{c:List Int}: ∀r∈c.map intRow,elemN.Row r:=fun r hr=>by obtain⟨x,_,rfl⟩:=List.mem_map.1 hr;exact int_row x
theorem pt_rows_ok{c:List (Int×Int)}: ∀r∈c.map ptRow,elemP.Row r:=fun r hr=>by obtain⟨x,_,rfl⟩:=List.mem_map.1 hr;exact pt_row x
theorem tile_rows_ok{c:List TileM}(h:∀t∈c,okPx t.px): ∀r∈c.map TileM.row,elemT.Row r:=fun r hr=>by obtain⟨x,hx,rfl⟩:=List.mem_map.1 hr;exact tile_row (h x hx)
structure LayerM.Thin(l:LayerM): Prop where
 k:l.kidn≤50
 p:l.pn≤5000
 a:l.filt.kn≤5000
 b:l.filt.cn≤5000
 t:l.tn≤5000
 m:l.mn≤5000
theorem LayerM.Like.thin{l m:LayerM}(h:l.Like m)(k:l.Thin): m.Thin:=by rw [h];exact⟨k.k,k.p,k.a,k.b,k.t,k.m⟩
theorem doc_own(l:LayerM)(w:World)(bs:List Nat)(hbs:∀b∈bs,b<w.heap.size)(h:Stab bs w fun u=>l.At u)(hth:l.Thin): Calls prog 118 #[l.v] w fun e w'=>(∃m,l.Like m∧Stab bs w' (fun u=>m.At u)∧e=.returned m.v)∧Turn [] w w':=by
 obtain⟨W,hW⟩:∃W,W=(w.alloc (.cells ⟨l.row⟩ 89)).alloc (.cells ⟨zeroL.row⟩ 89):=⟨_,rfl⟩;have T0:Turn [] w W:=hW ▸ ((tR w).alloc _).alloc _;have x0:W.heap[w.heap.size]?=some (.cells ⟨l.row⟩ 89 (0,0)):=by rw [hW];simp only [heap_at,World.size_alloc];rw [if_neg (by omega),if_pos (by first | trivial | omega)]
 have x1:W.heap[w.heap.size+1]?=some (.cells ⟨zeroL.row⟩ 89 (0,0)):=by rw [hW];simp only [heap_at,World.size_alloc];rw [if_pos (by first | trivial | omega)]
 have P:CpW bs w W l l:=⟨T0,x0,x1,rfl,h.new T0 (fun b hm hb=>by simp only [List.mem_cons]at hm;rcases hm with rfl | rfl | hm;omega;omega;exact hm)⟩;have HBS:=lh hbs;have HAL:=lh alloc_LY;have HTH:=lh hth;clear h x0 x1 T0 hth hbs;unfold LayerM.v;go_enter func118,ntmps118;go_upto_region 1 with (refine wpList_yield rfl (exec_alloc (t:=89) rfl (HAL.out _)) ?_;try go_frame)
 rw [←hW];clear hW HAL;simp only [World.size_alloc];go_cut [] (fun wx=>∃m,CpW bs w wx l m);case first=>
  have hlen:l.kidn=(l.kids.map intRow).length:=by rw [List.length_map];exact P.st.now.kids.1
  have hCl:=clone_ints (l.kids.map intRow) l.kidA l.kidc int_rows_ok (by rw [←hlen];have:=(P.like.thin HTH.out).k;omega) W (ints_rows P.st.now.kids);rw [←hlen]at hCl;have y:=cell_at (i:=15) P.h1 (v:=.slice l.kidA l.kidn l.kidc) rfl;have yf:=frozen_at P.h1 15;have hlt:w.heap.size+1<W.heap.size:=(Array.getElem?_eq_some_iff.1 P.h2).1;have HP:=lh P;have HCL:=lh hCl;have HLEN:=lh hlen;clear P hCl hlen;go_wp2_with (go_at_call 171;refine HCL.out.mono ?_;rintro e w2 ⟨⟨v,rfl,hO⟩,ht⟩;obtain⟨A',c',rfl⟩:=own_len hO;have P2:=HP.out.turn ht;have y:=cell_at (i:=15) P2.h1 (v:=.slice l.kidA l.kidn l.kidc) rfl;have yf:=frozen_at P2.h1 15;have HP2:=lh P2;rw [←HLEN.out]at hO ⊢;have HO:=lh hO;clear P2 hO ht)
  go_meet;exact⟨_,HP2.out.kid HO.out hlt HBS.out⟩
 obtain⟨l1,P⟩:=hcut;go_upto_region 2 with (fail)
 go_cut [] (fun wx=>∃m,CpW bs w wx l m);case first=>
  have hlen:l1.pn=(l1.pts.map ptRow).length:=by rw [List.length_map];exact P.st.now.pts.1
  have hCl:=clone_pts (l1.pts.map ptRow) l1.pA l1.pc pt_rows_ok (by rw [←hlen];have:=(P.like.thin HTH.out).p;omega) wc (pts_rows P.st.now.pts);rw [←hlen]at hCl;have y:=cell_at (i:=27) P.h1 (v:=.slice l1.pA l1.pn l1.pc) rfl;have yf:=frozen_at P.h1 27;have hlt:w.heap.size+1<wc.heap.size:=(Array.getElem?_eq_some_iff.1 P.h2).1;have HP:=lh P;have HCL:=lh hCl;have HLEN:=lh hlen;clear P hCl hlen;go_wp2_with (go_at_call 172;refine HCL.out.mono ?_;rintro e w2 ⟨⟨v,rfl,hO⟩,ht⟩;obtain⟨A',c',rfl⟩:=own_len hO;have P2:=HP.out.turn ht;have y:=cell_at (i:=27) P2.h1 (v:=.slice l1.pA l1.pn l1.pc) rfl;have yf:=frozen_at P2.h1 27;have HP2:=lh P2;rw [←HLEN.out]at hO ⊢;have HO:=lh hO;clear P2 hO ht)
  go_meet;exact⟨_,HP2.out.pts HO.out hlt HBS.out⟩
 obtain⟨l2,P⟩:=hcut;go_upto_region 3 with (fail)
 go_cut [] (fun wx=>∃m,CpW bs w wx l m);case first=>
  have hlen:l2.filt.kn=(l2.ks.map intRow).length:=by rw [List.length_map];exact P.st.now.ks.1
  have hCl:=clone_ints (l2.ks.map intRow) l2.filt.kA l2.filt.kc int_rows_ok (by rw [←hlen];have:=(P.like.thin HTH.out).a;omega) wc (ints_rows P.st.now.ks);rw [←hlen]at hCl;have y:=cell_at (i:=19) P.h1 (v:=.slice l2.filt.kA l2.filt.kn l2.filt.kc) rfl;have yf:=frozen_at P.h1 19;have hlt:w.heap.size+1<wc.heap.size:=(Array.getElem?_eq_some_iff.1 P.h2).1;have HP:=lh P;have HCL:=lh hCl;have HLEN:=lh hlen;clear P hCl hlen;go_wp2_with (go_at_call 171;refine HCL.out.mono ?_;rintro e w2 ⟨⟨v,rfl,hO⟩,ht⟩;obtain⟨A',c',rfl⟩:=own_len hO;have P2:=HP.out.turn ht;have y:=cell_at (i:=19) P2.h1 (v:=.slice l2.filt.kA l2.filt.kn l2.filt.kc) rfl;have yf:=frozen_at P2.h1 19;have HP2:=lh P2;rw [←HLEN.out]at hO ⊢;have HO:=lh hO;clear P2 hO ht)
  go_meet;exact⟨_,HP2.out.ks HO.out hlt HBS.out⟩
 obtain⟨l3,P⟩:=hcut;go_upto_region 4 with (fail)
 go_cut [] (fun wx=>∃m,CpW bs w wx l m);case first=>
  have hlen:l3.filt.cn=(l3.cs.map intRow).length:=by rw [List.length_map];exact P.st.now.cs.1
  have hCl:=clone_curve (l3.cs.map intRow) l3.filt.cA l3.filt.cc int_rows_ok (by rw [←hlen];have:=(P.like.thin HTH.out).b;omega) wc (ints_rows P.st.now.cs);rw [←hlen]at hCl;have y:=cell_at (i:=22) P.h1 (v:=.slice l3.filt.cA l3.filt.cn l3.filt.cc) rfl;have yf:=frozen_at P.h1 22;have hlt:w.heap.size+1<wc.heap.size:=(Array.getElem?_eq_some_iff.1 P.h2).1;have HP:=lh P;have HCL:=lh hCl;have HLEN:=lh hlen;clear P hCl hlen;go_wp2_with (go_at_call 173;refine HCL.out.mono ?_;rintro e w2 ⟨⟨v,rfl,hO⟩,ht⟩;obtain⟨A',c',rfl⟩:=own_len hO;have P2:=HP.out.turn ht;have y:=cell_at (i:=22) P2.h1 (v:=.slice l3.filt.cA l3.filt.cn l3.filt.cc) rfl;have yf:=frozen_at P2.h1 22;have HP2:=lh P2;rw [←HLEN.out]at hO ⊢;have HO:=lh hO;clear P2 hO ht)
  go_meet;exact⟨_,HP2.out.cs HO.out hlt HBS.out⟩
 obtain⟨l4,P⟩:=hcut;go_upto_region 5 with (fail)
 go_cut [] (fun wx=>∃m,CpW bs w wx l m);case first=>
  have hlen:l4.tn=(l4.tiles.map TileM.row).length:=by rw [List.length_map];exact P.st.now.tiles.1
  have hCl:=clone_tiles (l4.tiles.map TileM.row) l4.tA l4.tc (tile_rows_ok (tiles_ok P.st.now.tiles)) (by rw [←hlen];have:=(P.like.thin HTH.out).t;omega) wc (tiles_rows P.st.now.tiles);rw [←hlen]at hCl;have y:=cell_at (i:=28) P.h1 (v:=.slice l4.tA l4.tn l4.tc) rfl;have yf:=frozen_at P.h1 28;have hlt:w.heap.size+1<wc.heap.size:=(Array.getElem?_eq_some_iff.1 P.h2).1;have HOK:=lh (tiles_ok P.st.now.tiles);have HP:=lh P;have HCL:=lh hCl;have HLEN:=lh hlen;clear P hCl hlen;go_wp2_with (go_at_call 174;refine HCL.out.mono ?_;rintro e w2 ⟨⟨v,rfl,hO⟩,ht⟩;obtain⟨A',c',rfl⟩:=own_len hO;have P2:=HP.out.turn ht;have y:=cell_at (i:=28) P2.h1 (v:=.slice l4.tA l4.tn l4.tc) rfl;have yf:=frozen_at P2.h1 28;have HP2:=lh P2;rw [←HLEN.out]at hO ⊢;have HO:=lh hO;clear P2 hO ht)
  go_meet;exact⟨_,HP2.out.tiles HOK.out HO.out hlt HBS.out⟩
 obtain⟨l5,P⟩:=hcut;go_upto_region 6 with (fail)
 go_cut [] (fun wx=>∃m,CpW bs w wx l m);case first=>
  have hlen:l5.mn=(l5.mask.map TileM.row).length:=by rw [List.length_map];exact P.st.now.mask.1
  have hCl:=clone_tiles (l5.mask.map TileM.row) l5.mA l5.mc (tile_rows_ok (tiles_ok P.st.now.mask)) (by rw [←hlen];have:=(P.like.thin HTH.out).m;omega) wc (tiles_rows P.st.now.mask);rw [←hlen]at hCl;have y:=cell_at (i:=30) P.h1 (v:=.slice l5.mA l5.mn l5.mc) rfl;have yf:=frozen_at P.h1 30;have hlt:w.heap.size+1<wc.heap.size:=(Array.getElem?_eq_some_iff.1 P.h2).1;have HOK:=lh (tiles_ok P.st.now.mask);have HP:=lh P;have HCL:=lh hCl;have HLEN:=lh hlen;clear P hCl hlen;go_wp2_with (go_at_call 174;refine HCL.out.mono ?_;rintro e w2 ⟨⟨v,rfl,hO⟩,ht⟩;obtain⟨A',c',rfl⟩:=own_len hO;have P2:=HP.out.turn ht;have y:=cell_at (i:=30) P2.h1 (v:=.slice l5.mA l5.mn l5.mc) rfl;have yf:=frozen_at P2.h1 30;have HP2:=lh P2;rw [←HLEN.out]at hO ⊢;have HO:=lh hO;clear P2 hO ht)
  go_meet;exact⟨_,HP2.out.mask HOK.out HO.out hlt HBS.out⟩
 obtain⟨l6,P⟩:=hcut;have HP:=lh P;clear P;have hlA:(Instr.loadAt 89 (.pointer (some ⟨w,0,none⟩))).run prog wc=.ok (.agg ⟨l6.row⟩) wc:=run_loadAt_mid wc w.heap.size 0 89 l6.row _ (part_range HP.out.h1 (by simp)) underlying89 rfl (zero_of_info infoLYR).2;have hstA:=part_store (o:=0) (ty:=89) (p:=l6.row) (L':=l6.row) HP.out.h2 (zero_of_info infoLYR).2 (by simp [LayerM.row]) (row_one _) (by simp [LayerM.row]);have hl9:=run_loadVar_row (P:=prog) _ (w.heap.size+1) 89 89 ⟨l6.row⟩ (0,0) _ (setRow_at (L':=l6.row) HP.out.h2) underlying89 rfl (zero_of_info infoLYR).2;go_wp2_with (first
  | (refine wpList_yield rfl (exec_load rfl rfl hlA) ?_;try go_frame)
  | (refine wpList_store_run rfl 89 (.tmp 2) (.tmp 35) rfl rfl rfl hstA ?_;try go_frame))
 have TT:=HP.out.t.setRow (g:=w.heap.size+1) ⟨l6.row⟩ (.inr (by omega));refine bodyPost_ret (v:=l6.v) ?_ rfl ⟨⟨l6,HP.out.like,?_,rfl⟩,TT⟩
 ·simp [results,results118,asAddr,hl9];rfl
 exact (HP.out.st.setRow (by simp)).mono (fun b hb=>by simp [hb])
end
theorem atM_none{ls:List LayerM}{id:Int}(hs:layerAt ls id=none): atM (ls.map (·.id)) id=-1:=by
 unfold layerAt at hs;unfold atM;cases ha:atN (ls.map (·.id)) id with
 | none=>rfl
 | some k=>
  rw [ha]at hs;have hs:ls[k]?=none:=hs;unfold atN at ha;rw [List.findIdx?_eq_some_iff_getElem]at ha;obtain⟨h1,_⟩:=ha;rw [List.getElem?_eq_none_iff]at hs;simp at h1;omega
def IsLayer(bs:List Nat)(ls:List LayerM)(id:Int)(w':World)(e:Ending): Prop:=match layerAt ls id with
 | some l=>∃m,l.Like m∧Stab bs w' (fun u=>m.At u)∧e=.returned (.tuple #[m.v,.bool true])
 | none=>e=.returned (.tuple #[zeroL.v,.bool false])
theorem doc_layer(d:DocM)(id:Int)(w:World)(bs:List Nat)(hbs:∀b∈bs,b<w.heap.size)(h0:Stab bs w fun u=>d.At u)(hth:∀l∈d.layers,l.Thin): Calls prog 77 #[d.v,id] w fun e w'=>IsLayer bs d.layers id w' e∧Turn [] w w':=by
 have h:=h0.now;have hix:=fun u (t:Turn [] w u) pb (hp:u.cell? ⟨pb,0,none⟩=some (.int .i64 id))=>lay_index d.ids d.layers rfl d.lA d.ln d.lc h.small id pb u (h.turn t).layers hp;have hsm:=h.small;have hll:=h.layers.1;have hLA:=h.layers;have hST:Stab bs w fun u=>LayersAt u d.lA d.ln d.layers:=h0.imp fun u hu=>hu.layers;have hids:d.ids=d.layers.map (·.id):=rfl;clear h h0;obtain⟨sA,sn,sc,spaces,root,next,lA,ln,lc,layers⟩:=d;simp only [DocM.v]at *;rw [hids]at hix;clear hids;have hmf:∀(fn:Fn) (first cap:Array Value) (w:World),(Instr.makeFunc fn first cap).run prog w=.ok (.func fn first cap) w:=fun _ _ _ _=>rfl;obtain⟨W,hW⟩:∃W,W=((w.alloc (.cells #[.slice sA sn sc,root,next,.slice lA ln lc] 29)).alloc (.cells #[id] 3)).alloc (.cells ⟨zeroL.row⟩ 89):=⟨_,rfl⟩;have T0:Turn [] w W:=hW ▸ (((tR w).alloc _).alloc _).alloc _;have hWs:w.heap.size+3≤W.heap.size:=by rw [hW];simp
 have x0:W.heap[w.heap.size]?=some (.cells ⟨[.slice sA sn sc,root,next,.slice lA ln lc]⟩ 29 (0,0)):=by rw [hW];simp only [heap_at,World.size_alloc];rw [if_neg (by omega),if_neg (by omega),if_pos (by first | trivial | omega)]
 have x1:W.heap[w.heap.size+1]?=some (.cells ⟨[id]⟩ 3 (0,0)):=by rw [hW];simp only [heap_at,World.size_alloc];rw [if_neg (by omega),if_pos (by first | trivial | omega)]
 have x2:W.heap[w.heap.size+2]?=some (.cells ⟨zeroL.row⟩ 89 (0,0)):=by rw [hW];simp only [heap_at,World.size_alloc];rw [if_pos (by first | trivial | omega)]
 have q3:=cell_at (i:=3) x0 rfl;have hI:=hix W T0 (w.heap.size+1) (cell_at x1 rfl);have HAL:=lh alloc_LY;have HI:=lh hI;have HX2:=lh x2;have HL:=lh hLA;have HST:=lh hST;have HBS:=lh hbs;have HTH:=lh hth;have HLL:=lh hll;clear x0 x1 x2 hI hix hLA hth hll hST hbs;cases hla:layerAt layers id with
 | none=>
  have hat:atM (layers.map (·.id)) id=-1:=atM_none hla;have HLN:=lh hla;rw [hat]at HI;clear hat hla;go_enter func77,ntmps77;go_upto_region 1 with (refine wpList_yield rfl (exec_alloc (t:=89) rfl (HAL.out _)) ?_;try go_frame)
  rw [←hW];clear hW HAL;simp only [World.size_alloc];go_upto_region 3 with (go_at_call 116;refine HI.out.mono ?_;rintro e w1 ⟨rfl,ht⟩)
  have x2:=(ht.old (w.heap.size+2) (by omega) (by simp)).trans HX2.out;have hst:=part_store (o:=0) (ty:=89) (p:=zeroL.row) (L':=zeroL.row) x2 (zero_of_info infoLYR).2 (by simp [LayerM.row]) (row_one _) (by simp [LayerM.row]);have hl9:=run_loadVar_row (P:=prog) _ (w.heap.size+2) 89 89 ⟨zeroL.row⟩ (0,0) _ (setRow_at (L':=zeroL.row) x2) underlying89 rfl (zero_of_info infoLYR).2;have hbz:∀u,(Instr.build 89 #[]).run prog u=.ok (.agg ⟨zeroL.row⟩) u:=fun u=>by kernel_rfl
  have TT:=lh ((T0.trans ht).setRow (g:=w.heap.size+2) ⟨zeroL.row⟩ (.inr (by omega)));clear x2 ht q3;go_wp2_with (first
   | (refine wpList_yield rfl (exec_build (vs:=#[]) rfl rfl (hbz _)) ?_;try go_frame)
   | (refine wpList_store_run rfl 89 (.tmp 4) (.tmp 13) rfl rfl rfl hst ?_;try go_frame))
  refine bodyPost_ret (v:=.tuple #[zeroL.v,.bool false]) ?_ rfl ⟨?_,TT.out⟩
  ·simp [results,results77,asAddr,hl9];rfl
  unfold IsLayer;rw [HLN.out]
 | some l=>
  obtain⟨k,hk,hlk,_⟩:=layerAt_some hla;rw [hk]at HI;have HLN:=lh hla;have hls:k<layers.length:=(List.getElem?_eq_some_iff.1 hlk).1;have hkl:k<ln:=by rw [HLL.out];exact hls
  obtain⟨gl,ol,rfl,hR⟩:=HL.out.cell (by omega);have b0:(0:Int)≤(k:Int):=by omega
  have b1:(k:Int)<(ln:Int):=by omega
  have HR:=lh (fun u t=>hR u t k l hlk);have hthl:=HTH.out l (List.mem_of_getElem? hlk);have HLK:=lh hlk;clear hk hlk hls hla hR;go_enter func77,ntmps77;go_upto_region 1 with (refine wpList_yield rfl (exec_alloc (t:=89) rfl (HAL.out _)) ?_;try go_frame)
  rw [←hW];clear hW HAL;simp only [World.size_alloc];go_upto_region 4 with (go_at_call 116;refine HI.out.mono ?_;rintro e w1 ⟨rfl,ht⟩;have q3:=(show w1.cell? ⟨w,3,none⟩=_ from ((tcell ht).1 _ _ (block_lt_of_cell q3)).trans q3))
  have T1:=T0.trans ht;have hlA:=run_loadAt_mid w1 gl (ol+k*31) 89 l.row _ (HR.out _ T1).2 underlying89 rfl (zero_of_info infoLYR).2;have hsl:Stab ((w.heap.size+2) :: bs) w1 fun u=>l.At u:=(HST.out.new T1 (fun b hm hb=>by rcases List.mem_cons.1 hm with rfl | hm;omega;exact hm)).imp fun u hu=>(hu.2 k l HLK.out).1;have hown:=doc_own l w1 ((w.heap.size+2) :: bs) (fun b hm=>by have:=ht.size;rcases List.mem_cons.1 hm with rfl | hm;omega;have:=HBS.out b hm;omega) hsl hthl;have HT1:=lh T1;have HX3:=lh ((ht.old (w.heap.size+2) (by omega) (by simp)).trans HX2.out);have HO:=lh hown;have hsz:w.heap.size+2<w1.heap.size:=by have:=ht.size;omega
  clear T1 ht hown T0 hsl;go_wp2_with (first
   | (refine wpList_yield rfl (exec_load rfl rfl hlA) ?_;try go_frame)
   | (go_at_call 118;refine HO.out.mono ?_;rintro e w2 ⟨⟨m,hm,hA,rfl⟩,ht2⟩;have x2:=(ht2.old (w.heap.size+2) hsz (by simp)).trans HX3.out;have hst:=part_store (o:=0) (ty:=89) (p:=m.row) (L':=m.row) x2 (zero_of_info infoLYR).2 (by simp [LayerM.row]) (row_one _) (by simp [LayerM.row]);have hl9:=run_loadVar_row (P:=prog) _ (w.heap.size+2) 89 89 ⟨m.row⟩ (0,0) _ (setRow_at (L':=m.row) x2) underlying89 rfl (zero_of_info infoLYR).2;have HM:=lh (And.intro hm (And.intro hA ht2));clear x2 hm hA ht2)
   | (refine wpList_store_run rfl 89 (.tmp 4) (.tmp 19) rfl rfl rfl hst ?_;try go_frame))
  obtain⟨hm,hA,ht2⟩:=HM.out;refine bodyPost_ret (v:=.tuple #[m.v,.bool true]) ?_ rfl ⟨?_,(HT1.out.trans ht2).setRow _ (.inr (by omega))⟩
  ·simp [results,results77,asAddr,hl9];rfl
  unfold IsLayer;rw [HLN.out];exact⟨m,hm,(hA.setRow (by simp)).mono (fun b hb=>by simp [hb]),rfl⟩
end Go.Proofs.YtbpklgllihhgpaaGreat
