import Derived.Test.YtbpklgllihhgpaaGreatA32
set_option maxRecDepth 100000
set_option maxHeartbeats 16000000
namespace Go.Proofs.YtbpklgllihhgpaaGreat
open Tryz Go.RowKit Go.Den
def Ky(bs:List Nat)(d:df)(id:Int)(w':World)(e:Ending): Prop:=match dh d.layers id with
 | some l=>∃m,l.Like m∧gG bs w' (fun u=>m.At u)∧e=.returned (.tuple #[d.v,m.v,.bool true])
 | none=>e=.returned (.tuple #[d.v,dF.v,.bool false])
def sD(bs:List Nat)(d:df)(id:Int)(ok:Bool)(w':World)(e:Ending): Prop:=if ok=true then Ky bs d id w' e else e=.returned (.tuple #[.agg #[.slice none 0 0,(0:Int),(0:Int),.slice none 0 0],dF.v,.bool false])
theorem wE{w:World}{b:Nat}{L:Array Value}{t:TypeId}{c:Nat}{r:Array Value}(h:w.heap[b]?=some (.cells L t (0,0)))(hc:b≠c): (w.setRow c r).heap[b]?=some (.cells L t (0,0)):=(fQ _ _ _ _ hc).trans h
theorem ut{w:World}{b:Nat}{L:Array Value}{x y z t p q r s:Value}{ty:TypeId}(h:w.heap[b]?=some (.cells L ty (0,0)))(hL:L=#[p,q,r,s]): ((((w.setCell ⟨b,0,none⟩ x).setCell ⟨b,1,none⟩ y).setCell ⟨b,2,none⟩ z).setCell ⟨b,3,none⟩ t).heap[b]?=some (.cells #[x,y,z,t] ty (0,0)):=by subst hL;simp only [World.setCell,au,if_true,h];rfl
theorem IR{P:Program}{o:Oper}{a:Act}{w w':World}{t:TypeId}{i:Nat}{x:Operand}{p v:Value}(ho:o.op=.build t #[(i,x)])(hx:a.eval x=p)(hr:(Instr.build t #[(i,p)]).run P w=.ok v w'): (execOp a.eval o).run P w=.ok (.value v) w':=
 iU ho (by simp [hx]) hr
theorem QB:(prog.info? 107).map (·.size)=some 4:=by kernel_rfl
theorem OQ(a b c d:Value)(u:World): (Instr.build 107 #[(0,.agg #[a,b,c,d])]).run prog u=.ok (.agg #[a,b,c,d]) u:=by kernel_rfl
theorem AA(d:df)(id:Int)(w:World)(bs:List Nat)(hbs:∀b∈bs,b<w.heap.size)(h0:gG bs w fun u=>d.At u)(hth:∀l∈d.layers,l.Thin)(ok:Bool)(e1 e2:Int)(he:ok=false→e1≠0)(he2:ok=true→e1=0)
  (hck:∀u,bH [] w u→Calls prog 76 #[d.v] u fun e w'=>e=.returned (.tuple #[e1,e2])∧bH [] u w') :
  Calls prog 39 #[d.v,id] w fun e w'=>sD bs d id ok w' e∧bH [] w w':=by
 have hLy:=fun u (t:bH [] w u) cs (hcs:∀b∈cs,b<u.heap.size) (hcb:∀b∈cs,b<w.heap.size→b∈bs)=>LV d id u cs hcs (h0.new t hcb) hth;clear h0 hth;unfold Fq at *;obtain⟨sA,sn,sc,spaces,root,next,lA,ln,lc,layers⟩:=d;simp only [df.v]at *;obtain⟨W,hW⟩:∃W,W=((w.alloc (.cells #[.slice sA sn sc,root,next,.slice lA ln lc] 29)).alloc (.cells #[.slice none 0 0,(0:Int),(0:Int),.slice none 0 0] 107)).alloc (.cells ⟨dF.row⟩ 89):=⟨_,rfl⟩;have T0:bH [] w W:=hW ▸ (((tR w).alloc _).alloc _).alloc _;have hWs:w.heap.size+3≤W.heap.size:=by rw [hW];simp
 have x0:W.heap[w.heap.size]?=some (.cells #[.slice sA sn sc,root,next,.slice lA ln lc] 29 (0,0)):=hW ▸ bO (bO bN);have x1:W.heap[w.heap.size+1]?=some (.cells #[.slice none 0 0,(0:Int),(0:Int),.slice none 0 0] 107 (0,0)):=hW ▸ bO bN;have x2:W.heap[w.heap.size+1+1]?=some (.cells ⟨dF.row⟩ 89 (0,0)):=hW ▸ bN;have HLY:=lh hLy;have HCK:=lh (hck W T0);have HBS:=lh hbs;have HX0:=lh x0;have HX1:=lh x1;have HX2:=lh x2;have HAL:=lh gI;have q0:=bK x0 (i:=0) (v:=.slice sA sn sc) rfl;have q1:=bK x0 (i:=1) (v:=root) rfl;have q2:=bK x0 (i:=2) (v:=next) rfl;have q3:=bK x0 (i:=3) (v:=.slice lA ln lc) rfl;clear x0 x1 x2 hLy hck hbs;cases ok with
 | false=>
  have hne:(e1 != 0)=true:=by simpa using he rfl
  clear he he2;have hbz:∀u,(Instr.build 89 #[]).run prog u=.ok (.agg ⟨dF.row⟩) u:=fun u=>by kernel_rfl
  have HBZ:=lh hbz;clear hbz;go_enter func39,ntmps39;go_upto_region 1 with (refine bQ (o:=⟨some 5,_,_,_,_,_⟩) rfl (di (t:=89) rfl (HAL.o _)) ?_;try go_frame)
  rw [←hW];clear hW HAL;try simp only [aI]
  go_upto_region 3 with (go_at_call 76;refine HCK.o.mono ?_;rintro e w1 ⟨rfl,ht⟩)
  have X1:=(ht.old (w.heap.size+1) (by omega) (by simp)).trans HX1.o;have X2:=(ht.old (w.heap.size+1+1) (by omega) (by simp)).trans HX2.o;have y0:=bK X1 (i:=0) (v:=.slice none 0 0) rfl;have y1:=bK X1 (i:=1) (v:=(0:Int)) rfl;have y2:=bK X1 (i:=2) (v:=(0:Int)) rfl;have y3:=bK X1 (i:=3) (v:=.slice none 0 0) rfl;have yf:=fun i=>dm X1 i;obtain⟨V,hV⟩:∃V,V=(((w1.setCell ⟨w.heap.size+1,0,none⟩ (.slice none 0 0)).setCell ⟨w.heap.size+1,1,none⟩ (0:Int)).setCell ⟨w.heap.size+1,2,none⟩ (0:Int)).setCell ⟨w.heap.size+1,3,none⟩ (.slice none 0 0):=⟨_,rfl⟩;have V1:V.heap[w.heap.size+1]?=some (.cells #[.slice none 0 0,(0:Int),(0:Int),.slice none 0 0] 107 (0,0)):=by rw [hV];exact ut X1 rfl
  have V2:V.heap[w.heap.size+1+1]?=some (.cells ⟨dF.row⟩ 89 (0,0)):=by rw [hV];exact (iT _ _ _ _ _ _ _ (by omega)).trans X2
  have TV:bH [] w V:=by rw [hV];exact (((((T0.trans ht).sc).sc).sc).sc)
  have hst:(Instr.storeAt 89 (.pointer (some ⟨w.heap.size+1+1,0,none⟩)) (.agg ⟨dF.row⟩)).run prog V=.ok () (V.setRow (w.heap.size+1+1) ⟨dF.row⟩):=dQ (o:=0) (ty:=89) (p:=dF.row) (L':=dF.row) V2 (zero_of_info dS).2 (by simp [bI.row]) (row_one _) (by simp [bI.row]);rw [hV]at hst;have F1:=wE (c:=w.heap.size+1+1) (r:=⟨dF.row⟩) V1 (by omega);have hl8:=run_loadVar_row (P:=prog) _ (w.heap.size+1) 107 107 #[.slice none 0 0,(0:Int),(0:Int),.slice none 0 0] (0,0) _ F1 underlying107 rfl QB;have hl9:=run_loadVar_row (P:=prog) _ (w.heap.size+1+1) 89 89 ⟨dF.row⟩ (0,0) _ (eQ (L':=dF.row) V2) underlying89 rfl (zero_of_info dS).2;have HZ:=lh (bg hl8 hl9);have HST:=lh hst;have HTV:=lh TV;have HVE:=lh hV;clear X1 X2 V1 V2 F1 hl8 hl9 hst TV hV ht;go_wp2_with (first
   | (refine bQ (o:=⟨some 19,_,_,_,_,_⟩) rfl (iU (vs:=#[]) (v:=.agg ⟨dF.row⟩) rfl rfl (HBZ.o _)) ?_;try go_frame)
   | (refine bU rfl 89 (.tmp 5) (.tmp 19) rfl rfl rfl HST.o ?_;try go_frame))
  rw [←HVE.o];obtain⟨hl8,hl9⟩:=HZ.o;refine ag (v:=.tuple #[.agg #[.slice none 0 0,(0:Int),(0:Int),.slice none 0 0],dF.v,.bool false]) ?_ rfl ⟨by unfold sD;rw [aF (by simp)],HTV.o.setRow _ (.inr (by omega))⟩;simp [results,results39,asAddr,hl8,hl9];rfl
 | true=>
  obtain rfl:=he2 rfl;clear he he2;have hly2:∀u,bH [] w u→∀cs:List Nat,(∀b∈cs,b<u.heap.size)→(∀b∈cs,b<w.heap.size→b∈bs)→Calls prog 77 #[.agg #[.slice sA sn sc,root,next,.slice lA ln lc],id] u fun e w'=>(∃(m:bI) (b:Bool),e=.returned (.tuple #[m.v,.bool b])∧(b=true→∃l,dh layers id=some l∧l.Like m∧gG cs w' (fun u=>m.At u))∧(b=false→dh layers id=none∧m=dF))∧bH [] u w':=by
   intro u t cs h1 h2;refine (HLY.o u t cs h1 h2).mono ?_;rintro e w' ⟨hI,hT⟩;refine⟨?_,hT⟩;cases hla:dh layers id with
   | none=>rw [hla]at hI;exact⟨dF,false,hI,fun h=>(by cases h),fun _=>⟨rfl,rfl⟩⟩
   | some l=>
    rw [hla]at hI;obtain⟨m,h3,h4,h5⟩:=hI;exact⟨m,true,h5,fun _=>⟨l,rfl,h3,h4⟩,fun h=>(by cases h)⟩
  have HL2:=lh hly2;clear hly2 HLY;go_enter func39,ntmps39;go_upto_region 1 with (refine bQ (o:=⟨some 5,_,_,_,_,_⟩) rfl (di (t:=89) rfl (HAL.o _)) ?_;try go_frame)
  rw [←hW];clear hW;try simp only [aI]
  go_upto_region 4 with (go_at_call 76;refine HCK.o.mono ?_;rintro e w1 ⟨rfl,ht⟩)
  have X0:=(ht.old w.heap.size (by omega) (by simp)).trans HX0.o;have X1:=(ht.old (w.heap.size+1) (by omega) (by simp)).trans HX1.o;have X2:=(ht.old (w.heap.size+1+1) (by omega) (by simp)).trans HX2.o;have T1:=T0.trans ht;have hs1:=ht.size;have HC2:=lh (HL2.o w1 T1 ((w.heap.size+1+1) :: (w.heap.size+1) :: bs) (fun b hb=>by simp only [aS]at hb;rcases hb with rfl | rfl | hb;omega;omega;have:=HBS.o b hb;omega) (fun b hb hlt=>by simp only [aS]at hb;rcases hb with rfl | rfl | hb;omega;omega;exact hb));have q0:=bK X0 (i:=0) (v:=.slice sA sn sc) rfl;have q1:=bK X0 (i:=1) (v:=root) rfl;have q2:=bK X0 (i:=2) (v:=next) rfl;have q3:=bK X0 (i:=3) (v:=.slice lA ln lc) rfl;have HX0:=lh X0;have HX1:=lh X1;have HX2:=lh X2;have HT1:=lh T1;have hs3:w.heap.size+3≤w1.heap.size:=by omega
  clear X0 X1 X2 T1 ht hs1 HCK HL2 T0 hWs;go_upto_region 5 with (first
   | (go_at_call 77;refine HC2.o.mono ?_;rintro e w2 ⟨⟨m,b,rfl,hm1,hm2⟩,ht2⟩;have HM:=lh (bg hm1 hm2);have HST:=lh (fun u=>gX u m);clear hm1 hm2)
   | (refine bQ (o:=⟨some 9,_,_,_,_,_⟩) rfl (di (t:=89) rfl (HAL.o _)) ?_;try go_frame)
   | (refine bU rfl 89 (.tmp 9) (.tmp 24) rfl rfl rfl (HST.o _) ?_;try go_frame))
  obtain⟨V,hV⟩:∃V,V=w2.alloc (.cells ⟨m.row⟩ 89):=⟨_,rfl⟩;have TV:bH [] w1 V:=by rw [hV];exact ht2.alloc _
  have TV2:bH [] w2 V:=by rw [hV];exact (tR w2).alloc _
  have h9:V.heap[w2.heap.size]?=some (.cells ⟨m.row⟩ 89 (0,0)):=by rw [hV];exact heap_alloc_new _ _
  have X0:=(TV.old w.heap.size (by omega) (by simp)).trans HX0.o;have X1:=(TV.old (w.heap.size+1) (by omega) (by simp)).trans HX1.o;have X2:=(TV.old (w.heap.size+1+1) (by omega) (by simp)).trans HX2.o;have hb9:w.heap.size+3≤w2.heap.size:=by have:=ht2.size;omega
  have HSTB:Hid (∀l,b=true→dh layers id=some l→l.Like m→gG ((w.heap.size+1+1) :: (w.heap.size+1) :: bs) w2 (fun u=>m.At u)→gG ((w.heap.size+1+1) :: (w.heap.size+1) :: bs) V (fun u=>m.At u)):=lh fun _ _ _ _ h=>h.turn TV2;have HTV:=lh (HT1.o.trans TV);have hlv:V.heap.size=V.heap.size:=rfl;have hbV:w2.heap.size<V.heap.size:=(ae.1 h9).1;rw [←hV];clear hV TV TV2 ht2 hlv q0 q1 q2 q3 HST HC2;have HX0:=lh X0;have HX9:=lh h9;clear X0 h9;generalize hbb:w2.heap.size=b9 at *;clear hbb;refine cu.start (fun u=>bH [w.heap.size+1,w.heap.size+1+1] V u) 6 (by kernel_rfl) ?_;have hS:=(bH.refl [w.heap.size+1,w.heap.size+1+1] V).drawn 1;have hS0:bH [] V V.drew:=(tR V).drawn 1;change bH [w.heap.size+1,w.heap.size+1+1] V V.drew at hS;generalize V.drew=Y at *;have HD:Hid (∀u,bH [w.heap.size+1,w.heap.size+1+1] V u→u.heap[w.heap.size]?=some (.cells #[.slice sA sn sc,root,next,.slice lA ln lc] 29 (0,0))∧u.heap[b9]?=some (.cells ⟨m.row⟩ 89 (0,0))):=lh fun u t=>⟨(t.old _ (by omega) (by simp;omega)).trans HX0.o,(t.old _ hbV (by simp;omega)).trans HX9.o⟩;refine tk 0 (.agg #[.slice sA sn sc,root,next,.slice lA ln lc]) ?_ (hy:=fun w' hw=>by have hd:=(HD.o _ hw).1;have q0:=bK hd (i:=0) (v:=.slice sA sn sc) rfl;have q1:=bK hd (i:=1) (v:=root) rfl;have q2:=bK hd (i:=2) (v:=next) rfl;have q3:=bK hd (i:=3) (v:=.slice lA ln lc) rfl;go_simp);go_frame;refine tk 1 (.agg #[.slice sA sn sc,root,next,.slice lA ln lc]) ?_ rfl (hy:=fun w' hw=>IR rfl rfl (OQ _ _ _ _ _));go_frame;refine tk 2 (.agg ⟨m.row⟩) ?_ rfl (hy:=fun w' hw=>dw rfl rfl (run_loadAt_mid _ b9 0 89 m.row _ (gp (HD.o _ hw).2 (by simp)) underlying89 rfl (zero_of_info dS).2));go_frame;refine tk 3 (.bool b) ?_;go_frame;have Y1:=(hS0.old (w.heap.size+1) (by omega) (by simp)).trans X1;have Y2:=(hS0.old (w.heap.size+1+1) (by omega) (by simp)).trans X2;have y0:=bK Y1 (i:=0) (v:=.slice none 0 0) rfl;have y1:=bK Y1 (i:=1) (v:=(0:Int)) rfl;have y2:=bK Y1 (i:=2) (v:=(0:Int)) rfl;have y3:=bK Y1 (i:=3) (v:=.slice none 0 0) rfl;have yf:=fun i=>dm Y1 i;obtain⟨U,hU⟩:∃U,U=(((Y.setCell ⟨w.heap.size+1,0,none⟩ (.slice sA sn sc)).setCell ⟨w.heap.size+1,1,none⟩ root).setCell ⟨w.heap.size+1,2,none⟩ next).setCell ⟨w.heap.size+1,3,none⟩ (.slice lA ln lc):=⟨_,rfl⟩;have U1:U.heap[w.heap.size+1]?=some (.cells #[.slice sA sn sc,root,next,.slice lA ln lc] 107 (0,0)):=by rw [hU];exact ut Y1 rfl
  have U2:U.heap[w.heap.size+1+1]?=some (.cells ⟨dF.row⟩ 89 (0,0)):=by rw [hU];exact (iT _ _ _ _ _ _ _ (by omega)).trans Y2
  have SU:bH [w.heap.size+1,w.heap.size+1+1] V U:=by rw [hU];exact ((((hS.setCell _ (.inl (by simp))).setCell _ (.inl (by simp))).setCell _ (.inl (by simp))).setCell _ (.inl (by simp)))
  refine eH 4 fun K hK=>?_;go_simp;rw [←hU];refine hK _ _ (fun _=>SU) ?_;clear hK K y0 y1 y2 y3 yf Y1 Y2 hU;try go_frame
  have hst:=dQ (o:=0) (ty:=89) (p:=m.row) (L':=m.row) U2 (zero_of_info dS).2 (by simp [bI.row]) (row_one _) (by simp [bI.row]);have F1:=wE (c:=w.heap.size+1+1) (r:=⟨m.row⟩) U1 (by omega);have hl8:=run_loadVar_row (P:=prog) _ (w.heap.size+1) 107 107 #[.slice sA sn sc,root,next,.slice lA ln lc] (0,0) _ F1 underlying107 rfl QB;have hl9:=run_loadVar_row (P:=prog) _ (w.heap.size+1+1) 89 89 ⟨m.row⟩ (0,0) _ (eQ (L':=m.row) U2) underlying89 rfl (zero_of_info dS).2;refine eH 5 fun K hK=>?_;refine fO (d:=none) rfl 89 (.tmp 5) (.tmp 28) rfl rfl rfl hst ?_;have SF:=SU.setRow (g:=w.heap.size+1+1) ⟨m.row⟩ (.inl (by simp));refine hK _ _ (fun _=>SF) ?_;clear hK K;try go_frame
  refine iZ fun K hK=>?_;go_simp;refine hK _ _ ?_;clear hK K;try go_frame
  go_wp2_with fail
  refine ag (v:=.tuple #[.agg #[.slice sA sn sc,root,next,.slice lA ln lc],m.v,.bool b]) ?_ rfl ⟨?_,fH HTV.o SF (fun q hq=>by simp at hq;omega)⟩
  ·simp [results,results39,asAddr,hl8,hl9];rfl
  unfold sD;rw [aG rfl];unfold Ky;simp only;cases b with
  | false=>
   obtain⟨h1,h2⟩:=HM.o.2 rfl;rw [h1,h2];rfl
  | true=>
   obtain⟨l,h1,h2,h3⟩:=HM.o.1 rfl;rw [h1];refine⟨m,h2,?_,rfl⟩;have h4:=HSTB.o l rfl h1 h2 h3;exact fun u hs hu=>h4 u (aK SF.size hs) fun q hq hb=>(hu q (aj hq SF.size) (fun hm=>hb (by simp [hm]))).trans (SF.old q hq (fun hm=>hb (by simp at hm ⊢;omega)))
def jK:bI:={ fB 2 with id:=1 }
theorem JO(w:World)(g:Nat): (Instr.build 29 #[(1,(1:Int)),(2,(2:Int)),(3,.slice (some ⟨g,0,none⟩) 1 1)]).run prog w=.ok (.agg #[.slice none 0 0,(1:Int),(2:Int),.slice (some ⟨g,0,none⟩) 1 1]) w:=by kernel_rfl
theorem yT:(prog.info? 29).map (·.size)=some 4:=by kernel_rfl
theorem Sv(w:World): Calls prog 32 #[] w fun e w'=>(∃g,e=.returned (.agg #[.slice none 0 0,(1:Int),(2:Int),.slice (some ⟨g,0,none⟩) 1 1])∧w.heap.size≤g∧w'.heap[g]?=some (.cells ⟨jK.row⟩ 89 (0,0)))∧bH [] w w':=by
 have HDF:=lh (yE 2 (by decide) (by decide));have HAL:=lh gI;have HST:=lh (fun u=>gX u (fB 2));go_enter func32,ntmps32;go_upto_region 2 with (first
  | (go_at_call 33;(with_reducible refine (HDF.o _).mono ?_);rintro e w1 ⟨rfl,ht1⟩)
  | (refine bQ (o:=⟨some 1,_,_,_,_,_⟩) rfl (di (t:=89) rfl (HAL.o _)) ?_;try go_frame)
  | (refine bU rfl 89 (.tmp 1) (.tmp 2) rfl rfl rfl (HST.o _) ?_;try go_frame))
 obtain⟨V,hV⟩:∃V,V=w1.alloc (.cells ⟨(fB 2).row⟩ 89):=⟨_,rfl⟩;have TV:bH [] w1 V:=by rw [hV];exact (tR w1).alloc _
 have h9:V.heap[w1.heap.size]?=some (.cells ⟨(fB 2).row⟩ 89 (0,0)):=by rw [hV];exact heap_alloc_new _ _
 have hd:(w.alloc (.cells #[.slice none 0 0,(0:Int),(0:Int),.slice none 0 0] 29)).heap[w.heap.size]?=some (.cells #[.slice none 0 0,(0:Int),(0:Int),.slice none 0 0] 29 (0,0)):=heap_alloc_new _ _;have hlt:w.heap.size<w1.heap.size:=by have:=ht1.size;simp at this;omega
 have hdV:=(TV.old _ hlt (by simp)).trans ((ht1.old _ (by simp) (by simp)).trans hd);have TW:bH [] w V:=(((tR w).alloc _).trans ht1).trans TV;have y0:=bJ (i:=0) h9 rfl;have yf:=dD h9 0;rw [←hV];clear hV TV hd ht1 HDF HAL HST;generalize w1.heap.size=b1 at *;go_upto_region 3 with fail
 have h10:(V.setCell ⟨b1,0,none⟩ (1:Int)).heap[b1]?=some (.cells ⟨jK.row⟩ 89 (0,0)):=dU h9 rfl;have hdU:=(dG V b1 0 (1:Int) w.heap.size (by omega)).trans hdV;have TU:bH [] w (V.setCell ⟨b1,0,none⟩ (1:Int)):=TW.setCell _ (.inr (by show w.heap.size≤b1;omega));clear y0 yf h9 hdV TW;generalize V.setCell ⟨b1,0,none⟩ (1:Int)=U at *;have HLA:=lh (run_loadAt_mid U b1 0 89 jK.row _ (gp h10 (by simp)) underlying89 rfl (zero_of_info dS).2);have hz:∃Z,Z=U.alloc (.cells ⟨jK.row⟩ 89):=⟨_,rfl⟩;obtain⟨Z,hZ⟩:=hz;have TZ:bH [] U Z:=by rw [hZ];exact (tR U).alloc _
 have hzL:Z.heap[U.heap.size]?=some (.cells ⟨jK.row⟩ 89 (0,0)):=by rw [hZ];exact heap_alloc_new _ _
 have hUs:w.heap.size<U.heap.size:=(ae.1 hdU).1;have hdZ:=(TZ.old _ hUs (by simp)).trans hdU;have z0:=bK hdZ (i:=0) (v:=.slice none 0 0) rfl;have z1:=bK hdZ (i:=1) (v:=(0:Int)) rfl;have z2:=bK hdZ (i:=2) (v:=(0:Int)) rfl;have z3:=bK hdZ (i:=3) (v:=.slice none 0 0) rfl;have zf:=fun i=>dm hdZ i;obtain⟨F,hF⟩:∃F,F=((((Z.setCell ⟨w,0,none⟩ (.slice none 0 0)).setCell ⟨w,1,none⟩ (1:Int)).setCell ⟨w,2,none⟩ (2:Int)).setCell ⟨w,3,none⟩ (.slice (some ⟨U,0,none⟩) 1 1)):=⟨_,rfl⟩;have F0:F.heap[w.heap.size]?=some (.cells #[.slice none 0 0,(1:Int),(2:Int),.slice (some ⟨U,0,none⟩) 1 1] 29 (0,0)):=by rw [hF];exact ut hdZ rfl
 have F1:F.heap[U.heap.size]?=some (.cells ⟨jK.row⟩ 89 (0,0)):=by rw [hF];exact (iT _ _ _ _ _ _ _ (by omega)).trans hzL
 have TF:bH [] w F:=by rw [hF];exact (((((TU.trans TZ).sc).sc).sc).sc)
 have hl0:=run_loadVar_row (P:=prog) _ w.heap.size 29 29 #[.slice none 0 0,(1:Int),(2:Int),.slice (some ⟨U,0,none⟩) 1 1] (0,0) _ F0 underlying29 rfl yT;have hsl:(Instr.buildSlice 27 1 #[(0,.agg ⟨jK.row⟩)]).run prog U=.ok (.slice (some ⟨U,0,none⟩) 1 1) Z:=by rw [hZ];exact nG (k:=jS) underlying27 (pI jK) U
 have HSL:=lh hsl;have HF:=lh hF;have HEND:=lh (bg hl0 (bg F1 TF));clear h10 hdU TU hdZ hzL TZ F0 F1 TF hl0 hZ hF hsl;go_wp2_with (first
  | (refine bQ (o:=⟨some 4,_,_,_,_,_⟩) rfl (dw (p:=.pointer (some ⟨b1,0,none⟩)) (v:=.agg ⟨jK.row⟩) rfl rfl HLA.o) ?_;try go_frame)
  | (refine bQ (o:=⟨some 5,_,_,_,_,_⟩) rfl (dV (y:=.agg ⟨jK.row⟩) rfl rfl HSL.o) ?_;try go_frame)
  | (refine bQ (o:=⟨some 6,_,_,_,_,_⟩) rfl (Gu (x:=.const (1:Int)) (y:=.const (2:Int)) (z:=.tmp 5) (p:=(1:Int)) (q:=(2:Int)) (r:=.slice (some ⟨U,0,none⟩) 1 1) rfl rfl rfl rfl (JO _ _)) ?_;try go_frame))
 rw [←HF.o];obtain⟨hl0,F1,TF⟩:=HEND.o;refine ag (v:=.agg #[.slice none 0 0,(1:Int),(2:Int),.slice (some ⟨U,0,none⟩) 1 1]) ?_ rfl ⟨⟨_,rfl,by omega,F1⟩,TF⟩;simp [results,results32,asAddr,hl0]
end Go.Proofs.YtbpklgllihhgpaaGreat
