import Derived.Laws.MakeOwn
import Derived.Test.YtbpklgllihhgpaaGreatA30
import Derived.Test.YtbpklgllihhgpaaGreatA31
set_option maxRecDepth 100000
set_option maxHeartbeats 16000000
namespace Go.Proofs.YtbpklgllihhgpaaGreat
open Tryz Go.RowKit Go.Den
theorem iD{ls:List bI}{id:Int}{l:bI}(h:dh ls id=some l): ∃k:Nat,sQ (ls.map (·.id)) id=(k:Int)∧ls[k]?=some l∧l.id=id:=by
 unfold dh at h;unfold sQ;cases ha:mW (ls.map (·.id)) id with
 | none=>rw [ha]at h;cases h
 | some k=>
  rw [ha]at h;have h:ls[k]?=some l:=h;refine⟨k,rfl,h,?_⟩;unfold mW at ha;rw [bi]at ha;obtain⟨h1,h2,_⟩:=ha;obtain⟨h3,h4⟩:=ah.1 h;rw [List.getElem_map,h4]at h2;simpa using h2
theorem zq(d:df)(id:Int)(l:bI)(hl:dh d.layers id=some l)(w:World)(h:d.At w): Calls prog 47 #[d.v,id] w fun e w'=>e=.returned l.v∧bH [] w w':=by
 obtain⟨k,hk,hlk,_⟩:=iD hl;have hA:=fun u (t:bH [] w u)=>uD d id u (h.turn t);rw [show d.ids=d.layers.map (·.id) from rfl,hk]at hA;have hls:k<d.layers.length:=(ah.1 hlk).1;have hkl:k<d.ln:=by rw [h.layers.1];exact hls
 obtain⟨gl,ol,hg,hR⟩:=h.layers.cell (by omega);have hR2:=fun u (t:bH [] w u)=>(hR u t k l hlk).2;clear hR;have hsm:=h.small;clear hlk hls h hl hk;obtain⟨sA,sn,sc,spaces,root,next,lA,ln,lc,layers⟩:=d;simp only [df.v]at *;subst hg;have HA:=lh hA;have HR:=lh hR2;clear hA hR2;obtain⟨W,hW⟩:∃W,W=(w.alloc (.cells #[.slice sA sn sc,root,next,.slice (some ⟨gl,ol,none⟩) ln lc] 29)).alloc (.cells ⟨dF.row⟩ 89):=⟨_,rfl⟩;have T0:bH [] w W:=hW ▸ ((tR w).alloc _).alloc _;have hWs:w.heap.size+2≤W.heap.size:=by rw [hW];simp
 have x0:W.heap[w.heap.size]?=some (.cells ⟨[.slice sA sn sc,root,next,.slice (some ⟨gl,ol,none⟩) ln lc]⟩ 29 (0,0)):=hW ▸ bO bN;have x1:W.heap[w.heap.size+1]?=some (.cells ⟨dF.row⟩ 89 (0,0)):=hW ▸ bN;have q0:=bJ (i:=0) x0 rfl;have q1:=bJ (i:=1) x0 rfl;have q2:=bJ (i:=2) x0 rfl;have q3:=bJ (i:=3) x0 rfl;have HX1:=lh x1;have HAL:=lh gI;clear x0 x1;go_enter func47,ntmps47;go_upto_region 1 with (refine bQ rfl (di (t:=89) rfl (HAL.o _)) ?_;try go_frame)
 rw [←hW];clear hW HAL;have b0:(0:Int)≤(k:Int):=by omega
 have b1:(k:Int)<(ln:Int):=by omega
 refine sN 7 (tR W) fun V hS=>?_;refine tk 0 (.pointer (some ⟨w,3,none⟩)) ?_;go_frame;refine tk 1 (.slice (some ⟨gl,ol,none⟩) ln lc) ?_ (hy:=fun w' hw=>by have e3:=tc hw q3;go_simp);go_frame;refine tk 2 (.agg #[.slice sA sn sc,root,next,.slice (some ⟨gl,ol,none⟩) ln lc]) ?_ (hy:=fun w' hw=>by have e0:=tc hw q0;have e1:=tc hw q1;have e2:=tc hw q2;have e3:=tc hw q3;go_simp);go_frame;refine tk 3 id ?_;go_frame;refine eH 4 fun K hK=>?_;go_simp;refine (HA.o _ (T0.trans hS)).mono ?_;rintro e wy ⟨rfl,ht⟩;have hS:=hS.trans ht;clear ht;refine hK _ _ (fun _=>hS) ?_;clear hK K;try go_frame
 refine tk 5 (.pointer (some ⟨gl,ol+k*31,none⟩)) ?_;go_frame;refine tk 6 (.agg ⟨l.row⟩) ?_ rfl (hy:=fun w' hw=>dw rfl rfl (run_loadAt_mid _ gl (ol+k*31) 89 l.row _ (HR.o _ (T0.trans hw)) underlying89 rfl (zero_of_info dS).2));go_frame;have x1:=(hS.old (w.heap.size+1) (by omega) (by simp)).trans HX1.o;have hst:=dQ (o:=0) (ty:=89) (p:=l.row) (L':=l.row) x1 (zero_of_info dS).2 (by simp [bI.row]) (row_one _) (by simp [bI.row]);have hl9:=run_loadVar_row (P:=prog) _ (w.heap.size+1) 89 89 ⟨l.row⟩ (0,0) _ (eQ (L':=l.row) x1) underlying89 rfl (zero_of_info dS).2;refine iZ fun K hK=>?_;refine fO (d:=none) rfl 89 (.tmp 4) (.tmp 11) rfl rfl rfl hst ?_;refine hK _ _ ?_;clear hK K;try go_frame
 go_wp2_with fail
 exact ag (v:=l.v) (by simp [results,results47,asAddr,hl9];rfl) rfl ⟨rfl,(T0.trans hS).setRow _ (.inr (by omega))⟩
theorem Px{ls:List bI}{id:Int}(hs:dh ls id=none): sQ (ls.map (·.id)) id=-1:=by
 unfold dh at hs;unfold sQ;cases ha:mW (ls.map (·.id)) id with
 | none=>rfl
 | some k=>
  rw [ha]at hs;have hs:ls[k]?=none:=hs;unfold mW at ha;rw [bi]at ha;obtain⟨h1,_⟩:=ha;rw [bn]at hs;simp at h1;omega
def Fq(bs:List Nat)(ls:List bI)(id:Int)(w':World)(e:Ending): Prop:=match dh ls id with
 | some l=>∃m,l.Like m∧gG bs w' (fun u=>m.At u)∧e=.returned (.tuple #[m.v,.bool true])
 | none=>e=.returned (.tuple #[dF.v,.bool false])
def rW(bs:List Nat)(ls:List bI)(id:Int)(w':World)(e:Ending): Prop:=match dh ls id with
 | some l=>∃m,l.Like m∧gG bs w' (fun u=>m.At u)∧m.Xh≤m.Xj∧e=.returned (.tuple #[m.v,.bool true])
 | none=>e=.returned (.tuple #[dF.v,.bool false])
theorem Bh(d:df)(id:Int)(w:World)(bs:List Nat)(hbs:∀b∈bs,b<w.heap.size)(h0:gG bs w fun u=>d.At u)(hth:∀l∈d.layers,l.Thin): Calls prog 77 #[d.v,id] w fun e w'=>rW bs d.layers id w' e∧bH [] w w':=by
 have h:=h0.now;have hix:=fun u (t:bH [] w u) pb (hp:u.cell? ⟨pb,0,none⟩=some (.int .i64 id))=>MH d.ids d.layers rfl d.lA d.ln d.lc h.small id pb u (h.turn t).layers hp;have hsm:=h.small;have hll:=h.layers.1;have hLA:=h.layers;have hST:gG bs w fun u=>kG u d.lA d.ln d.layers:=h0.imp fun u hu=>hu.layers;have hids:d.ids=d.layers.map (·.id):=rfl;clear h h0;obtain⟨sA,sn,sc,spaces,root,next,lA,ln,lc,layers⟩:=d;simp only [df.v]at *;rw [hids]at hix;clear hids;have IX:∀(fn:Fn) (first cap:Array Value) (w:World),(Instr.makeFunc fn first cap).run prog w=.ok (.func fn first cap) w:=fun _ _ _ _=>rfl;obtain⟨W,hW⟩:∃W,W=((w.alloc (.cells #[.slice sA sn sc,root,next,.slice lA ln lc] 29)).alloc (.cells #[id] 3)).alloc (.cells ⟨dF.row⟩ 89):=⟨_,rfl⟩;have T0:bH [] w W:=hW ▸ (((tR w).alloc _).alloc _).alloc _;have hWs:w.heap.size+3≤W.heap.size:=by rw [hW];simp
 have x0:W.heap[w.heap.size]?=some (.cells ⟨[.slice sA sn sc,root,next,.slice lA ln lc]⟩ 29 (0,0)):=hW ▸ bO (bO bN);have x1:W.heap[w.heap.size+1]?=some (.cells ⟨[id]⟩ 3 (0,0)):=hW ▸ bO bN;have x2:W.heap[w.heap.size+2]?=some (.cells ⟨dF.row⟩ 89 (0,0)):=hW ▸ bN;have q3:=bJ (i:=3) x0 rfl;have hI:=hix W T0 (w.heap.size+1) (bJ x1 rfl);have HAL:=lh gI;have HI:=lh hI;have HX2:=lh x2;have HL:=lh hLA;have HST:=lh hST;have HBS:=lh hbs;have HTH:=lh hth;have HLL:=lh hll;clear x0 x1 x2 hI hix hLA hth hll hST hbs;cases hla:dh layers id with
 | none=>
  have hat:sQ (layers.map (·.id)) id=-1:=Px hla;have HLN:=lh hla;rw [hat]at HI;clear hat hla;go_enter func77,ntmps77;go_upto_region 1 with (refine bQ rfl (di (t:=89) rfl (HAL.o _)) ?_;try go_frame)
  rw [←hW];clear hW HAL;simp only [aI];go_upto_region 3 with (go_at_call 116;refine HI.o.mono ?_;rintro e w1 ⟨rfl,ht⟩)
  have x2:=(ht.old (w.heap.size+2) (by omega) (by simp)).trans HX2.o;have hst:=dQ (o:=0) (ty:=89) (p:=dF.row) (L':=dF.row) x2 (zero_of_info dS).2 (by simp [bI.row]) (row_one _) (by simp [bI.row]);have hl9:=run_loadVar_row (P:=prog) _ (w.heap.size+2) 89 89 ⟨dF.row⟩ (0,0) _ (eQ (L':=dF.row) x2) underlying89 rfl (zero_of_info dS).2;have hbz:∀u,(Instr.build 89 #[]).run prog u=.ok (.agg ⟨dF.row⟩) u:=fun u=>by kernel_rfl
  have TT:=lh ((T0.trans ht).setRow (g:=w.heap.size+2) ⟨dF.row⟩ (.inr (by omega)));clear x2 ht q3;go_wp2_with (first
   | (refine bQ rfl (iU (vs:=#[]) rfl rfl (hbz _)) ?_;try go_frame)
   | (refine bU rfl 89 (.tmp 4) (.tmp 13) rfl rfl rfl hst ?_;try go_frame))
  refine ag (v:=.tuple #[dF.v,.bool false]) ?_ rfl ⟨?_,TT.out⟩
  ·simp [results,results77,asAddr,hl9];rfl
  unfold rW;rw [HLN.o]
 | some l=>
  obtain⟨k,hk,hlk,_⟩:=iD hla;rw [hk]at HI;have HLN:=lh hla;have hls:k<layers.length:=(ah.1 hlk).1;have hkl:k<ln:=by rw [HLL.o];exact hls
  obtain⟨gl,ol,rfl,hR⟩:=HL.o.cell (by omega);have b0:(0:Int)≤(k:Int):=by omega
  have b1:(k:Int)<(ln:Int):=by omega
  have HR:=lh (fun u t=>hR u t k l hlk);have hthl:=HTH.o l (aH hlk);have HLK:=lh hlk;clear hk hlk hls hla hR;go_enter func77,ntmps77;go_upto_region 1 with (refine bQ rfl (di (t:=89) rfl (HAL.o _)) ?_;try go_frame)
  rw [←hW];clear hW HAL;simp only [aI];go_upto_region 4 with (go_at_call 116;refine HI.o.mono ?_;rintro e w1 ⟨rfl,ht⟩;have q3:=(show w1.cell? ⟨w,3,none⟩=_ from ((bY ht).1 _ _ (ai q3)).trans q3))
  have T1:=T0.trans ht;have hlA:=run_loadAt_mid w1 gl (ol+k*31) 89 l.row _ (HR.o _ T1).2 underlying89 rfl (zero_of_info dS).2;have hsl:gG ((w.heap.size+2) :: bs) w1 fun u=>l.At u:=(HST.o.new T1 (fun b hm hb=>by rcases aS.1 hm with rfl | hm;omega;exact hm)).imp fun u hu=>(hu.2 k l HLK.o).1;have hown:=IM l w1 ((w.heap.size+2) :: bs) (fun b hm=>by have:=ht.size;rcases aS.1 hm with rfl | hm;omega;have:=HBS.o b hm;omega) hsl hthl;have HT1:=lh T1;have HX3:=lh ((ht.old (w.heap.size+2) (by omega) (by simp)).trans HX2.o);have HO:=lh hown;have hsz:w.heap.size+2<w1.heap.size:=by have:=ht.size;omega
  clear T1 ht hown T0 hsl;go_wp2_with (first
   | (refine bQ rfl (dw rfl rfl hlA) ?_;try go_frame)
   | (go_at_call 118;refine HO.o.mono ?_;rintro e w2 ⟨⟨m,hm,hA,hkc,rfl⟩,ht2⟩;have x2:=(ht2.old (w.heap.size+2) hsz (by simp)).trans HX3.o;have hst:=dQ (o:=0) (ty:=89) (p:=m.row) (L':=m.row) x2 (zero_of_info dS).2 (by simp [bI.row]) (row_one _) (by simp [bI.row]);have hl9:=run_loadVar_row (P:=prog) _ (w.heap.size+2) 89 89 ⟨m.row⟩ (0,0) _ (eQ (L':=m.row) x2) underlying89 rfl (zero_of_info dS).2;have HM:=lh (bg hm (bg hA ht2));clear x2 hm hA ht2)
   | (refine bU rfl 89 (.tmp 4) (.tmp 19) rfl rfl rfl hst ?_;try go_frame))
  obtain⟨hm,hA,ht2⟩:=HM.o;refine ag (v:=.tuple #[m.v,.bool true]) ?_ rfl ⟨?_,(HT1.o.trans ht2).setRow _ (.inr (by omega))⟩
  ·simp [results,results77,asAddr,hl9];rfl
  unfold rW;rw [HLN.o];exact⟨m,hm,(hA.setRow (by simp)).mono (fun b hb=>by simp [hb]),hkc,rfl⟩
theorem LV(d:df)(id:Int)(w:World)(bs:List Nat)(hbs:∀b∈bs,b<w.heap.size)(h0:gG bs w fun u=>d.At u)(hth:∀l∈d.layers,l.Thin): Calls prog 77 #[d.v,id] w fun e w'=>Fq bs d.layers id w' e∧bH [] w w':=(Bh d id w bs hbs h0 hth).mono fun e w' hh=>by
 refine⟨?_,hh.2⟩;have h1:=hh.1;unfold rW at h1;unfold Fq;cases hl:dh d.layers id with
 | none=>rw [hl]at h1;exact h1
 | some l=>
  rw [hl]at h1;obtain⟨m,k1,k2,_,k3⟩:=h1;exact⟨m,k1,k2,k3⟩
theorem Jk{ls:List bI}{id:Int}: decide (0≤sQ (ls.map (·.id)) id)=(dh ls id).isSome:=by
 cases h:dh ls id with
 | none=>
  unfold dh at h;unfold sQ;cases ha:mW (ls.map (·.id)) id with
  | none=>rfl
  | some k=>
   rw [ha]at h;have h:ls[k]?=none:=h;unfold mW at ha;rw [bi]at ha;obtain⟨h1,_⟩:=ha;rw [bn]at h;simp at h1;omega
 | some l=>
  obtain⟨k,hk,_⟩:=iD h;rw [hk];simp
theorem OD(d:df)(id:Int)(w:World)(h:d.At w)(ht:d.Tidy)(hok:d.Ok): Calls prog 45 #[d.v,id] w fun e w'=>e=.returned (.bool (dh d.layers id).isSome)∧bH [] w w':=by
 have hC:=fun u (t:bH [] w u)=>Df d u (h.turn t) ht;have hA:=fun u (t:bH [] w u)=>uD d id u (h.turn t);have hq:=Jk (ls:=d.layers) (id:=id);rw [show d.ids=d.layers.map (·.id) from rfl]at hA;rw [←hq];clear h ht hq;have HOK:=lh hok;have HC:=lh hC;have HA:=lh hA;clear hC hA hok;generalize d.Ok=OKP at *;generalize sQ (d.layers.map (·.id)) id=q at *;obtain⟨sA,sn,sc,spaces,root,next,lA,ln,lc,layers⟩:=d;simp only [df.v]at *;have T0:=(tR w).alloc (.cells #[.slice sA sn sc,root,next,.slice lA ln lc] 29);have TT:=bH.refl [] (w.alloc (.cells #[.slice sA sn sc,root,next,.slice lA ln lc] 29));go_enter func45,ntmps45;go_upto_region 2 with (go_at_call 37;refine (HC.o _ T0).mono ?_;rintro e w1 ⟨⟨e,i,he⟩,ht⟩;obtain rfl:=he.2 HOK.o;have TT:=TT.trans ht;obtain⟨hc,hf⟩:=bY TT;have hlt:w.heap.size<w1.heap.size:=(by have:=ht.size;simp at this;omega);clear he)
 go_wp2_with (go_at_call 20;refine (HA.o _ ((T0.trans TT).alloc _)).mono ?_;rintro e w2 ⟨rfl,ht2⟩)
 go_ret;exact⟨rfl,((T0.trans TT).alloc _).trans ht2⟩
theorem S9:(prog.info? 46).map (fun i=>(i.zero,i.size,i.bytes))=some (some (.agg #[(0:Int),.bool false,(0:Int),(0:Int),(0:Int),(0:Int)]),6,48):=by kernel_rfl
def Wu:kD:=⟨46,6,48,.agg #[(0:Int),.bool false,(0:Int),(0:Int),(0:Int),(0:Int)],S9,rfl,by decide,by decide,by decide⟩
def VO(w:World)(base:Nat)(v:Value)(ds:List ug): Prop:=iK Wu w base v (ds.map ug.row)
def We(r:Rc): Array Value:=#[r.x0,r.y0,r.x1,r.y1]
structure VQ(w wr:World)(dv:Array Value)(q:Rc): Prop where
 t:bH [] w wr
 h0:wr.heap[w.heap.size]?=some (.cells dv 29 (0,0))
 h1:wr.heap[w.heap.size+1]?=some (.cells (We q) 24 (0,0))
 h2:wr.heap[w.heap.size+1+1]?=some (.cells #[(0:Int),(0:Int),(0:Int),(0:Int)] 24 (0,0))
theorem VQ.turn{w wr u:World}{dv:Array Value}{q:Rc}(P:VQ w wr dv q)(T:bH [] wr u): VQ w u dv q:=by have h2:=(ae.1 P.h2).1;exact⟨P.t.trans T,(T.old _ (by omega) (by simp)).trans P.h0,(T.old _ (by omega) (by simp)).trans P.h1,(T.old _ (by omega) (by simp)).trans P.h2⟩
theorem set4{w:World}{b:Nat}{q:Rc}{x y z t:Value}{ty:TypeId}(h:w.heap[b]?=some (.cells (We q) ty (0,0))): ((((w.setCell ⟨b,0,none⟩ x).setCell ⟨b,1,none⟩ y).setCell ⟨b,2,none⟩ z).setCell ⟨b,3,none⟩ t).heap[b]?=some (.cells #[x,y,z,t] ty (0,0)):=by simp only [World.setCell,au,if_true,h];rfl
theorem iT(w:World)(b:Nat)(x y z t:Value)(q:Nat)(hq:q≠b): ((((w.setCell ⟨b,0,none⟩ x).setCell ⟨b,1,none⟩ y).setCell ⟨b,2,none⟩ z).setCell ⟨b,3,none⟩ t).heap[q]?=w.heap[q]?:=by simp only [World.setCell,au,aF (Ne.symm hq)]
theorem VQ.set{w wr:World}{dv:Array Value}{q:Rc}(P:VQ w wr dv q)(r:Rc): VQ w ((((wr.setCell ⟨w.heap.size+1,0,none⟩ r.x0).setCell ⟨w.heap.size+1,1,none⟩ r.y0).setCell ⟨w.heap.size+1,2,none⟩ r.x1).setCell ⟨w.heap.size+1,3,none⟩ r.y1) dv r:=
 ⟨(((P.t.sc).sc).sc).sc,(iT _ _ _ _ _ _ _ (by omega)).trans P.h0,set4 P.h1,(iT _ _ _ _ _ _ _ (by omega)).trans P.h2⟩
theorem nH{d:df}{w:World}{id:Int}{l:bI}(h:dh d.layers id=some l)(hd:d.At w): l.At w:=by obtain⟨k,_,hk,_⟩:=iD h;exact (hd.layers.2 k l hk).1
structure WO(w wr:World)(dv:Array Value)(q:Rc)(b:Nat)(l:bI): Prop where
 t:bH [] w wr
 h0:wr.heap[w.heap.size]?=some (.cells dv 29 (0,0))
 h1:wr.heap[w.heap.size+1]?=some (.cells (We q) 24 (0,0))
 h2:wr.heap[b]?=some (.cells ⟨l.row⟩ 89 (0,0))
 lt:w.heap.size+1<b
theorem WO.turn{w wr u:World}{dv:Array Value}{q:Rc}{b:Nat}{l:bI}(P:WO w wr dv q b l){bs:List Nat}(T:bH bs wr u)(hb:∀g∈bs,b<g): WO w u dv q b l:=by
 have h2:=(ae.1 P.h2).1;have hlt:=P.lt;have no:∀x,x≤b→x∉bs:=fun x hx hm=>by have:=hb x hm;omega
 exact⟨fH P.t T (fun g hg=>by have:=hb g hg;omega),(T.old _ (by omega) (no _ (by omega))).trans P.h0,(T.old _ (by omega) (no _ (by omega))).trans P.h1,(T.old _ (by omega) (no _ (by omega))).trans P.h2,hlt⟩
theorem iK.base{k:kD}{w:World}{base base':Nat}{v:Value}{rows:List (List Value)}(h:iK k w base v rows)(hb:base'≤base): iK k w base' v rows:=by refine⟨h.1,h.2.1,h.2.2.imp id ?_⟩;rintro⟨g,off,cap,arr,e,hg,r⟩;exact⟨g,off,cap,arr,e,aK hb hg,r⟩
theorem Gu{P:Program}{o:Oper}{a:Act}{w w':World}{t:TypeId}{i j k:Nat}{x y z:Operand}{p q r v:Value}(ho:o.op=.build t #[(i,x),(j,y),(k,z)])(hx:a.eval x=p)(hy:a.eval y=q)(hz:a.eval z=r)(hr:(Instr.build t #[(i,p),(j,q),(k,r)]).run P w=.ok v w'): (execOp a.eval o).run P w=.ok (.value v) w':=
 iU ho (by simp [hx,hy,hz]) hr
theorem uu(d:df)(id:Int)(l:bI)(hla:dh d.layers id=some l)(w:World)(bs:List Nat)(hbs:∀b∈bs,b<w.heap.size)(h0:gG bs w fun u=>d.At u)(hth:∀l∈d.layers,l.Thin):
  Calls prog 80 #[d.v,id] w fun e w'=>(∃m,l.Like m∧gG bs w' (fun u=>m.At u)∧m.Xh≤m.Xj∧e=.returned m.v)∧bH [] w w':=by
 have hL:=fun u (t:bH [] w u) cs (hcs:∀b∈cs,b<u.heap.size) (hcb:∀b∈cs,b<w.heap.size→b∈bs)=>Bh d id u cs hcs (h0.new t hcb) hth;unfold rW at hL;rw [hla]at hL;clear h0 hth hla;obtain⟨sA,sn,sc,spaces,root,next,lA,ln,lc,layers⟩:=d;simp only [df.v]at *;have HL:=lh hL;have HBS:=lh hbs;clear hL hbs;obtain⟨W,hW⟩:∃W,W=(w.alloc (.cells #[.slice sA sn sc,root,next,.slice lA ln lc] 107)).alloc (.cells ⟨dF.row⟩ 89):=⟨_,rfl⟩;have T0:bH [] w W:=hW ▸ ((tR w).alloc _).alloc _;have hWs:w.heap.size+2≤W.heap.size:=by rw [hW];simp
 have x0:W.heap[w.heap.size]?=some (.cells #[.slice sA sn sc,root,next,.slice lA ln lc] 107 (0,0)):=hW ▸ bO bN;have x1:W.heap[w.heap.size+1]?=some (.cells ⟨dF.row⟩ 89 (0,0)):=hW ▸ bN;have q0:=bK x0 (i:=0) (v:=.slice sA sn sc) rfl;have q1:=bK x0 (i:=1) (v:=root) rfl;have q2:=bK x0 (i:=2) (v:=next) rfl;have q3:=bK x0 (i:=3) (v:=.slice lA ln lc) rfl;have HX1:=lh x1;have HAL:=lh gI;have HC:=lh (HL.o W T0 ((w.heap.size+1) :: bs) (fun b hb=>by rcases aS.1 hb with rfl | hb;omega;have:=HBS.o b hb;omega) (fun b hb hlt=>by rcases aS.1 hb with rfl | hb;omega;exact hb));clear x0 x1 HL;go_enter func80,ntmps80;go_upto_region 1 with (refine bQ rfl (di (t:=89) rfl (HAL.o _)) ?_;try go_frame)
 rw [←hW];clear hW;try simp only [aI]
 go_upto_region 2 with (first
  | (go_at_call 77;refine HC.o.mono ?_;rintro e w1 ⟨⟨m,hm,hA,hkc,rfl⟩,ht⟩;have HST:=lh (fun u=>gX u m);have HM:=lh (bg hm (bg hA ht));clear hm hA ht)
  | (refine bQ rfl (di (t:=89) rfl (HAL.o _)) ?_;try go_frame)
  | (refine bU rfl 89 (.tmp 5) (.tmp 12) rfl rfl rfl (HST.o _) ?_;try go_frame))
 obtain⟨hm,hA,ht⟩:=HM.o;obtain⟨V,hV⟩:∃V,V=w1.alloc (.cells ⟨m.row⟩ 89):=⟨_,rfl⟩;have TV:bH [] w1 V:=hV ▸ (tR w1).alloc _;have h5:V.heap[w1.heap.size]?=some (.cells ⟨m.row⟩ 89 (0,0)):=by rw [hV];exact heap_alloc_new _ _
 have X1:=((ht.trans TV).old (w.heap.size+1) (by omega) (by simp)).trans HX1.o;have hlA:(Instr.loadAt 89 (.pointer (some ⟨w1,0,none⟩))).run prog V=.ok (.agg ⟨m.row⟩) V:=run_loadAt_mid V w1.heap.size 0 89 m.row _ (gp h5 (by simp)) underlying89 rfl (zero_of_info dS).2;have hstA:=dQ (o:=0) (ty:=89) (p:=m.row) (L':=m.row) X1 (zero_of_info dS).2 (by simp [bI.row]) (row_one _) (by simp [bI.row]);have hl9:=run_loadVar_row (P:=prog) _ (w.heap.size+1) 89 89 ⟨m.row⟩ (0,0) _ (eQ (L':=m.row) X1) underlying89 rfl (zero_of_info dS).2;have HF:Hid (gG bs (V.setRow (w.heap.size+1) ⟨m.row⟩) (fun u=>m.At u)∧bH [] w (V.setRow (w.heap.size+1) ⟨m.row⟩)):=lh ⟨((hA.turn TV).setRow (by simp)).mono (fun b hb=>by simp [hb]),((T0.trans ht).trans TV).setRow _ (.inr (by omega))⟩;rw [←hV];clear hV TV h5 X1 hA ht HM;generalize w1.heap.size=b9 at *;go_wp2_with (first
  | (refine bQ rfl (dw rfl rfl hlA) ?_;try go_frame)
  | (refine bU rfl 89 (.tmp 4) (.tmp 14) rfl rfl rfl hstA ?_;try go_frame))
 exact ag (v:=m.v) (by simp [results,results80,asAddr,hl9];rfl) rfl ⟨⟨m,hm,HF.o.1,hkc,rfl⟩,HF.o.2⟩
theorem wM(d:df)(id:Int)(l:bI)(hla:dh d.layers id=some l)(w:World)(bs:List Nat)(hbs:∀b∈bs,b<w.heap.size)(h0:gG bs w fun u=>d.At u)(hth:∀l∈d.layers,l.Thin):
  Calls prog 80 #[d.v,id] w fun e w'=>(∃m,l.Like m∧gG bs w' (fun u=>m.At u)∧e=.returned m.v)∧bH [] w w':=(uu d id l hla w bs hbs h0 hth).mono fun e w' hh=>by
 obtain⟨⟨m,h1,h2,_,h3⟩,t⟩:=hh;exact⟨⟨m,h1,h2,h3⟩,t⟩
def WS(r:Rc): List Value:=[r.x0,r.y0,r.x1,r.y1]
def DF(x:bI×Rc): List Value:=x.1.row ++ WS x.2
def WQ:List Value:=dF.row ++ WS Rc.zero
theorem VF:(prog.info? 115).map (fun i=>(i.zero,i.size,i.bytes))=some (some (.agg ⟨WQ⟩),35,360):=by kernel_rfl
def Wh:kD:=⟨115,35,360,.agg ⟨WQ⟩,VF,rfl,by decide,by decide,by decide⟩
theorem Vj:(prog.info? 89).map (fun i=>(i.zero,i.size,i.bytes))=some (some (.agg ⟨dF.row⟩),31,328):=by kernel_rfl
def jS:kD:=⟨89,31,328,.agg ⟨dF.row⟩,Vj,rfl,by decide,by decide,by decide⟩
theorem pI(l:bI): jS.Row l.row:=⟨rfl,row_one l⟩
theorem iK.rowsAt{k:kD}{w:World}{base:Nat}{A:Option Addr}{n c:Nat}{rows:List (List Value)}(h:iK k w base (.slice A n c) rows): kw k w A rows∧n=rows.length:=by
 rcases h.form with ⟨e,h0⟩ | ⟨g,o,cap',e,hb,_,_,hr⟩
 ·injection e with e1 e2 e3;rw [h0];exact⟨fun j r hj=>by simp at hj,by rw [e2];rfl⟩
 injection e with e1 e2 e3;exact⟨fun j r hj=>⟨g,o,e1,hr j r hj⟩,e2⟩
inductive wV:List (bI×Rc)→List (bI×Rc)→Prop where
 | nil:wV [] []
 | cons {l m:bI} {q:Rc} {xs ys:List (bI×Rc)} (h:l.Like m) (t:wV xs ys):wV ((l,q) :: xs) ((m,q) :: ys)
theorem wV.len{xs ys:List (bI×Rc)}(h:wV xs ys): xs.length=ys.length:=by
 induction h with
 | nil=>rfl
 | cons _ _ ih=>simp [ih]
theorem wV.get{xs ys:List (bI×Rc)}(h:wV xs ys): ∀(j:Nat) (y:bI×Rc),ys[j]?=some y→∃l,xs[j]?=some (l,y.2)∧l.Like y.1:=by
 induction h with
 | nil=>intro j y hy;simp at hy
 | cons h t ih=>
  intro j y hy;obtain _ | j:=j
  ·simp only [List.getElem?_cons_zero,Option.some.injEq]at hy;subst hy;exact⟨_,rfl,h⟩
  simp only [List.getElem?_cons_succ]at hy;simpa using ih j y hy
structure VP(w wr:World)(dv:Array Value)(q:Rc): Prop where
 t:bH [] w wr
 h0:wr.heap[w.heap.size]?=some (.cells dv 107 (0,0))
 h1:wr.heap[w.heap.size+1]?=some (.cells (We q) 24 (0,0))
theorem VP.turn{w wr u:World}{dv:Array Value}{q:Rc}(P:VP w wr dv q)(T:bH [] wr u): VP w u dv q:=by have h1:=(ae.1 P.h1).1;exact⟨P.t.trans T,(T.old _ (by omega) (by simp)).trans P.h0,(T.old _ (by omega) (by simp)).trans P.h1⟩
theorem VP.set{w wr:World}{dv:Array Value}{q:Rc}(P:VP w wr dv q)(r:Rc): VP w ((((wr.setCell ⟨w.heap.size+1,0,none⟩ r.x0).setCell ⟨w.heap.size+1,1,none⟩ r.y0).setCell ⟨w.heap.size+1,2,none⟩ r.x1).setCell ⟨w.heap.size+1,3,none⟩ r.y1) dv r:=
 ⟨(((P.t.sc).sc).sc).sc,(iT _ _ _ _ _ _ _ (by omega)).trans P.h0,set4 P.h1⟩
theorem df.At.keepD{d:df}{w u:World}(h:d.At w)(hu:∀q,q<w.heap.size→u.heap[q]?=w.heap[q]?): d.At u:=by
 refine⟨⟨h.spaces.1,fun j s hs=>?_⟩,⟨h.layers.1,fun j l hl=>?_⟩,h.small⟩
 ·obtain⟨a,g,o,e,hr⟩:=h.spaces.2 j s hs;exact⟨⟨a.h1,a.h2,a.l0.keep hu,a.l1.keep hu,a.l2.keep hu⟩,g,o,e,fun i v hv=>nC hu (hr i v hv)⟩
 obtain⟨a,g,o,e,hr⟩:=h.layers.2 j l hl;exact⟨a.keep hu,g,o,e,fun i v hv=>nC hu (hr i v hv)⟩
def KA(w:World)(base:Nat)(v:Value)(ds:List (bI×Rc)): Prop:=iK Wh w base v (ds.map DF)
theorem G5{l m:bI}(h:l.Like m): m.hidden=l.hidden∧m.kind=l.kind∧m.id=l.id∧m.wide=l.wide:=by unfold bI.Like at h;rw [h];refine⟨rfl,rfl,rfl,?_⟩;funext r;rfl
theorem KA.set4{w:World}{b base:Nat}{v:Value}{ds:List (bI×Rc)}(h:KA w base v ds)(r:Rc)(hb:b<base): KA ((((w.setCell ⟨b,0,none⟩ r.x0).setCell ⟨b,1,none⟩ r.y0).setCell ⟨b,2,none⟩ r.x1).setCell ⟨b,3,none⟩ r.y1) base v ds:=
 iK.kept h (((((bH.refl [b] w).setCell _ (.inl (by simp))).setCell _ (.inl (by simp))).setCell _ (.inl (by simp))).setCell _ (.inl (by simp))) (fun g hg hm=>by have:=(h.2.lt g hg).1;simp at hm;omega)
structure Eb(w:World)(p B:Nat)(ds:List ug): Prop where
 ex:∃A n c,w.heap[p]?=some (.cells #[.slice A n c] 35 (0,0))∧VO w B (.slice A n c) ds
 lt:p<B
 le:B≤w.heap.size
theorem Eb.turn{w w':World}{p B:Nat}{ds:List ug}(h:Eb w p B ds)(T:bH [] w w'): Eb w' p B ds:=by obtain⟨A,n,c,h1,h2⟩:=h.ex;exact⟨⟨A,n,c,T.ox h1,iK.turn h2 T⟩,h.lt,aK h.le T.size⟩
theorem Eb.nil{w:World}{p:Nat}(h:w.heap[p]?=some (.cells #[.slice none 0 0] 35 (0,0))): Eb w p w.heap.size []:=
 ⟨⟨none,0,0,h,jU _ _ _⟩,(ae.1 h).1,aQ _⟩
def Past(p B:Nat)(w w':World): Prop:=∃bs,(∀b∈bs,b=p∨B≤b)∧bH bs w w'
theorem Past.refl(p B:Nat)(w:World): Past p B w w:=⟨[],fun _ h=>absurd h aW,bH.refl _ _⟩
theorem Past.of{p B:Nat}{w w':World}(T:bH [] w w'): Past p B w w':=⟨[],fun _ h=>absurd h aW,T⟩
theorem Past.trans{p B:Nat}{u v w:World}(h:Past p B u v)(k:Past p B v w): Past p B u w:=by obtain⟨bs,h1,h2⟩:=h;obtain⟨cs,k1,k2⟩:=k;exact⟨bs ++ cs,fun b hb=>(aV.1 hb).elim (h1 b) (k1 b),(h2.mono (by simp +contextual)).trans (k2.mono (by simp +contextual))⟩
theorem Past.new{p B:Nat}{u v w:World}(h:bH [] u v)(k:Past p B v w)(hp:u.heap.size≤p)(hB:p<B): bH [] u w:=by obtain⟨cs,k1,k2⟩:=k;exact fH h k2 fun b hb=>by rcases k1 b hb with e | e <;> omega
theorem Past.old{p B:Nat}{w w':World}(h:Past p B w w'){q:Nat}(hp:q≠p)(hq:q<B)(hw:q<w.heap.size): w'.heap[q]?=w.heap[q]?:=by obtain⟨bs,h1,h2⟩:=h;exact h2.old q hw fun hm=>by rcases h1 q hm with e | e <;> omega
theorem Past.size{p B:Nat}{w w':World}(h:Past p B w w'): w.heap.size≤w'.heap.size:=by obtain⟨bs,h1,h2⟩:=h;exact h2.size
end Go.Proofs.YtbpklgllihhgpaaGreat
