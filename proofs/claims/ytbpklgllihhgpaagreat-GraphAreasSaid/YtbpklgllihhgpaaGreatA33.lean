import Derived.Laws.EntriesVeiled
import Derived.Test.YtbpklgllihhgpaaGreatA32
set_option maxRecDepth 100000
set_option maxHeartbeats 16000000
namespace Go.Proofs.YtbpklgllihhgpaaGreat
open Tryz Go.RowKit Go.Den
def xQ(e id:Int): Value:=.iface 188 (.agg #[e,id])
theorem dX(e id:Int)(w:World): Calls prog 161 #[.bool true,e,id] w fun x w'=>x=.returned (.tuple #[])∧w=w':=by
 go_enter func161,ntmps161;go_wp2_with fail
 go_end0;exact⟨rfl,rfl⟩
theorem Ov(e id:Int)(w:World): Calls prog 161 #[.bool false,e,id] w fun x w'=>x=.panicked [{ v:=xQ e id,recovered:=false }]∧w=w':=by
 go_enter func161,ntmps161;go_wp2_with fail
 exact⟨rfl,rfl,rfl⟩
def BG(ids:List Int)(k:Int): Option Value:=(mW ids k).map fun i=>(i:Int)
structure qI(w:World)(t mb:Nat)(d:df): Prop where
 ht:w.heap[t]?=some (.cells #[.slice d.sA d.sn d.sc,d.root,d.next,.slice d.lA d.ln d.lc,.map (some mb)] 221 (0,0))
 hm:lq w mb (BG d.ids)
theorem qI.turn{w w':World}{t mb:Nat}{d:df}(h:qI w t mb d){bs:List Nat}(T:bH bs w w')(h1:t∉bs)(h2:mb∉bs): qI w' t mb d:=
 ⟨(T.old _ (ae.1 h.ht).1 h1).trans h.ht,h.hm.turn T h2⟩
theorem KQ(w:World): (zeroValue 3).run prog w=.ok (0:Int) w:=by kernel_rfl
def iC(ls:List bI)(id:Int): bI:=(dh ls id).getD dF
theorem ql(d:df)(t mb:Nat)(id:Int)(w:World)(hT:qI w t mb d)(h:d.At w):
  Calls prog 165 #[.pointer (some ⟨t,0,none⟩),id] w fun e w'=>e=.returned (.tuple #[(iC d.layers id).v,.bool (dh d.layers id).isSome])∧bH [] w w':=by
 obtain⟨W,hW⟩:∃W,W=w.alloc (.cells ⟨dF.row⟩ 89):=⟨_,rfl⟩;have T0:bH [] w W:=hW ▸ (tR w).alloc _;have hWs:w.heap.size<W.heap.size:=by rw [hW];simp
 have x1:W.heap[w.heap.size]?=some (.cells ⟨dF.row⟩ 89 (0,0)):=by rw [hW];simp only [yV];rw [aG trivial]
 have hT1:=hT.turn T0 (by simp) (by simp);have hlk:=hT1.hm.lookOk (P:=prog) (mt:=219) underlying219 underlying3 (KQ W) id;have hids:d.ids=d.layers.map (·.id):=rfl;have q3:=bK hT1.ht (i:=3) (v:=.slice d.lA d.ln d.lc) rfl;have q4:=bK hT1.ht (i:=4) (v:=.map (some mb)) rfl;have hL:=h.layers;have HAL:=lh gI;have HX1:=lh x1;clear hT hT1 h x1;unfold BG at hlk;cases hla:dh d.layers id with
 | none=>
  have hat:mW d.ids id=none:=by
   rw [hids];unfold dh at hla;cases ha:mW (d.layers.map (·.id)) id with
   | none=>rfl
   | some k=>
    rw [ha]at hla;have hla:d.layers[k]?=none:=hla;unfold mW at ha;rw [bi]at ha;obtain⟨h1,_⟩:=ha;rw [bn]at hla;simp at h1;omega
  rw [hat]at hlk;have hlo:iC d.layers id=dF:=by unfold iC;rw [hla];rfl
  rw [hlo];have hst:=dQ (o:=0) (ty:=89) (p:=dF.row) (L':=dF.row) HX1.o (zero_of_info dS).2 (by simp [bI.row]) (row_one _) (by simp [bI.row]);have hl9:=run_loadVar_row (P:=prog) _ w.heap.size 89 89 ⟨dF.row⟩ (0,0) _ (eQ (L':=dF.row) HX1.o) underlying89 rfl (zero_of_info dS).2;have hbz:∀u,(Instr.build 89 #[]).run prog u=.ok (.agg ⟨dF.row⟩) u:=fun u=>by kernel_rfl
  have HBZ:=lh hbz;have HST:=lh hst;have HL9:=lh hl9;clear hat hla hlo hst hl9 hbz hids hL;have hlk:(Instr.lookup 219 (.map (some mb)) id true).run prog W=.ok (.tuple #[(0:Int),.bool false]) W:=hlk;go_enter func165,ntmps165;go_upto_region 1 with (refine bQ (o:=⟨some 4,_,_,_,_,_⟩) rfl (di (t:=89) rfl (HAL.o _)) ?_;try go_frame)
  rw [←hW];clear hW HAL;go_wp2_with (first
   | (refine bQ (o:=⟨some 19,_,_,_,_,_⟩) rfl (iU (vs:=#[]) (v:=.agg ⟨dF.row⟩) rfl rfl (HBZ.o _)) ?_;try go_frame)
   | (refine bU rfl 89 (.tmp 4) (.tmp 19) rfl rfl rfl HST.o ?_;try go_frame))
  refine ag (v:=.tuple #[dF.v,.bool false]) ?_ rfl ⟨rfl,T0.setRow _ (.inr (by omega))⟩;have hl9:=HL9.o;simp [results,results165,asAddr,hl9];rfl
 | some l=>
  obtain⟨k,hk,hlk2,_⟩:=iD hla;have hat:mW d.ids id=some k:=by
   rw [hids];unfold sQ at hk;cases ha:mW (d.layers.map (·.id)) id with
   | none=>rw [ha]at hk;simp at hk
   | some j=>
    rw [ha]at hk;have:j=k:=(by simp at hk;omega);rw [this]
  rw [hat]at hlk;have hlk:(Instr.lookup 219 (.map (some mb)) id true).run prog W=.ok (.tuple #[(k:Int),.bool true]) W:=hlk;have hlo:iC d.layers id=l:=by unfold iC;rw [hla];rfl
  rw [hlo];have hls:k<d.layers.length:=(ah.1 hlk2).1;have hkl:k<d.ln:=by rw [hL.1];exact hls
  obtain⟨gl,ol,hga,hR⟩:=hL.cell (by omega);have hlA:=run_loadAt_mid W gl (ol+k*31) 89 l.row _ (hR W T0 k l hlk2).2 underlying89 rfl (zero_of_info dS).2;have hst:=dQ (o:=0) (ty:=89) (p:=l.row) (L':=l.row) HX1.o (zero_of_info dS).2 (by simp [bI.row]) (row_one _) (by simp [bI.row]);have hl9:=run_loadVar_row (P:=prog) _ w.heap.size 89 89 ⟨l.row⟩ (0,0) _ (eQ (L':=l.row) HX1.o) underlying89 rfl (zero_of_info dS).2;rw [hga]at q3;have b0:(0:Int)≤(k:Int):=by omega
  have b1:(k:Int)<(d.ln:Int):=by omega
  have HLA:=lh hlA;have HST:=lh hst;have HL9:=lh hl9;clear hat hla hlo hst hl9 hids hL hR hls hlk2 hk hga hlA;go_enter func165,ntmps165;go_upto_region 1 with (refine bQ (o:=⟨some 4,_,_,_,_,_⟩) rfl (di (t:=89) rfl (HAL.o _)) ?_;try go_frame)
  rw [←hW];clear hW HAL;go_wp2_with (first
   | (refine bQ (o:=⟨some 27,_,_,_,_,_⟩) rfl (dw (p:=.pointer (some ⟨gl,ol+k*31,none⟩)) (v:=.agg ⟨l.row⟩) rfl rfl HLA.o) ?_;try go_frame)
   | (refine bU rfl 89 (.tmp 4) (.tmp 27) rfl rfl rfl HST.o ?_;try go_frame))
  refine ag (v:=.tuple #[l.v,.bool true]) ?_ rfl ⟨rfl,T0.setRow _ (.inr (by omega))⟩;have hl9:=HL9.o;simp [results,results165,asAddr,hl9];rfl
theorem O8(w:World): dF.At w:=⟨jd w,jd w,jd w,⟨rfl,fun j hj=>absurd hj (aU j)⟩,kZ w,kZ w,by decide⟩
theorem J8{d:df}{w:World}(h:d.At w)(id:Int): (iC d.layers id).At w:=by
 unfold iC;cases hl:dh d.layers id with
 | none=>exact O8 w
 | some l=>exact nH hl h
theorem IE(ls:List bI)(id:Int): eP ls id=fZ (iC ls id):=by
 unfold iC;cases hl:dh ls id with
 | some l=>exact rE hl
 | none=>
  unfold eP;unfold dh at hl;cases ha:mW (ls.map (·.id)) id with
  | none=>rfl
  | some k=>rw [ha]at hl;simp only at hl ⊢;rw [hl];rfl
def Ug(w':World)(xs:List Int)(e:Ending): Prop:=∃A n c,e=.returned (.slice A n c)∧dn w' A n xs∧n≤50
theorem AQ(d:df)(t mb:Nat)(id:Int)(w:World)(hT:qI w t mb d)(h:d.At w):
  Calls prog 169 #[.pointer (some ⟨t,0,none⟩),id] w fun e w'=>Ug w' (eP d.layers id) e∧bH [] w w':=by
 have hL:=ql d t mb id w hT h;have hA:=J8 h id;rw [IE];clear hT h;generalize iC d.layers id=l at *;generalize (dh d.layers id).isSome=b at *;have HL:=lh hL;have HA:=lh hA;have HAL:=lh gI;have HST:=lh (fun u=>gX u l);clear hL hA;by_cases hk:l.kind=4
 ·have hp:fZ l=[l.of]:=by unfold fZ;rw [aG hk]
  rw [hp];have HK:=lh hk;clear hp hk;go_enter func169,ntmps169;go_upto_region 2 with (first
   | (go_at_call 165;refine HL.o.mono ?_;rintro e w1 ⟨rfl,ht⟩)
   | (refine bQ (o:=⟨some 5,_,_,_,_,_⟩) rfl (di (t:=89) rfl (HAL.o _)) ?_;try go_frame)
   | (refine bU rfl 89 (.tmp 5) (.tmp 11) rfl rfl rfl (HST.o _) ?_;try go_frame))
  obtain⟨V,hV⟩:∃V,V=w1.alloc (.cells ⟨l.row⟩ 89):=⟨_,rfl⟩;have TV:bH [] w V:=by rw [hV];exact ht.alloc _
  have h9:V.heap[w1.heap.size]?=some (.cells ⟨l.row⟩ 89 (0,0)):=by rw [hV];exact heap_alloc_new _ _
  have y1:=bJ (i:=1) h9 rfl;have y16:=bJ (i:=16) h9 rfl;rw [HK.o]at y1;rw [←hV];clear hV h9 ht;generalize w1.heap.size=b9 at *;go_wp2_with fail
  go_ret;refine⟨⟨_,_,_,rfl,?_,by decide⟩,TV.alloc _⟩;exact Gs V l.of
 have hp:fZ l=l.kids:=by unfold fZ;rw [aF hk]
 rw [hp];have hk4:(l.kind == 4)=false:=by simpa using hk
 clear hp hk;go_enter func169,ntmps169;go_upto_region 2 with (first
  | (go_at_call 165;refine HL.o.mono ?_;rintro e w1 ⟨rfl,ht⟩)
  | (refine bQ (o:=⟨some 5,_,_,_,_,_⟩) rfl (di (t:=89) rfl (HAL.o _)) ?_;try go_frame)
  | (refine bU rfl 89 (.tmp 5) (.tmp 11) rfl rfl rfl (HST.o _) ?_;try go_frame))
 obtain⟨V,hV⟩:∃V,V=w1.alloc (.cells ⟨l.row⟩ 89):=⟨_,rfl⟩;have TV:bH [] w V:=by rw [hV];exact ht.alloc _
 have h9:V.heap[w1.heap.size]?=some (.cells ⟨l.row⟩ 89 (0,0)):=by rw [hV];exact heap_alloc_new _ _
 have y1:=bJ (i:=1) h9 rfl;have y15:=bJ (i:=15) h9 rfl;rw [←hV];clear hV h9 ht;generalize w1.heap.size=b9 at *;go_wp2_with fail
 go_ret;exact⟨⟨_,_,_,rfl,(HA.o.turn TV).kids,HA.o.Xk⟩,TV⟩
def wC(t:Nat): Value:=.func (.func 169) #[.pointer (some ⟨t,0,none⟩)] #[]
def rq(p7 p6 p9 p10:Nat): Value:=.func (.func 198) #[] #[.pointer (some ⟨p7,0,none⟩),.pointer (some ⟨p6,0,none⟩),.pointer (some ⟨p9,0,none⟩),.pointer (some ⟨p10,0,none⟩)]
structure AB(w:World)(d:df)(t mb p7 p6 p9 p10 sb:Nat)(other:Int): Prop where
 da:d.At w
 tr:qI w t mb d
 h7:w.heap[p7]?=some (.cells #[wC t] 165 (0,0))
 h6:w.heap[p6]?=some (.cells #[other] 3 (0,0))
 h9:w.heap[p9]?=some (.cells #[.map (some sb)] 241 (0,0))
 h10:w.heap[p10]?=some (.cells #[rq p7 p6 p9 p10] 77 (0,0))
 old:t<sb∧mb<sb
 seen:∃D:Int→Option Value,lq w sb D∧∀k v,D k=some v→v=.bool true
 dat:gG [sb] w fun u=>d.At u
theorem AB.step{w w':World}{d:df}{t mb p7 p6 p9 p10 sb:Nat}{other:Int}(h:AB w d t mb p7 p6 p9 p10 sb other)(T:bH [sb] w w')(hs:∃D:Int→Option Value,lq w' sb D∧∀k v,D k=some v→v=.bool true): AB w' d t mb p7 p6 p9 p10 sb other:=by
 have hm:∃es cl,w.heap[sb]?=some (.map es cl):=by obtain⟨D,hD,_⟩:=h.seen;obtain⟨es,cl,h1,_⟩:=hD.ex;exact⟨es,cl,h1⟩
 obtain⟨es,cl,hm⟩:=hm;have ne:∀{p:Nat} {c:Array Value} {ty:TypeId} {f:Nat×Nat},w.heap[p]?=some (.cells c ty f)→w'.heap[p]?=some (.cells c ty f):=fun {p c ty f} hp=>by
  refine (T.old p (ae.1 hp).1 ?_).trans hp;rintro hq;have hq:p=sb:=by simpa using hq
  subst hq;rw [hp]at hm;cases hm
 have hst:gG [sb] w' fun u=>d.At u:=fun u hsz hu=>h.dat u (aK T.size hsz) fun q hq hb=>(hu q (aj hq T.size) hb).trans (T.old q hq hb);exact⟨hst.now,⟨ne h.tr.ht,h.tr.hm.turn T (by have:=h.old.2;simp;omega)⟩,ne h.h7,ne h.h6,ne h.h9,ne h.h10,h.old,hs,hst⟩
theorem AB.turn{w w':World}{d:df}{t mb p7 p6 p9 p10 sb:Nat}{other:Int}(h:AB w d t mb p7 p6 p9 p10 sb other)(T:bH [] w w'): AB w' d t mb p7 p6 p9 p10 sb other:=by obtain⟨D,hD,hv⟩:=h.seen;exact h.step (T.mono (by simp)) ⟨D,hD.turn T (by simp),hv⟩
theorem JX{ls:List bI}{x p y:Int}(h:p∈eP ls x)(k:iY ls p y): iY ls x y:=by
 induction k with
 | one h2=>exact .tail (.one h) h2
 | tail _ h2 ih=>exact .tail ih h2
theorem dn.mapped{w w':World}{A:Option Addr}{n:Nat}{c:List Int}(h:dn w A n c){b:Nat}{D:Int→Option Value}(hD:lq w b D)(T:bH [b] w w'): dn w' A n c:=by
 obtain⟨es,cl,hm,_⟩:=hD.ex;refine⟨h.1,fun j hj=>?_⟩;obtain⟨g,o,e,h2⟩:=h.2 j hj;refine⟨g,o,e,?_⟩;have hg:g≠b:=by rintro rfl;simp [World.cell?,hm]at h2
 rw [←h2];simp only [World.cell?,T.old g (ai h2) (by simpa using hg)]
theorem VW(w:World): (zeroValue 4).run prog w=.ok (.bool false) w:=by kernel_rfl
theorem BI(d:df)(t mb p7 p6 p9 p10 sb:Nat)(other:Int): ∀(n:Nat) (x:Int),UL d.layers n x→¬iY d.layers x other→∀(w:World),AB w d t mb p7 p6 p9 p10 sb other→
  Calls prog 198 #[x,.pointer (some ⟨p7,0,none⟩),.pointer (some ⟨p6,0,none⟩),.pointer (some ⟨p9,0,none⟩),.pointer (some ⟨p10,0,none⟩)] w fun e w'=>e=.returned (.bool false)∧AB w' d t mb p7 p6 p9 p10 sb other∧bH [sb] w w'
 | 0,_,h,_,_,_=>by cases h
 | n+1,x,.mk hlow,hre,w,P=>by
  have ih:=fun p (hp:p∈eP d.layers x) u (hu:AB u d t mb p7 p6 p9 p10 sb other)=>BI d t mb p7 p6 p9 p10 sb other n p (hlow p hp) (fun h=>hre (JX hp h)) u hu;have hno:∀p∈eP d.layers x,p≠other:=fun p hp e=>hre (.one (e ▸ hp));have hP:=AQ d t mb x w P.tr P.da;clear hlow hre;generalize eP d.layers x=ps at *;have y7:=bK P.h7 (i:=0) (v:=wC t) rfl;have HIH:=lh ih;have HNO:=lh hno;have HP:=lh hP;have HW:=lh P;clear ih hno hP P;unfold wC at y7;go_enter func198,ntmps198;go_wp2_with (go_at_call 169;refine HP.o.mono ?_;rintro e w1 ⟨⟨A,m,c,rfl,hI,hm⟩,ht⟩;have HI:=lh hI;have HT:=lh ht;clear hI ht)
  clear y7;go_loopw [13] (fun s13 wr=>∃k:Nat,k≤m∧s13=k∧AB wr d t mb p7 p6 p9 p10 sb other∧dn wr A m ps∧bH [sb] w wr) (fun s13 _=>m - (intOf s13).toNat);case atStart=>exact⟨0,by omega,rfl,HW.o.turn HT.o,HI.o,HT.o.mono (by simp)⟩
  obtain⟨k,hk,rfl,Q,hI,T⟩:=hrel;have HI2:=lh hI;have HT2:=lh T;by_cases hlt:k<m
  ·obtain⟨g,o,rfl,hR⟩:=hI.cell (by omega);have hcell:=hR wr (bH.refl _ _) k hlt;have hml:=hI.1;have hmem:ps.getD k 0∈ps:=(by rw [List.getD,aB (by omega)];exact List.getElem_mem _);have hne:=HNO.o _ hmem;have HV:=lh (fun u hu=>HIH.o _ hmem u hu);generalize ps.getD k 0=y at *;have b0:(0:Int)≤(k:Int):=(by omega);have b1:(k:Int)<(m:Int):=(by omega);have b2:(k:Int)≤50:=(by omega);have hne2:(y == other)=false:=(by simpa using hne);have z6:=bK Q.h6 (i:=0) (v:=other) rfl;have z9:=bK Q.h9 (i:=0) (v:=.map (some sb)) rfl;obtain⟨Ds,hD,hDv⟩:=Q.seen;have hlk:=hD.look (P:=prog) (mt:=241) underlying241 underlying3 (VW wr) y;have HQ:=lh Q;have HML:=lh hml;clear hR hmem hne Q T hI hml;cases hy:Ds y with
   | some v=>
    have hv:=hDv y v hy;subst hv;rw [hy]at hlk;have hlk:(Instr.lookup 241 (.map (some sb)) y false).run prog wr=.ok (.bool true) wr:=hlk;clear hy hDv hD;(go_wp2_with fail);go_roundw;case rel=>exact⟨k+1,by omega,by go_num,HQ.o,HI2.o,HT2.o⟩
    simp [intOf];omega
   | none=>
    rw [hy]at hlk;have hlk:(Instr.lookup 241 (.map (some sb)) y false).run prog wr=.ok (.bool false) wr:=hlk;obtain⟨w2,hup,hD2,hT3⟩:=hD.upd (P:=prog) (mt:=241) underlying241 underlying3 y (.bool true);have Q2:=HQ.o.step hT3 ⟨_,hD2,fun q v hq=>by
     unfold o6 at hq;by_cases e:q=y
     ·rw [aG e]at hq;injection hq with hq;exact hq.symm
     rw [aF e]at hq;exact hDv q v hq⟩
    have z10:=bK Q2.h10 (i:=0) (v:=rq p7 p6 p9 p10) rfl;unfold rq at z10;have HV2:=lh (HV.o w2 Q2);have HI3:=lh (HI2.o.mapped hD hT3);have HD2:=lh hD2;have HT3:=lh hT3;clear hy hDv hD hD2 hT3 Q2 HV;(go_wp2_with (go_at_call 198;refine HV2.o.mono ?_;rintro e w4 ⟨rfl,Q4,ht4⟩;have HQ4:=lh Q4;have HT4:=lh ht4;have HI4:=lh (HI3.o.mapped HD2.o ht4);clear Q4 ht4));go_roundw;case rel=>exact⟨k+1,by omega,by go_num,HQ4.o,HI4.o,(HT2.o.trans HT3.o).trans HT4.o⟩
    simp [intOf];omega
  obtain rfl:k=m:=by omega
  have HQ:=lh Q;clear Q hI T;go_wp2_with fail
  go_ret;exact⟨rfl,HQ.o,HT2.o⟩
theorem uS{w:World}{b:Nat}(h:w.heap[b]?=some (.map #[] 0)): lq w b (fun _=>none):=
 ⟨#[],0,h,MapKept.stamped_empty 0,fun e he=>by simp at he,fun k v h=>by cases h⟩
theorem bH.fresh{w w' u:World}{bs:List Nat}(h:bH [] w w')(k:bH bs w' u)(hb:∀b∈bs,w.heap.size≤b): bH [] w u:=
 ⟨aK h.size k.size,fun j hj hn=>(k.old j (aj hj h.size) (fun hm=>by have:=hb j hm;omega)).trans (h.old j hj hn),k.os.trans h.os,k.tape.trans h.tape,k.output.trans h.output⟩
theorem EH(d:df)(t mb:Nat)(other:Int)(x:Int)(hsh:oP d.layers)(hf:∀x,¬iY d.layers x x)(hre:¬iY d.layers x other)(w:World)(hT:qI w t mb d)(h:d.At w):
  Calls prog 168 #[.pointer (some ⟨t,0,none⟩),x,other,wC t] w fun e w'=>e=.returned (.bool false)∧bH [] w w':=by
 have hlow:=zk hsh hf x;have HW:=lh hT;have HA:=lh h;have HL:=lh hlow;have HR:=lh hre;unfold wC;have hmk:=fun u:World=>run_makeMap (P:=prog) 241 u;clear hT h hlow hre hf hsh;go_enter func168,ntmps168;go_upto_region 4 with fail
 obtain⟨W,hW⟩:∃W,W=(((((w.alloc (.cells #[other] 3)).alloc (.cells #[wC t] 165)).alloc (.map #[] 0)).alloc (.cells #[.map (some (w.heap.size+1+1))] 241)).alloc (.cells #[rq (w.heap.size+1) w.heap.size (w.heap.size+1+1+1) (w.heap.size+1+1+1+1)] 77)):=⟨_,rfl⟩;have T0:bH [] w W:=by rw [hW];exact (((((tR w).alloc _).alloc _).alloc _).alloc _).alloc _
 have hWs:w.heap.size<W.heap.size:=by rw [hW];simp;omega
 have x6:W.heap[w.heap.size]?=some (.cells #[other] 3 (0,0)):=hW ▸ bO (bO (bO (bO bN)));have x7:W.heap[w.heap.size+1]?=some (.cells #[wC t] 165 (0,0)):=hW ▸ bO (bO (bO bN));have x8:W.heap[w.heap.size+1+1]?=some (.map #[] 0):=hW ▸ bO (bO bN);have x9:W.heap[w.heap.size+1+1+1]?=some (.cells #[.map (some (w.heap.size+1+1))] 241 (0,0)):=hW ▸ bO bN;have x10:W.heap[w.heap.size+1+1+1+1]?=some (.cells #[rq (w.heap.size+1) w.heap.size (w.heap.size+1+1+1) (w.heap.size+1+1+1+1)] 77 (0,0)):=hW ▸ bN;have ltt:=(ae.1 HW.o.ht).1;have ltm:mb<w.heap.size:=by obtain⟨es,cl,h1,_⟩:=HW.o.hm.ex;exact (ae.1 h1).1
 have V0:AB W d t mb (w.heap.size+1) w.heap.size (w.heap.size+1+1+1) (w.heap.size+1+1+1+1) (w.heap.size+1+1) other:=
  ⟨HA.o.turn T0,HW.o.turn T0 (by simp) (by simp),x7,x6,x9,x10,⟨by omega,by omega⟩,⟨_,uS x8,fun k v h=>by cases h⟩,AC T0 (fun b hb=>by simp at hb;omega) fun u hu=>HA.o.keepD hu⟩
 have V0':=BI d t mb _ _ _ _ _ other 2501 x HL.o HR.o W V0;unfold wC rq at hW;rw [←hW];have y10:=bK x10 (i:=0) (v:=rq (w.heap.size+1) w.heap.size (w.heap.size+1+1+1) (w.heap.size+1+1+1+1)) rfl;unfold rq at y10;have HV:=lh V0';clear x6 x7 x8 x9 x10 V0 V0' hW ltt ltm HW HA;have hsz:w.heap.size≤w.heap.size+1+1:=by omega
 generalize hb0:w.heap.size=b0 at *;generalize hb8:b0+1+1+1+1=b10 at *;generalize hb9:b0+1+1+1=b9 at *;generalize hb7:b0+1=b7 at *;go_wp2_with (go_at_call 198;refine HV.o.mono ?_;rintro e w4 ⟨rfl,_,ht4⟩)
 go_ret;exact⟨rfl,T0.fresh ht4 (by simp;omega)⟩
theorem Qn(ls:List bI)(n:Nat)(id:Int): dP ls (n+1) id=if (iC ls id).kind=2∨(iC ls id).kind=4 then (fZ (iC ls id)).foldl (fun m p=>max m (dP ls n p)) 0+1 else 0:=by
 unfold iC;rw [dP];cases dh ls id with
 | none=>rfl
 | some l=>rfl
theorem AO(d:df)(t mb:Nat): ∀(n:Nat) (id:Int),UL d.layers n id→n≤3000→∀(w:World),qI w t mb d→d.At w→Calls prog 170 #[.pointer (some ⟨t,0,none⟩),id] w fun e w'=>e=.returned (.int .i64 (dP d.layers n id))∧bH [] w w'
 | 0,_,h,_,_,_,_=>by cases h
 | n+1,id,.mk hlow,hn3,w,hT,h=>by
  have ih:=fun p (hp:p∈eP d.layers id) u hu (hu':d.At u)=>AO d t mb n p (hlow p hp) (by omega) u hu hu';have hL:=ql d t mb id w hT h;have hP:=fun u hu hu'=>AQ d t mb id u hu hu';have hbd:=qN d.layers n;have hs:=Qn d.layers n id;rw [IE]at hP ih;generalize dP d.layers (n+1) id=D at *;generalize iC d.layers id=l at *;generalize (dh d.layers id).isSome=b at *;have HIH:=lh ih;have HL:=lh hL;have HP:=lh hP;have HBD:=lh hbd;have HS:=lh hs;have HT:=lh hT;have HA:=lh h;have HAL:=lh gI;have HST:=lh (fun u=>gX u l);clear ih hL hP hbd hs hT h hlow;go_enter func170,ntmps170;go_upto_region 2 with (first
   | (go_at_call 165;refine HL.o.mono ?_;rintro e w1 ⟨rfl,ht⟩)
   | (refine bQ (o:=⟨some 5,_,_,_,_,_⟩) rfl (di (t:=89) rfl (HAL.o _)) ?_;try go_frame)
   | (refine bU rfl 89 (.tmp 5) (.tmp 14) rfl rfl rfl (HST.o _) ?_;try go_frame))
  obtain⟨V,hV⟩:∃V,V=w1.alloc (.cells ⟨l.row⟩ 89):=⟨_,rfl⟩;have TV:bH [] w V:=by rw [hV];exact ht.alloc _
  have h9:V.heap[w1.heap.size]?=some (.cells ⟨l.row⟩ 89 (0,0)):=by rw [hV];exact heap_alloc_new _ _
  have y1:=bJ (i:=1) h9 rfl;rw [←hV];clear hV h9 ht;generalize w1.heap.size=b9 at *;have HP2:=lh (HP.o V (HT.o.turn TV (by simp) (by simp)) (HA.o.turn TV));clear HP;by_cases hg:l.kind=2∨l.kind=4
  ·have HD2:Hid (D=(fZ l).foldl (fun m p=>max m (dP d.layers n p)) 0+1):=lh (by rw [HS.o,aG hg]);clear HS;rcases hg with hg | hg;all_goals
    rw [hg]at y1;clear hg;(go_upto_region 6 with (go_at_call 169;refine HP2.o.mono ?_;rintro e w2 ⟨⟨A,m,c,rfl,hI,hm⟩,ht2⟩));have TX:=TV.trans ht2;have hnp:=hI.1;have HI:=lh hI;generalize fZ l=ps at *;clear hI y1 ht2;go_loopw [7,28] (fun s7 s28 wr=>∃j:Nat,j≤m∧s28=j∧s7=.int .i64 ((ps.take j).foldl (fun m p=>max m (dP d.layers n p)) 0)∧bH [] w2 wr) (fun _ s28 _=>m - (intOf s28).toNat);case atStart=>exact⟨0,by omega,rfl,rfl,tR _⟩
    case round=>
     obtain⟨j,hj,rfl,rfl,T⟩:=hrel
     have hfb:=oh (dP d.layers n) n (ps.take j) 0 (by omega) (by omega) fun p _=>HBD.o p
     by_cases hjl:j<m
     ·obtain⟨g2,o2,rfl,hA2⟩:=HI.o.cell (by omega);have hkc:=hA2 _ T j hjl;have hpl:j<ps.length:=(by omega);have hx:ps.getD j 0=ps[j]:=(by simp [List.getD,hpl]);have hxm:ps.getD j 0∈ps:=(by rw [hx];exact List.getElem_mem hpl);have htk:(ps.take (j+1)).foldl (fun m p=>max m (dP d.layers n p)) 0=max ((ps.take j).foldl (fun m p=>max m (dP d.layers n p)) 0) (dP d.layers n (ps.getD j 0)):=(by rw [aT hpl,List.foldl_append,hx];rfl);have hxb:=HBD.o (ps.getD j 0);have HTK:=lh htk;have HX:=lh (HIH.o (ps.getD j 0) hxm wr (HT.o.turn (TX.trans T) (by simp) (by simp)) (HA.o.turn (TX.trans T)));clear htk hA2 hx hxm hpl;generalize ps.getD j 0=x at *;generalize dP d.layers n x=dx at *;generalize (ps.take j).foldl (fun m p=>max m (dP d.layers n p)) 0=M at *;have c0:(0:Int)≤(j:Int):=(by omega);have c1:(j:Int)<(m:Int):=(by omega);have c2:(j:Int)≤50:=(by omega);have HT3:=lh T;clear T;(go_wp2_with (go_at_call 170;refine HX.o.mono ?_;rintro e w3 ⟨rfl,ht3⟩));all_goals exact⟨⟨_,_,_,⟨j+1,by omega,rfl,by congr 1;rw [HTK.o];omega,HT3.o.trans ht3⟩,rfl,rfl,by go_num⟩,by simp [intOf];omega⟩
     ·obtain rfl:j=m:=(by omega);have htk:ps.take j=ps:=aY (by omega);rw [htk]at hfb;(go_wp2_with fail);go_ret;exact⟨by rw [HD2.o,htk];rfl,TX.trans T⟩
  have HD2:Hid (D=0):=lh (by rw [HS.o,aF hg]);clear HS;have hg1:¬l.kind=2:=fun e=>hg (.inl e);have hg2:¬l.kind=4:=fun e=>hg (.inr e);have x1:(l.kind != 2)=true:=by simp [hg1]
  have x2:(l.kind != 4)=true:=by simp [hg2]
  go_wp2_with fail
  go_ret;exact⟨by rw [HD2.o];rfl,TV⟩
end Go.Proofs.YtbpklgllihhgpaaGreat
