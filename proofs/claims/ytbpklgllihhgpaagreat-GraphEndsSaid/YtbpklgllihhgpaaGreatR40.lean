import Derived.Test.YtbpklgllihhgpaaGreatR39
set_option maxRecDepth 100000
set_option maxHeartbeats 16000000
namespace Go.Proofs.YtbpklgllihhgpaaGreat
open Tryz Go.RowKit Go.Den
def fPart(t:Nat): Value:=.func (.func 169) #[.pointer (some ⟨t,0,none⟩)] #[]
def fVisit(p7 p6 p9 p10:Nat): Value:=.func (.func 198) #[] #[.pointer (some ⟨p7,0,none⟩),.pointer (some ⟨p6,0,none⟩),.pointer (some ⟨p9,0,none⟩),.pointer (some ⟨p10,0,none⟩)]
structure VisW(w:World)(d:DocM)(t mb p7 p6 p9 p10 sb:Nat)(other:Int): Prop where
 da:d.At w
 tr:TreeW w t mb d
 h7:w.heap[p7]?=some (.cells #[fPart t] 165 (0,0))
 h6:w.heap[p6]?=some (.cells #[other] 3 (0,0))
 h9:w.heap[p9]?=some (.cells #[.map (some sb)] 241 (0,0))
 h10:w.heap[p10]?=some (.cells #[fVisit p7 p6 p9 p10] 77 (0,0))
 old:t<sb∧mb<sb
 seen:∃D:Int→Option Value,MapI w sb D∧∀k v,D k=some v→v=.bool true
 dat:Stab [sb] w fun u=>d.At u
theorem VisW.step{w w':World}{d:DocM}{t mb p7 p6 p9 p10 sb:Nat}{other:Int}(h:VisW w d t mb p7 p6 p9 p10 sb other)(T:Turn [sb] w w')(hs:∃D:Int→Option Value,MapI w' sb D∧∀k v,D k=some v→v=.bool true): VisW w' d t mb p7 p6 p9 p10 sb other:=by
 have hm:∃es cl,w.heap[sb]?=some (.map es cl):=by obtain⟨D,hD,_⟩:=h.seen;obtain⟨es,cl,h1,_⟩:=hD.ex;exact⟨es,cl,h1⟩
 obtain⟨es,cl,hm⟩:=hm;have ne:∀{p:Nat} {c:Array Value} {ty:TypeId} {f:Nat×Nat},w.heap[p]?=some (.cells c ty f)→w'.heap[p]?=some (.cells c ty f):=fun {p c ty f} hp=>by
  refine (T.old p (Array.getElem?_eq_some_iff.1 hp).1 ?_).trans hp;rintro hq;have hq:p=sb:=by simpa using hq
  subst hq;rw [hp]at hm;cases hm
 have hst:Stab [sb] w' fun u=>d.At u:=fun u hsz hu=>h.dat u (Nat.le_trans T.size hsz) fun q hq hb=>(hu q (Nat.lt_of_lt_of_le hq T.size) hb).trans (T.old q hq hb);exact⟨hst.now,⟨ne h.tr.ht,h.tr.hm.turn T (by have:=h.old.2;simp;omega)⟩,ne h.h7,ne h.h6,ne h.h9,ne h.h10,h.old,hs,hst⟩
theorem VisW.turn{w w':World}{d:DocM}{t mb p7 p6 p9 p10 sb:Nat}{other:Int}(h:VisW w d t mb p7 p6 p9 p10 sb other)(T:Turn [] w w'): VisW w' d t mb p7 p6 p9 p10 sb other:=by obtain⟨D,hD,hv⟩:=h.seen;exact h.step (T.mono (by simp)) ⟨D,hD.turn T (by simp),hv⟩
theorem reach_head{ls:List LayerM}{x p y:Int}(h:p∈stepsM ls x)(k:Reach ls p y): Reach ls x y:=by
 induction k with
 | one h2=>exact .tail (.one h) h2
 | tail _ h2 ih=>exact .tail ih h2
theorem IntsAt.mapped{w w':World}{A:Option Addr}{n:Nat}{c:List Int}(h:IntsAt w A n c){b:Nat}{D:Int→Option Value}(hD:MapI w b D)(T:Turn [b] w w'): IntsAt w' A n c:=by
 obtain⟨es,cl,hm,_⟩:=hD.ex;refine⟨h.1,fun j hj=>?_⟩;obtain⟨g,o,e,h2⟩:=h.2 j hj;refine⟨g,o,e,?_⟩;have hg:g≠b:=by rintro rfl;simp [World.cell?,hm]at h2
 rw [←h2];simp only [World.cell?,T.old g (block_lt_of_cell h2) (by simpa using hg)]
theorem zeroB(w:World): (zeroValue 4).run prog w=.ok (.bool false) w:=by kernel_rfl
theorem tree_visit(d:DocM)(t mb p7 p6 p9 p10 sb:Nat)(other:Int): ∀(n:Nat) (x:Int),Low d.layers n x→¬Reach d.layers x other→∀(w:World),VisW w d t mb p7 p6 p9 p10 sb other→
  Calls prog 198 #[x,.pointer (some ⟨p7,0,none⟩),.pointer (some ⟨p6,0,none⟩),.pointer (some ⟨p9,0,none⟩),.pointer (some ⟨p10,0,none⟩)] w fun e w'=>e=.returned (.bool false)∧VisW w' d t mb p7 p6 p9 p10 sb other∧Turn [sb] w w'
 | 0,_,h,_,_,_=>by cases h
 | n+1,x,.mk hlow,hre,w,P=>by
  have ih:=fun p (hp:p∈stepsM d.layers x) u (hu:VisW u d t mb p7 p6 p9 p10 sb other)=>tree_visit d t mb p7 p6 p9 p10 sb other n p (hlow p hp) (fun h=>hre (reach_head hp h)) u hu;have hno:∀p∈stepsM d.layers x,p≠other:=fun p hp e=>hre (.one (e ▸ hp));have hP:=tree_parts d t mb x w P.tr P.da;clear hlow hre;generalize stepsM d.layers x=ps at *;have y7:=cell_of P.h7 (i:=0) (v:=fPart t) rfl;have HIH:=lh ih;have HNO:=lh hno;have HP:=lh hP;have HW:=lh P;clear ih hno hP P;unfold fPart at y7;go_enter func198,ntmps198;go_wp2_with (go_at_call 169;refine HP.out.mono ?_;rintro e w1 ⟨⟨A,m,c,rfl,hI,hm⟩,ht⟩;have HI:=lh hI;have HT:=lh ht;clear hI ht)
  clear y7;go_loopw [13] (fun s13 wr=>∃k:Nat,k≤m∧s13=k∧VisW wr d t mb p7 p6 p9 p10 sb other∧IntsAt wr A m ps∧Turn [sb] w wr) (fun s13 _=>m - (intOf s13).toNat);case atStart=>exact⟨0,by omega,rfl,HW.out.turn HT.out,HI.out,HT.out.mono (by simp)⟩
  obtain⟨k,hk,rfl,Q,hI,T⟩:=hrel;have HI2:=lh hI;have HT2:=lh T;by_cases hlt:k<m
  ·obtain⟨g,o,rfl,hR⟩:=hI.cell (by omega);have hcell:=hR wr (Turn.refl _ _) k hlt;have hml:=hI.1;have hmem:ps.getD k 0∈ps:=(by rw [List.getD,List.getElem?_eq_getElem (by omega)];exact List.getElem_mem _);have hne:=HNO.out _ hmem;have HV:=lh (fun u hu=>HIH.out _ hmem u hu);generalize ps.getD k 0=y at *;have b0:(0:Int)≤(k:Int):=(by omega);have b1:(k:Int)<(m:Int):=(by omega);have b2:(k:Int)≤50:=(by omega);have hne2:(y == other)=false:=(by simpa using hne);have z6:=cell_of Q.h6 (i:=0) (v:=other) rfl;have z9:=cell_of Q.h9 (i:=0) (v:=.map (some sb)) rfl;obtain⟨Ds,hD,hDv⟩:=Q.seen;have hlk:=hD.look (P:=prog) (mt:=241) underlying241 underlying3 (zeroB wr) y;have HQ:=lh Q;have HML:=lh hml;clear hR hmem hne Q T hI hml;cases hy:Ds y with
   | some v=>
    have hv:=hDv y v hy;subst hv;rw [hy]at hlk;have hlk:(Instr.lookup 241 (.map (some sb)) y false).run prog wr=.ok (.bool true) wr:=hlk;clear hy hDv hD;(go_wp2_with fail);go_roundw;case rel=>exact⟨k+1,by omega,by go_num,HQ.out,HI2.out,HT2.out⟩
    simp [intOf];omega
   | none=>
    rw [hy]at hlk;have hlk:(Instr.lookup 241 (.map (some sb)) y false).run prog wr=.ok (.bool false) wr:=hlk;obtain⟨w2,hup,hD2,hT3⟩:=hD.upd (P:=prog) (mt:=241) underlying241 underlying3 y (.bool true);have Q2:=HQ.out.step hT3 ⟨_,hD2,fun q v hq=>by
     unfold updI at hq;by_cases e:q=y
     ·rw [if_pos e]at hq;injection hq with hq;exact hq.symm
     rw [if_neg e]at hq;exact hDv q v hq⟩
    have z10:=cell_of Q2.h10 (i:=0) (v:=fVisit p7 p6 p9 p10) rfl;unfold fVisit at z10;have HV2:=lh (HV.out w2 Q2);have HI3:=lh (HI2.out.mapped hD hT3);have HD2:=lh hD2;have HT3:=lh hT3;clear hy hDv hD hD2 hT3 Q2 HV;(go_wp2_with (go_at_call 198;refine HV2.out.mono ?_;rintro e w4 ⟨rfl,Q4,ht4⟩;have HQ4:=lh Q4;have HT4:=lh ht4;have HI4:=lh (HI3.out.mapped HD2.out ht4);clear Q4 ht4));go_roundw;case rel=>exact⟨k+1,by omega,by go_num,HQ4.out,HI4.out,(HT2.out.trans HT3.out).trans HT4.out⟩
    simp [intOf];omega
  obtain rfl:k=m:=by omega
  have HQ:=lh Q;clear Q hI T;go_wp2_with fail
  go_ret;exact⟨rfl,HQ.out,HT2.out⟩
end Go.Proofs.YtbpklgllihhgpaaGreat
