import Derived.Test.YtbpklgllihhgpaaGreatA26
import Derived.Test.YtbpklgllihhgpaaGreatA27
import Derived.Test.YtbpklgllihhgpaaGreatA28
set_option maxRecDepth 100000
set_option maxHeartbeats 16000000
namespace Go.Proofs.YtbpklgllihhgpaaGreat
open Tryz Go.RowKit Go.Den
theorem O7(w:World)(x:Int)(j:Nat)(u:Value)(hu:[Value.int .i64 x][j]?=some u): (w.alloc (.cells #[x] 3)).cell? ⟨w,0+j,none⟩=some u:=by
 cases j with
 | succ j=>simp at hu
 | zero=>
  have hu:Value.int .i64 x=u:=by simpa using hu
  subst hu;rw [aA _ _ _ _ _ _ (heap_alloc_new w _)];rfl
theorem IL{t:TypeId}(ht:prog.underlying t=some (.slice 3)){w:World}{base:Nat}{v:Value}{xs:List Int}(h:Il w base v xs)(x:Int)(hb:base≤w.heap.size)(h1:xs.length+1≤1000000)(ty:TypeId):
  ∃v' w',(Builtin.append_ #[t,t] ty #[v,.slice (some ⟨w,0,none⟩) 1 1]).run prog (w.alloc (.cells #[x] 3))=.ok v' w'∧Il w' base v' (xs ++ [x])∧bH (dI v) w w':=by
 obtain⟨i,hI,iz,is,ib⟩:=Qj;have T:=(tR w).alloc (.cells #[x] 3);obtain⟨v',w',e1,e2,e3,e4⟩:=oq (P:=prog) (ty:=ty) ht hI iz is ib rfl (by omega) (v:=v) (n:=xs.length) (xs:=xs.map (Value.int .i64)) (h.turn T) ⟨w,0,none⟩ 1 1 [x] rfl (fun j u hu=>by
  rw [Addr.add_lit];exact O7 w x j u hu) (fun u hu=>by rw [aN]at hu;subst hu;rfl) (aK h1 (by decide)) (by omega) (by simp only [aI];omega)
 refine⟨v',w',e1,?_,((bH.refl (dI v) w).alloc _).trans e3⟩;unfold Il;rw [aO,List.map_append];exact e2
theorem yF{ops:Array Oper}{rest:List Oper}{o:Oper}{a:Act}{w:World}{Q:Exit→Act→World→Prop}{t:TypeId}(ht:prog.underlying t=some (.slice 3))(hg:o.guard=none)(s y:Operand)
  (hop:o.op=Op.call { callee:=Callee.builtin Builtin.append,args:=#[s,y],argTypes:=#[t,t] }) {base:Nat} {v:Value} {xs:List Int} {x:Int} (hs:a.eval s=v) (h:Il w base v xs)
  (hx:a.eval y=.slice (some ⟨w,0,none⟩) 1 1) (hb:base≤w.heap.size) (h1:xs.length+1≤1000000)
  (K:∀v' w',Il w' base v' (xs ++ [x])→bH (dI v) w w'→wpList prog ops Q rest (a.put o.dst v') w'):wpList prog ops Q (o :: rest) a (w.alloc (.cells #[x] 3)):=by
 obtain⟨v',w',hrun,r1,r2⟩:=IL ht h x hb h1 o.type;exact rG hg s y t hop hs hx hrun (K v' w' r1 r2)
theorem Il.set{w:World}{base g o n cap:Nat}{xs:List Int}(h:Il w base (.slice (some ⟨g,o,none⟩) n cap) xs)(i:Nat)(hi:i<xs.length)(z:Int): Il (w.setCell ⟨g,o+i,none⟩ z) base (.slice (some ⟨g,o,none⟩) n cap) (xs.set i z)∧bH [g] w (w.setCell ⟨g,o+i,none⟩ z)∧w.cell? ⟨g,o+i,none⟩=some (.int .i64 (xs.getD i 0))∧w.frozen? ⟨g,o+i,none⟩=false∧base≤g:=by
 obtain⟨hl,hx⟩:=h;rcases hx with ⟨hv,h0⟩ | ⟨g',off,cap',arr,hv,hb,hh,hn,hm,hs,hc⟩
 ·cases hv
 injection hv with e1 e2 e3;injection e1 with e1;injection e1 with e4 e5 _;subst e4;subst e5;subst e2;subst e3;have hcell:arr[o+i]?=some (.int .i64 (xs.getD i 0)):=hc i _ (by simp [List.getD,hi]);refine⟨⟨by simp,.inr ⟨g,o,cap,arr.setIfInBounds (o+i) z,by rw [List.length_set],hb,?_,by rw [List.length_set];exact hn,hm,by simpa using hs,fun j u hu=>?_⟩⟩,(bH.refl [g] w).setCell _ (.inl (by simp)),by rw [aA _ _ _ _ _ _ hh];exact hcell,by simp [World.frozen?,hh],hb⟩
 ·simp only [World.setCell,au,if_true,hh];rfl
 rw [aP,List.getElem?_set]at hu;by_cases hij:i=j
 ·subst hij;rw [aG rfl,aG hi]at hu;rw [Array.getElem?_setIfInBounds,aG rfl,aG (by have:=(ae.1 hcell).1;exact this)];simpa using hu
 rw [aF hij]at hu;rw [Array.getElem?_setIfInBounds,aF (by omega)];exact hc j u (by rw [aP];exact hu)
theorem CG(ss:List Int)(A:Option Addr)(n cap:Nat)(hn:n≤200)(w:World)(h:dn w A n ss):
  Calls prog 105 #[.slice A n cap] w fun e w'=>(∃v c,e=.returned v∧Il w' w.heap.size v c)∧bH [] w w':=by
 have hC:=fun h1=>h.cell h1;have HC:=lh hC;have HI0:=lh (qU w [0] (by decide));clear hC h;go_enter func105,ntmps105;go_upto_region 3 with (fail)
 obtain⟨W,hW⟩:∃W,W=w.alloc (.cells #[(0:Int)] 3):=⟨_,rfl⟩;have T0:bH [] w W:=hW ▸ (tR w).alloc _;have hI0:Il W w.heap.size (.slice (some ⟨w,0,none⟩) 1 1) [0]:=hW ▸ HI0.o;rw [←hW];clear hW HI0;go_wp2_with fail
 go_loopw [3,4,5] (fun s3 s4 s5 wr=>∃(k:Nat) (xs:List Int) (sum:Int),k≤n∧s5=k∧s4=sum∧(0≤sum∧sum≤65535*(k:Int))∧xs.length=k+1∧Il wr w.heap.size s3 xs∧bH [] w wr) (fun _ _ s5 _=>n - (intOf s5).toNat);case atStart=>exact⟨0,[0],0,by omega,rfl,rfl,by omega,rfl,hI0,T0⟩
 clear hI0 T0;obtain⟨k,xs,sum,hk,rfl,rfl,hsum,hxl,hI,T⟩:=hrel;obtain⟨A3,n3,cp3,rfl,hIA⟩:=hI.ints;have hn3:=hIA.1;by_cases hlt:k<n
 ·obtain⟨g,o,rfl,hR⟩:=HC.o (by omega);have hcell:=hR _ T k hlt;obtain⟨c,ec⟩:∃c,bits BinOp.and IntKind.i64 (ss.getD k 0) 65535=c:=⟨_,rfl⟩;have hc:=dM (ss.getD k 0) 65535 (by omega);rw [show ((65535:Nat):Int)=65535 from rfl,ec]at hc;generalize ss.getD k 0=s at *;have wc:wrap64 (sum+c)=sum+c:=fC _ (by omega) (by omega);have b0:(0:Int)≤(k:Int):=by omega
  have b1:(k:Int)<(n:Int):=by omega
  have b2:(k:Int)<256:=by omega
  have HS:Hid (0≤sum+c∧sum+c≤65535*((k:Int)+1)):=lh (by omega);have HI:=lh hI;have HT:=lh T;have HX:=lh hxl;have hsz:=T.size;clear hI hIA hn3 T hR hc hsum hxl;go_wp2_with (refine yF underlying81 rfl _ _ rfl rfl HI.o rfl (by omega) (by have:=HX.o;omega) ?_;intro v' w' hI' hT')
  have hT2:=gZ HT.o hT' HI.o (aQ _);go_roundw;case rel=>exact⟨k+1,_,sum+c,by omega,by go_num,rfl,by have:=HS.o;omega,by rw [aO,HX.o];rfl,hI',hT2⟩
  simp [intOf];omega
 obtain rfl:n=k:=by omega
 have HI:=lh hI;have HT:=lh T;have HX:=lh hxl;have hsz:=T.size;have HN3:=lh hn3;clear hI hIA T hxl hn3;have HS:=lh hsum;clear hsum;by_cases hn0:n=0
 ·subst hn0;have e3:n3=1:=by have:=HX.o;have:=HN3.o;omega
  subst e3;go_wp2_with (refine yF underlying81 rfl _ _ rfl rfl HI.o rfl (by omega) (by have:=HX.o;omega) ?_;intro v' w' hI' hT';have hT2:=gZ HT.o hT' HI.o (aQ _);obtain⟨A9,n9,cp9,rfl,hIA9⟩:=hI'.ints;have HI9:=lh hI';have HT9:=lh hT2;have HN9:=lh (hIA9.1.trans (by rw [aO,HX.o];rfl):n9=2);have HL9:=lh (by rw [aO,HX.o];rfl:(xs ++ [(65535:Int)]).length=2);clear hI' hT' hT2 hIA9)
  go_loopw [7] (fun s7 wr=>∃(j:Nat) (ys:List Int),j≤2∧s7=j∧ys.length=2∧Il wr w.heap.size (.slice A9 n9 cp9) ys∧bH [] w wr) (fun s7 _=>2 - (intOf s7).toNat);case atStart=>exact⟨0,xs ++ [65535],by omega,rfl,HL9.o,HI9.o,HT9.o⟩
  clear HI9 HT9;obtain⟨j,ys,hj,rfl,hyl,hJ,TJ⟩:=hrel;have HJ:=lh hJ;have HTJ:=lh TJ;have HYL:=lh hyl;by_cases hjl:j<2
  ·by_cases hs0:0<sum
   ·obtain⟨g9,o9,rfl,_⟩:=(hJ.ints').cell (by have:=HN9.o;omega);obtain⟨_,_,hcj,hfj,hbj⟩:=hJ.set j (by omega) 0;have d0:(0:Int)≤(j:Int):=(by omega);have d1:(j:Int)<(n9:Int):=(by have:=HN9.o;omega);have d2:¬sum=0:=(by omega);have d3:(sum == 0)=false:=(by simpa using d2);clear hJ TJ hyl;generalize ys.getD j 0=x at *;(go_wp2_with fail);have hset:=fun z=>HJ.o.set j (by have:=HYL.o;omega) z;go_roundw;case rel=>exact⟨j+1,_,by omega,by go_num,by rw [List.length_set];exact HYL.o,(hset _).1,pF HTJ.o (hset _).2.1 (hset 0).2.2.2.2⟩
    simp [intOf];omega
   have d1:(j:Int)<(n9:Int):=(by have:=HN9.o;omega);have d2:decide (0<sum)=false:=ak hs0;clear hJ TJ hyl;(go_wp2_with fail);go_ret;exact⟨⟨_,rfl,_,HJ.o⟩,HTJ.o⟩
  have d1:¬j<n9:=by have:=HN9.o;omega
  have d1':decide (j<n9)=false:=ak d1;have d1'':¬(j:Int)<(n9:Int):=by omega
  clear hJ TJ hyl;go_wp2_with fail
  go_ret;exact⟨⟨_,rfl,_,HJ.o⟩,HTJ.o⟩
 have e3:(n3:Int)=(n:Int)+1:=by have:=HX.o;have:=HN3.o;omega
 have f2:decide ((n3:Int)<2)=false:=ak (by omega);obtain⟨A9,n9,cp9,hV9⟩:∃A9 n9 cp9,A9=A3∧n9=n3∧cp9=cp3:=⟨_,_,_,rfl,rfl,rfl⟩;obtain⟨rfl,rfl,rfl⟩:=hV9;have HI9:=lh HI.o;have HT9:=lh HT.o;have HN9:Hid (n9=n+1):=lh (by omega);have HL9:Hid (xs.length=n+1):=lh HX.o;clear e3;by_cases hn2:n≤2
 ·have f3:decide (2<(n:Int))=false:=ak (by omega);go_wp2_with fail
  go_loopw [7] (fun s7 wr=>∃(j:Nat) (ys:List Int),j≤(n+1)∧s7=j∧ys.length=(n+1)∧Il wr w.heap.size (.slice A9 n9 cp9) ys∧bH [] w wr) (fun s7 _=>(n+1) - (intOf s7).toNat);case atStart=>exact⟨0,xs,by omega,rfl,HL9.o,HI9.o,HT9.o⟩
  clear HI9 HT9;obtain⟨j,ys,hj,rfl,hyl,hJ,TJ⟩:=hrel;have HJ:=lh hJ;have HTJ:=lh TJ;have HYL:=lh hyl;by_cases hjl:j<(n+1)
  ·by_cases hs0:0<sum
   ·obtain⟨g9,o9,rfl,_⟩:=(hJ.ints').cell (by have:=HN9.o;omega);obtain⟨_,_,hcj,hfj,hbj⟩:=hJ.set j (by omega) 0;have d0:(0:Int)≤(j:Int):=(by omega);have d1:(j:Int)<(n9:Int):=(by have:=HN9.o;omega);have d2:¬sum=0:=(by omega);have d3:(sum == 0)=false:=(by simpa using d2);clear hJ TJ hyl;generalize ys.getD j 0=x at *;(go_wp2_with fail);have hset:=fun z=>HJ.o.set j (by have:=HYL.o;omega) z;go_roundw;case rel=>exact⟨j+1,_,by omega,by go_num,by rw [List.length_set];exact HYL.o,(hset _).1,pF HTJ.o (hset _).2.1 (hset 0).2.2.2.2⟩
    simp [intOf];omega
   have d1:(j:Int)<(n9:Int):=(by have:=HN9.o;omega);have d2:decide (0<sum)=false:=ak hs0;clear hJ TJ hyl;(go_wp2_with fail);go_ret;exact⟨⟨_,rfl,_,HJ.o⟩,HTJ.o⟩
  have d1:¬j<n9:=by have:=HN9.o;omega
  have d1':decide (j<n9)=false:=ak d1;have d1'':¬(j:Int)<(n9:Int):=by omega
  clear hJ TJ hyl;go_wp2_with fail
  go_ret;exact⟨⟨_,rfl,_,HJ.o⟩,HTJ.o⟩
 have f3:(2:Int)<(n:Int):=by omega
 obtain⟨g,o,rfl,hR⟩:=HC.o (by omega);have x0:=hR _ HT.o 0 (by omega);have x1:=hR _ HT.o 1 (by omega);rw [Nat.add_zero]at x0;have hc:=dM (ss.getD 1 0) 4095 (by omega);clear hR;generalize ss.getD 0 0=s0 at *;generalize ss.getD 1 0=s1 at *;have f4:(1:Int)<(n:Int):=by omega
 have f5:(0:Int)<(n:Int):=by omega
 obtain⟨c7,e7⟩:∃c,bits BinOp.and IntKind.i64 s0 7=c:=⟨_,rfl⟩;by_cases h7:c7=3
 ·subst h7;go_wp2_with fail
  go_loopw [7] (fun s7 wr=>∃(j:Nat) (ys:List Int),j≤(n+1)∧s7=j∧ys.length=(n+1)∧Il wr w.heap.size (.slice A9 n9 cp9) ys∧bH [] w wr) (fun s7 _=>(n+1) - (intOf s7).toNat);case atStart=>exact⟨0,xs,by omega,rfl,HL9.o,HI9.o,HT9.o⟩
  clear HI9 HT9;obtain⟨j,ys,hj,rfl,hyl,hJ,TJ⟩:=hrel;have HJ:=lh hJ;have HTJ:=lh TJ;have HYL:=lh hyl;by_cases hjl:j<(n+1)
  ·by_cases hs0:0<sum
   ·obtain⟨g9,o9,rfl,_⟩:=(hJ.ints').cell (by have:=HN9.o;omega);obtain⟨_,_,hcj,hfj,hbj⟩:=hJ.set j (by omega) 0;have d0:(0:Int)≤(j:Int):=(by omega);have d1:(j:Int)<(n9:Int):=(by have:=HN9.o;omega);have d2:¬sum=0:=(by omega);have d3:(sum == 0)=false:=(by simpa using d2);clear hJ TJ hyl;generalize ys.getD j 0=x at *;(go_wp2_with fail);have hset:=fun z=>HJ.o.set j (by have:=HYL.o;omega) z;go_roundw;case rel=>exact⟨j+1,_,by omega,by go_num,by rw [List.length_set];exact HYL.o,(hset _).1,pF HTJ.o (hset _).2.1 (hset 0).2.2.2.2⟩
    simp [intOf];omega
   have d1:(j:Int)<(n9:Int):=(by have:=HN9.o;omega);have d2:decide (0<sum)=false:=ak hs0;clear hJ TJ hyl;(go_wp2_with fail);go_ret;exact⟨⟨_,rfl,_,HJ.o⟩,HTJ.o⟩
  have d1:¬j<n9:=by have:=HN9.o;omega
  have d1':decide (j<n9)=false:=ak d1;have d1'':¬(j:Int)<(n9:Int):=by omega
  clear hJ TJ hyl;go_wp2_with fail
  go_ret;exact⟨⟨_,rfl,_,HJ.o⟩,HTJ.o⟩
 have h7':(c7 == 3)=false:=by simpa using h7
 go_wp2_with fail
 go_loopw [7] (fun s7 wr=>∃(j:Nat) (ys:List Int),j≤(n+1)∧s7=j∧ys.length=(n+1)∧Il wr w.heap.size (.slice A9 n9 cp9) ys∧bH [] w wr) (fun s7 _=>(n+1) - (intOf s7).toNat);case atStart=>exact⟨0,xs,by omega,rfl,HL9.o,HI9.o,HT9.o⟩
 clear HI9 HT9;obtain⟨j,ys,hj,rfl,hyl,hJ,TJ⟩:=hrel;have HJ:=lh hJ;have HTJ:=lh TJ;have HYL:=lh hyl;by_cases hjl:j<(n+1)
 ·by_cases hs0:0<sum
  ·obtain⟨g9,o9,rfl,_⟩:=(hJ.ints').cell (by have:=HN9.o;omega);obtain⟨_,_,hcj,hfj,hbj⟩:=hJ.set j (by omega) 0;have d0:(0:Int)≤(j:Int):=(by omega);have d1:(j:Int)<(n9:Int):=(by have:=HN9.o;omega);have d2:¬sum=0:=(by omega);have d3:(sum == 0)=false:=(by simpa using d2);clear hJ TJ hyl;generalize ys.getD j 0=x at *;(go_wp2_with fail);have hset:=fun z=>HJ.o.set j (by have:=HYL.o;omega) z;go_roundw;case rel=>exact⟨j+1,_,by omega,by go_num,by rw [List.length_set];exact HYL.o,(hset _).1,pF HTJ.o (hset _).2.1 (hset 0).2.2.2.2⟩
   simp [intOf];omega
  have d1:(j:Int)<(n9:Int):=by have:=HN9.o;omega
  have d2:decide (0<sum)=false:=ak hs0;clear hJ TJ hyl;go_wp2_with fail
  go_ret;exact⟨⟨_,rfl,_,HJ.o⟩,HTJ.o⟩
 have d1:¬j<n9:=by have:=HN9.o;omega
 have d1':decide (j<n9)=false:=ak d1;have d1'':¬(j:Int)<(n9:Int):=by omega
 clear hJ TJ hyl;go_wp2_with fail
 go_ret;exact⟨⟨_,rfl,_,HJ.o⟩,HTJ.o⟩
inductive UI(w:World)(base:Nat): Ending→Prop where
 | mk (f:Fv) (ks cs:List Int) (hk:Il w base (.slice f.kA f.kn f.kc) ks) (hc:Il w base (.slice f.cA f.cn f.cc) cs):UI w base (.returned f.v)
theorem jd(w:World): dn w none 0 []:=⟨rfl,fun j hj=>absurd hj (aU j)⟩
theorem jH(w:World)(base:Nat): Il w base (.slice none 0 0) []:=⟨by simp,.inl ⟨rfl,rfl⟩⟩
theorem Tj{zs:List Int}{i:Nat}{c z:Int}(h:z∈zs.set i c): z∈zs∨z=c:=List.mem_or_eq_of_mem_set h
structure SA(w wr:World)(b5 b7:Nat)(zs:List Int)(rr dv:Int)(v:Value)(xs:List Int): Prop where
 t:bH [] w wr
 h0:wr.heap[w.heap.size]?=some (.cells #[(0:Int),(0:Int),.slice none 0 0,(0:Int),(0:Int),.slice none 0 0] 83 (0,0))
 h1:wr.heap[w.heap.size+1]?=some (.cells ⟨zs.map (Value.int .i64)⟩ 177 (0,0))
 h5:wr.heap[b5]?=some (.cells ⟨[(1:Int),rr,v,dv,(0:Int),.slice none 0 0]⟩ 83 (0,0))
 lt:w.heap.size+1<b5∧b5<b7∧b7≤wr.heap.size
 il:Il wr b7 v xs
theorem SA.step{w wr u:World}{b5 b7:Nat}{zs:List Int}{rr dv:Int}{v v':Value}{xs ys:List Int}{bs:List Nat}(P:SA w wr b5 b7 zs rr dv v xs)(T:bH bs wr u)(hb:∀q∈bs,b7≤q)(hI:Il u b7 v' ys): SA w (u.setCell ⟨b5,2,none⟩ v') b5 b7 zs rr dv v' ys:=by obtain⟨l1,l2,l3⟩:=P.lt;have hs:=T.size;have old:∀q,q<b7→u.heap[q]?=wr.heap[q]?:=fun q hq=>T.old q (by omega) (fun hm=>by have:=hb q hm;omega);refine⟨(fH P.t T (fun q hq=>by have:=hb q hq;omega)).sc,(dG _ _ _ _ _ (by omega)).trans ((old _ (by omega)).trans P.h0),(dG _ _ _ _ _ (by omega)).trans ((old _ (by omega)).trans P.h1),dU ((old _ l2).trans P.h5) rfl,⟨l1,l2,by rw [World.size_setCell];omega⟩,?_⟩;exact hI.kept ((bH.refl [b5] u).setCell _ (.inl (by simp))) (fun q hq hm=>by have:=(hI.lt q hq).1;simp at hm;omega)
theorem SA.drawn{w wr u:World}{b5 b7:Nat}{zs:List Int}{rr dv:Int}{v:Value}{xs:List Int}(P:SA w wr b5 b7 zs rr dv v xs)(T:bH [] wr u): SA w u b5 b7 zs rr dv v xs:=by obtain⟨l1,l2,l3⟩:=P.lt;have hs:=T.size;have old:∀q,q<b7→u.heap[q]?=wr.heap[q]?:=fun q hq=>T.old q (by omega) (by simp);exact⟨P.t.trans T,(old _ (by omega)).trans P.h0,(old _ (by omega)).trans P.h1,(old _ l2).trans P.h5,⟨l1,l2,by omega⟩,P.il.turn T⟩
theorem KD:(prog.info? 177).map (fun i=>(i.zero,i.size))=some (some (.agg ⟨List.replicate 60 (0:Int)⟩),60):=by kernel_rfl
theorem Nj(u:World): (Instr.alloc 177 true (.tuple #[])).run prog u=.ok (.pointer (some ⟨u,0,none⟩)) (u.alloc (.cells ⟨List.replicate 60 (0:Int)⟩ 177)):=by unfold Instr.alloc;rw [Sem.run_bind,(zero_of_info KD).1];rfl
theorem Ot(u:World): (Instr.build 177 #[]).run prog u=.ok (.agg ⟨List.replicate 60 (0:Int)⟩) u:=by kernel_rfl
theorem NK(u:World): (Instr.storeAt 177 (.pointer (some ⟨u,0,none⟩)) (.agg ⟨List.replicate 60 (0:Int)⟩)).run prog (u.alloc (.cells ⟨List.replicate 60 (0:Int)⟩ 177))=.ok () (u.alloc (.cells ⟨List.replicate 60 (0:Int)⟩ 177)):=
 run_storeAt_new u 177 _ ⟨List.replicate 60 (0:Int)⟩ (zero_of_info KD).2 rfl (all_oneCell_toArray (cs:=List.replicate 60 (0:Int)) fun v hv=>by rw [List.eq_of_mem_replicate hv];rfl)
theorem EP(ss:List Int)(g o:Nat)(w:World)(h:dn w (some ⟨g,o,none⟩) 12 ss):
  Calls prog 67 #[.slice (some ⟨g,o,none⟩) 12 12] w fun e w'=>UI w' w.heap.size e∧bH [] w w':=by
 obtain⟨g',o',hga,hR⟩:=h.cell (by decide);injection hga with hga;injection hga with e1 e2 _;subst e1;subst e2;have HC:=lh hR;have HA:=lh h;obtain⟨W,hW⟩:∃W,W=(w.alloc (.cells #[(0:Int),(0:Int),.slice none 0 0,(0:Int),(0:Int),.slice none 0 0] 83)).alloc (.cells ⟨List.replicate 60 (0:Int)⟩ 177):=⟨_,rfl⟩;have T0:bH [] w W:=hW ▸ (((tR w).alloc _).alloc _);have hW0:W.heap[w.heap.size]?=some (.cells #[(0:Int),(0:Int),.slice none 0 0,(0:Int),(0:Int),.slice none 0 0] 83 (0,0)):=hW ▸ bO bN;have hW1:W.heap[w.heap.size+1]?=some (.cells ⟨(List.replicate 60 (0:Int)).map (Value.int .i64)⟩ 177 (0,0)):=by rw [hW];simp only [yV,aI];rw [aG (by first | trivial | omega)];rw [List.map_replicate]
 have hWs:w.heap.size+2≤W.heap.size:=by rw [hW];simp
 clear hR h;go_enter func67,ntmps67;go_upto_region 2 with (first
  | (refine bQ rfl (iU (vs:=#[]) rfl rfl (Ot _)) ?_;try go_frame)
  | (refine bQ rfl (di (t:=177) rfl (Nj _)) ?_;try go_frame)
  | (refine bU rfl 177 (.tmp 3) (.tmp 7) rfl rfl rfl (NK _) ?_;try go_frame))
 rw [←hW];clear hW;go_wp2_with fail
 go_loopw [4] (fun s4 wr=>∃(k:Nat) (zs:List Int),k≤12∧s4=k∧zs.length=60∧(∀z∈zs,0≤z∧z≤65535)∧wr.heap[w.heap.size]?=some (.cells #[(0:Int),(0:Int),.slice none 0 0,(0:Int),(0:Int),.slice none 0 0] 83 (0,0))∧wr.heap[w.heap.size+1]?=some (.cells ⟨zs.map (Value.int .i64)⟩ 177 (0,0))∧bH [] w wr) (fun s4 _=>12 - (intOf s4).toNat);case atStart=>exact⟨0,_,by omega,rfl,List.length_replicate,fun z hz=>by rw [List.eq_of_mem_replicate hz];omega,hW0,hW1,T0⟩
 clear hW0 hW1 T0 hWs;obtain⟨k,zs,hk,rfl,hzl,hzs,x0,x1,T⟩:=hrel;by_cases hlt:k<12
 ·have hcell:=HC.o _ T k hlt;obtain⟨c,ec⟩:∃c,bits BinOp.and IntKind.i64 (ss.getD k 0) 65535=c:=⟨_,rfl⟩;have hc:=dM (ss.getD k 0) 65535 (by omega);rw [show ((65535:Nat):Int)=65535 from rfl,ec]at hc;generalize ss.getD k 0=s at *;have b0:(0:Int)≤(k:Int):=by omega
  have b1:k<12:=hlt;have b2:k<60:=by omega
  have y:=bJ (i:=k) x1 (v:=.int .i64 (zs.getD k 0)) (by simp [List.getD,hzl,b2]);have yf:=dD x1 k;have HX0:=lh x0;have HX1:=lh x1;have HT:=lh T;have HZ:=lh (bg hzl (bg hzs hc));clear x0 x1 T hzl hzs hc;go_wp2_with fail
  go_roundw;case rel=>exact⟨k+1,zs.set k c,by omega,by go_num,by rw [List.length_set];exact HZ.o.1,fun z hz=>by rcases Tj hz with hz | rfl;exact HZ.o.2.1 z hz;exact HZ.o.2.2,(dG _ _ _ _ _ (by omega)).trans HX0.o,dU HX1.o (by rw [List.map_set]),HT.o.sc⟩
  simp [intOf];omega
 obtain rfl:k=12:=by omega
 have hz:=fun i (hi:i<60)=>hzs (zs.getD i 0) (by rw [show zs.getD i 0=zs[i]'(by omega) by simp [List.getD,hzl,hi]];exact List.getElem_mem _);have hz0:=hz 0 (by decide);have hz1:=hz 1 (by decide);have hz2:=hz 2 (by decide);have hzc:=fun i (hi:i<60)=>bJ (i:=i) x1 (v:=.int .i64 (zs.getD i 0)) (by simp [List.getD,hzl,hi]);have l0:=hzc 0 (by decide);have l1:=hzc 1 (by decide);have l2:=hzc 2 (by decide);obtain⟨e,ee⟩:∃e,(zs.getD 0 0).tmod 8=e:=⟨_,rfl⟩;have he:0≤e∧e≤7:=by rw [Int.tmod_eq_emod_of_nonneg hz0.1]at ee;omega
 have we:wrap64 (1+e)=1+e:=fC _ (by omega) (by omega);have HZS:=lh (bg hz hzl);have HX0:=lh x0;have HX1:=lh x1;have HT:=lh T;clear hzs hz hzc x0 x1 T hz0 hzl;generalize zs.getD 0 0=z0 at *;generalize hv1:zs.getD 1 0=z1 at *;generalize hv2:zs.getD 2 0=z2 at *;have HV1:=lh hv1;have HV2:=lh hv2;clear hv1 hv2;go_upto_region 7 with (fail)
 generalize hkk:1+e=kk at *;have hk1:1≤kk∧kk≤8:=by omega
 clear we ee he hkk l0;have hv1:=HV1.o;have hv2:=HV2.o;obtain⟨V,hV⟩:∃V,V=wr.alloc (.cells #[kk,(0:Int),.slice none 0 0,(0:Int),(0:Int),.slice none 0 0] 83):=⟨_,rfl⟩;have TV:bH [] wr V:=hV ▸ (tR wr).alloc _;have x5:V.heap[wr.heap.size]?=some (.cells ⟨[kk,(0:Int),.slice none 0 0,(0:Int),(0:Int),.slice none 0 0]⟩ 83 (0,0)):=by rw [hV];exact heap_alloc_new _ _
 have hb:w.heap.size+1<wr.heap.size:=(ae.1 HX1.o).1;have hbv:wr.heap.size<V.heap.size:=(ae.1 x5).1;have x0:=(TV.old w.heap.size (by omega) (by simp)).trans HX0.o;have x1:=(TV.old (w.heap.size+1) (by omega) (by simp)).trans HX1.o;have T1:=HT.o.trans TV;rw [←hV];clear hV TV HX0 HX1 HT l1 l2;generalize wr.heap.size=b5 at *;have hne:¬b5=w.heap.size:=by omega
 have hbw:w.heap.size<V.heap.size:=by omega
 have hne2:¬w.heap.size=b5:=by omega
 have hX1:=lh x1;have l1:V.cell? ⟨w.heap.size+1,1,none⟩=some (.int .i64 z1):=by rw [←hv1];exact bJ x1 (by have:=HZS.o.2;simp [List.getD,this])
 have l2:V.cell? ⟨w.heap.size+1,2,none⟩=some (.int .i64 z2):=by rw [←hv2];exact bJ x1 (by have:=HZS.o.2;simp [List.getD,this])
 have pf:∀i,V.frozen? ⟨b5,i,none⟩=false:=fun i=>dD x5 i;have rf:∀i,V.frozen? ⟨w,i,none⟩=false:=fun i=>by simp [World.frozen?,x0]
 have p0:V.cell? ⟨b5,0,none⟩=some (.int .i64 kk):=bJ x5 rfl;have p1:V.cell? ⟨b5,1,none⟩=some (.int .i64 0):=bJ x5 rfl;have p2:V.cell? ⟨b5,2,none⟩=some (.slice none 0 0):=bJ x5 rfl;have p3:V.cell? ⟨b5,3,none⟩=some (.int .i64 0):=bJ x5 rfl;have p4:V.cell? ⟨b5,4,none⟩=some (.int .i64 0):=bJ x5 rfl;have p5:V.cell? ⟨b5,5,none⟩=some (.slice none 0 0):=bJ x5 rfl;have r0:V.cell? ⟨w,0,none⟩=some (.int .i64 0):=by rw [aA _ _ _ _ _ _ x0];rfl
 have r1:V.cell? ⟨w,1,none⟩=some (.int .i64 0):=by rw [aA _ _ _ _ _ _ x0];rfl
 have r2:V.cell? ⟨w,2,none⟩=some (.slice none 0 0):=by rw [aA _ _ _ _ _ _ x0];rfl
 have r3:V.cell? ⟨w,3,none⟩=some (.int .i64 0):=by rw [aA _ _ _ _ _ _ x0];rfl
 have r4:V.cell? ⟨w,4,none⟩=some (.int .i64 0):=by rw [aA _ _ _ _ _ _ x0];rfl
 have r5:V.cell? ⟨w,5,none⟩=some (.slice none 0 0):=by rw [aA _ _ _ _ _ _ x0];rfl
 have HX5:=lh x5;have HX0:=lh x0;have HT1:=lh T1;have HV12:=lh (bg hv1 hv2);clear x5 x0 x1 T1 hv1 hv2;obtain rfl | hk2 | rfl | rfl | rfl | rfl:kk=1∨(kk=2∨kk=3∨kk=4)∨kk=5∨kk=6∨kk=7∨kk=8:=by omega
 ·obtain⟨rr,er⟩:∃rr,z1.tmod 3=rr:=⟨_,rfl⟩;have hr:0≤rr∧rr≤2:=by rw [Int.tmod_eq_emod_of_nonneg hz1.1]at er;omega
  obtain⟨rd,ed⟩:∃rd,z2.tmod 20=rd:=⟨_,rfl⟩;obtain⟨dv,ev⟩:∃dv,wrap64 (1+rd)=dv:=⟨_,rfl⟩;have q1:wrap64 (2*rr)=2*rr:=fC _ (by omega) (by omega);have q2:wrap64 (2*rr+1)=2*rr+1:=fC _ (by omega) (by omega);obtain⟨m,em⟩:∃m,wrap64 ((2*rr+1)*(2*rr+1))=m:=⟨_,rfl⟩;have hm:0≤m∧m≤25:=by obtain rfl | rfl | rfl:rr=0∨rr=1∨rr=2:=(by omega);all_goals (rw [←em];simp [wrap64])
  go_upto_region 11 with (fail)
  have P0:SA w ((V.setCell ⟨b5,1,none⟩ rr).setCell ⟨b5,3,none⟩ dv) b5 V.heap.size zs rr dv (.slice none 0 0) []:=
   ⟨(HT1.o.sc).sc,(dG _ _ _ _ _ (by omega)).trans ((dG _ _ _ _ _ (by omega)).trans HX0.o),(dG _ _ _ _ _ (by omega)).trans ((dG _ _ _ _ _ (by omega)).trans hX1.out),dU (dU HX5.o rfl) rfl,⟨by omega,hbv,by simp only [World.size_setCell];exact aQ _⟩,⟨by simp,.inl ⟨rfl,rfl⟩⟩⟩
  have HQ:=lh (bg q1 (bg q2 em));clear q1 q2 em er ed ev HX0 HX5 hX1 HT1 l1 l2 pf rf p0 p1 p2 p3 p4 p5 r0 r1 r2 r3 r4 r5 hbv hbw;generalize (V.setCell ⟨b5,1,none⟩ rr).setCell ⟨b5,3,none⟩ dv=V6 at *;generalize V.heap.size=b7 at *;go_wp2_with fail
  go_loopw [6] (fun s6 wr=>∃(j:Nat) (v:Value) (xs:List Int),(j:Int)≤m∧s6=j∧xs.length=j∧SA w wr b5 b7 zs rr dv v xs) (fun s6 _=>25 - (intOf s6).toNat);case atStart=>exact⟨0,_,[],by omega,rfl,rfl,P0⟩
  clear P0;obtain⟨j,v,xs,hj,rfl,hxl,P⟩:=hrel;obtain⟨A9,n9,c9,rfl,_⟩:=P.il.ints;have p1:=bJ (i:=1) P.h5 rfl;have HP:=lh P;have HXL:=lh hxl;clear P hxl;by_cases hjm:(j:Int)<m
  ·have j24:(j:Int)≤24:=(by omega);have a0:(0:Int)≤3+(j:Int):=(by omega);have a1:3+(j:Int)<60:=(by omega);obtain⟨zz,ez⟩:∃zz,zs.getD (3+j) 0=zz:=⟨_,rfl⟩;have hbl:∀q∈dI (.slice A9 n9 c9),b7≤q:=fun q hq=>(HP.o.il.lt q hq).1;have HB:=lh hbl;have D0:Hid (∀u,bH (dI (.slice A9 n9 c9)) wr u→u.cell? ⟨b5,2,none⟩=some (.slice A9 n9 c9)):=lh fun u T=>bJ ((T.old b5 (by have:=HP.o.lt;omega) (fun hm=>by have:=HB.o _ hm;have:=HP.o.lt;omega)).trans HP.o.h5) rfl;have D1:Hid (∀u,bH (dI (.slice A9 n9 c9)) wr u→u.cell? ⟨w.heap.size+1,3+j,none⟩=some (.int .i64 zz)):=lh fun u T=>bJ ((T.old (w.heap.size+1) (by have:=HP.o.lt;omega) (fun hm=>by have:=HB.o _ hm;have:=HP.o.lt;omega)).trans HP.o.h1) (by rw [←ez];have:=HZS.o.2;rw [aP,List.getD,aB (by omega)];rfl);have w3:wrap64 (3+(j:Int))=3+(j:Int):=fC _ (by omega) (by omega);obtain⟨q1,q2,em⟩:=HQ.o;clear hbl;(go_upto_region 14 with (fail));clear p1 q1 q2 em;obtain⟨y1,ey1⟩:∃y,zz.tmod 9=y:=⟨_,rfl⟩;obtain⟨y2,ey2⟩:∃y,wrap64 (y1 - 2)=y:=⟨_,rfl⟩;have ey3:=(ku _).trans ey2;have w3':=(ku _).trans w3;refine cu.start (fun u=>bH (dI (.slice A9 n9 c9)) wr u) 11 (by kernel_rfl) ?_;have hS:=(bH.refl (dI (.slice A9 n9 c9)) wr).drawn 1;have P1:SA w wr.drew b5 b7 zs rr dv (.slice A9 n9 c9) xs:=HP.o.drawn ((tR wr).drawn 1);change bH (dI (.slice A9 n9 c9)) wr wr.drew at hS;generalize wr.drew=Y at *;refine tk 0 (.pointer (some ⟨b5,2,none⟩)) ?_;go_frame;refine tk 1 (.slice A9 n9 c9) ?_ (hy:=fun w' hw=>by have e0:=D0.out _ hw;go_simp);go_frame;refine tk 2 j ?_;go_frame;refine tk 3 (.int .i64 (3+(j:Int))) ?_;go_frame;refine tk 4 (.pointer (some ⟨w.heap.size+1,3+j,none⟩)) ?_;go_frame;refine tk 5 zz ?_ (hy:=fun w' hw=>by have e0:=D1.out _ hw;go_simp);go_frame;refine tk 6 y1 ?_;go_frame;refine tk 7 y2 ?_;go_frame;clear ey1 ey2 ey3 w3 w3';obtain⟨v2,u2,hap,hI2,hT2⟩:=IL (t:=22) underlying22 P1.il y2 P1.lt.2.2 (by have:=HXL.o;omega) 22;obtain⟨A8,n8,c8,rfl,_⟩:=hI2.ints;have P2:=P1.step hT2 HB.o hI2;have hS2:=hS.trans hT2;have z5:u2.cell? ⟨b5,2,none⟩=some (.slice A9 n9 c9):=D0.out _ hS2;have zf5:u2.frozen? ⟨b5,2,none⟩=false:=dD ((hT2.old b5 (by have:=P1.lt;omega) (fun hm=>by have:=HB.o _ hm;have:=P1.lt;omega)).trans P1.h5) 2;refine eH 8 fun K hK=>?_;go_simp;refine hK _ _ (fun _=>hS.alloc _) ?_;clear hK K;(try go_frame);refine eH 9 fun K hK=>?_;refine bZ (d:=some 65) rfl (dL (v:=.slice A9 n9 c9) (y:=.slice (some ⟨Y,0,none⟩) 1 1) _ _ 22 rfl rfl rfl hap) ?_;refine hK _ _ (fun _=>hS2) ?_;clear hK K;(try go_frame);refine eH 10 fun K hK=>?_;refine bZ (d:=some 66) rfl (v:=.pointer (some ⟨b5,2,none⟩)) (u:=u2) (by go_simp) ?_;refine hK _ _ (fun _=>hS2) ?_;clear hK K;(try go_frame);refine iZ fun K hK=>?_;go_simp;refine hK _ _ ?_;clear hK K;(try go_frame);(go_wp2_with fail);refine⟨⟨_,_,_,_,_,_,_,_,_,_,_,_,_,_,_,_,_,_,_,_,_,_,_,_,_,⟨j+1,_,_,by omega,?_,by rw [aO,HXL.o];rfl,P2⟩,rfl⟩,?_⟩
   ·go_num
   simp [intOf];omega
  have hjm':decide ((j:Int)<m)=false:=ak hjm;have h0:=HP.o.h0;have hlt:=HP.o.lt;have rf:∀i,wr.frozen? ⟨w,i,none⟩=false:=fun i=>by simp [World.frozen?,h0]
  have pf:∀i,wr.frozen? ⟨b5,i,none⟩=false:=fun i=>dD HP.o.h5 i;have p0:=bJ (i:=0) HP.o.h5 rfl;have p2:=bJ (i:=2) HP.o.h5 rfl;have p3:=bJ (i:=3) HP.o.h5 rfl;have p4:=bJ (i:=4) HP.o.h5 rfl;have p5:=bJ (i:=5) HP.o.h5 rfl;have r0:wr.cell? ⟨w,0,none⟩=some (.int .i64 0):=by rw [aA _ _ _ _ _ _ h0];rfl
  have r1:wr.cell? ⟨w,1,none⟩=some (.int .i64 0):=by rw [aA _ _ _ _ _ _ h0];rfl
  have r2:wr.cell? ⟨w,2,none⟩=some (.slice none 0 0):=by rw [aA _ _ _ _ _ _ h0];rfl
  have r3:wr.cell? ⟨w,3,none⟩=some (.int .i64 0):=by rw [aA _ _ _ _ _ _ h0];rfl
  have r4:wr.cell? ⟨w,4,none⟩=some (.int .i64 0):=by rw [aA _ _ _ _ _ _ h0];rfl
  have r5:wr.cell? ⟨w,5,none⟩=some (.slice none 0 0):=by rw [aA _ _ _ _ _ _ h0];rfl
  have hlt1:w.heap.size<b7:=by omega
  clear h0;obtain⟨q1,q2,em⟩:=HQ.o;go_wp2_with fail
  clear q1 q2 em;have TK:=((((((bH.refl [w.heap.size] wr).setCell (a:=⟨w,0,none⟩) (1:Int) (.inl (by simp))).setCell (a:=⟨w,1,none⟩) rr (.inl (by simp))).setCell (a:=⟨w,2,none⟩) (.slice A9 n9 c9) (.inl (by simp))).setCell (a:=⟨w,3,none⟩) dv (.inl (by simp))).setCell (a:=⟨w,4,none⟩) (0:Int) (.inl (by simp))).setCell (a:=⟨w,5,none⟩) (.slice none 0 0) (.inl (by simp));have hJ:=(HP.o.il.kept TK (fun q hq hm=>by have:=(HP.o.il.lt q hq).1;simp at hm;omega)).base (by omega:w.heap.size≤_);have hTT:=((((((HP.o.t).setCell (a:=⟨w,0,none⟩) (1:Int) (.inr (by dsimp only;omega))).setCell (a:=⟨w,1,none⟩) rr (.inr (by dsimp only;omega))).setCell (a:=⟨w,2,none⟩) (.slice A9 n9 c9) (.inr (by dsimp only;omega))).setCell (a:=⟨w,3,none⟩) dv (.inr (by dsimp only;omega))).setCell (a:=⟨w,4,none⟩) (0:Int) (.inr (by dsimp only;omega))).setCell (a:=⟨w,5,none⟩) (.slice none 0 0) (.inr (by dsimp only;omega));exact ag (v:=.agg #[(1:Int),rr,.slice A9 n9 c9,dv,(0:Int),.slice none 0 0]) (by simp [results,results67,go_sem,r0,r1,r2,r3,r4,r5]) rfl ⟨.mk ⟨1,rr,A9,n9,c9,dv,0,none,0,0⟩ xs [] hJ (jH _ _),hTT⟩
 ·obtain⟨rr,er⟩:∃rr,z1.tmod 4=rr:=⟨_,rfl⟩;rcases hk2 with rfl | rfl | rfl
  ·(go_wp2_with fail);have hTT:=(((((((HT1.o).setCell (a:=⟨b5,1,none⟩) rr (.inr (by dsimp only;omega))).setCell (a:=⟨w,0,none⟩) (2:Int) (.inr (by dsimp only;omega))).setCell (a:=⟨w,1,none⟩) rr (.inr (by dsimp only;omega))).setCell (a:=⟨w,2,none⟩) (.slice none 0 0) (.inr (by dsimp only;omega))).setCell (a:=⟨w,3,none⟩) (0:Int) (.inr (by dsimp only;omega))).setCell (a:=⟨w,4,none⟩) (0:Int) (.inr (by dsimp only;omega))).setCell (a:=⟨w,5,none⟩) (.slice none 0 0) (.inr (by dsimp only;omega));exact ag (v:=.agg #[(2:Int),rr,.slice none 0 0,(0:Int),(0:Int),.slice none 0 0]) (by simp [results,results67,go_sem,r0,r1,r2,r3,r4,r5]) rfl ⟨.mk ⟨2,rr,none,0,0,0,0,none,0,0⟩ [] [] (jH _ _) (jH _ _),hTT⟩
  ·(go_wp2_with fail);have hTT:=(((((((HT1.o).setCell (a:=⟨b5,1,none⟩) rr (.inr (by dsimp only;omega))).setCell (a:=⟨w,0,none⟩) (3:Int) (.inr (by dsimp only;omega))).setCell (a:=⟨w,1,none⟩) rr (.inr (by dsimp only;omega))).setCell (a:=⟨w,2,none⟩) (.slice none 0 0) (.inr (by dsimp only;omega))).setCell (a:=⟨w,3,none⟩) (0:Int) (.inr (by dsimp only;omega))).setCell (a:=⟨w,4,none⟩) (0:Int) (.inr (by dsimp only;omega))).setCell (a:=⟨w,5,none⟩) (.slice none 0 0) (.inr (by dsimp only;omega));exact ag (v:=.agg #[(3:Int),rr,.slice none 0 0,(0:Int),(0:Int),.slice none 0 0]) (by simp [results,results67,go_sem,r0,r1,r2,r3,r4,r5]) rfl ⟨.mk ⟨3,rr,none,0,0,0,0,none,0,0⟩ [] [] (jH _ _) (jH _ _),hTT⟩
  go_wp2_with fail
  have hTT:=(((((((HT1.o).setCell (a:=⟨b5,1,none⟩) rr (.inr (by dsimp only;omega))).setCell (a:=⟨w,0,none⟩) (4:Int) (.inr (by dsimp only;omega))).setCell (a:=⟨w,1,none⟩) rr (.inr (by dsimp only;omega))).setCell (a:=⟨w,2,none⟩) (.slice none 0 0) (.inr (by dsimp only;omega))).setCell (a:=⟨w,3,none⟩) (0:Int) (.inr (by dsimp only;omega))).setCell (a:=⟨w,4,none⟩) (0:Int) (.inr (by dsimp only;omega))).setCell (a:=⟨w,5,none⟩) (.slice none 0 0) (.inr (by dsimp only;omega));exact ag (v:=.agg #[(4:Int),rr,.slice none 0 0,(0:Int),(0:Int),.slice none 0 0]) (by simp [results,results67,go_sem,r0,r1,r2,r3,r4,r5]) rfl ⟨.mk ⟨4,rr,none,0,0,0,0,none,0,0⟩ [] [] (jH _ _) (jH _ _),hTT⟩
 ·have hI:dn V (some ⟨g,o+1,none⟩) 11 (ss.drop 1):=by have hA:=(HA.o.turn HT1.o);refine⟨by have:=hA.1;simp;omega,fun j hj=>⟨g,o+1,rfl,?_⟩⟩;have:=HC.o _ HT1.o (1+j) (by omega);rw [Nat.add_assoc,this];simp [List.getD,Nat.add_comm]
  have HCM:=lh (CG (ss.drop 1) (some ⟨g,o+1,none⟩) 11 11 (by decide) V hI);clear hI;go_wp2_with (first
   | (refine iG rfl _ _ rfl (p:=1) (q:=12) rfl rfl ?_;rw [show (min (1:Int) 12)=1 from rfl];try go_frame)
   | (go_at_call 105;refine HCM.o.mono ?_;rintro e w2 ⟨⟨v,c,rfl,hv⟩,ht2⟩;obtain⟨A9,n9,c9,rfl,_⟩:=hv.ints;have HV:=lh hv;have HT2:=lh ht2;obtain⟨hc,hf⟩:=bY ht2;have s0:=tq hc r0;have s1:=tq hc r1;have s2:=tq hc r2;have s3:=tq hc r3;have s4:=tq hc r4;have s5:=tq hc r5;have sf:=fun i=>(hf w.heap.size i (by omega)).trans (rf i);clear hv ht2))
  have TK:=(((((((bH.refl [b5,w.heap.size] w2).setCell (a:=⟨b5,5,none⟩) (.slice A9 n9 c9) (.inl (by simp))).setCell (a:=⟨w,0,none⟩) (5:Int) (.inl (by simp))).setCell (a:=⟨w,1,none⟩) (0:Int) (.inl (by simp))).setCell (a:=⟨w,2,none⟩) (.slice none 0 0) (.inl (by simp))).setCell (a:=⟨w,3,none⟩) (0:Int) (.inl (by simp))).setCell (a:=⟨w,4,none⟩) (0:Int) (.inl (by simp))).setCell (a:=⟨w,5,none⟩) (.slice A9 n9 c9) (.inl (by simp));have hJ:=(HV.o.kept TK (fun q hq hm=>by have:=(HV.o.lt q hq).1;simp at hm;omega)).base (by omega:w.heap.size≤_);have hTT:=((((((((HT1.o.trans HT2.o)).setCell (a:=⟨b5,5,none⟩) (.slice A9 n9 c9) (.inr (by dsimp only;omega))).setCell (a:=⟨w,0,none⟩) (5:Int) (.inr (by dsimp only;omega))).setCell (a:=⟨w,1,none⟩) (0:Int) (.inr (by dsimp only;omega))).setCell (a:=⟨w,2,none⟩) (.slice none 0 0) (.inr (by dsimp only;omega))).setCell (a:=⟨w,3,none⟩) (0:Int) (.inr (by dsimp only;omega))).setCell (a:=⟨w,4,none⟩) (0:Int) (.inr (by dsimp only;omega))).setCell (a:=⟨w,5,none⟩) (.slice A9 n9 c9) (.inr (by dsimp only;omega));exact ag (v:=.agg #[(5:Int),(0:Int),.slice none 0 0,(0:Int),(0:Int),.slice A9 n9 c9]) (by simp [results,results67,go_sem,s0,s1,s2,s3,s4,s5]) rfl ⟨.mk ⟨5,0,none,0,0,0,0,A9,n9,c9⟩ [] c (jH _ _) hJ,hTT⟩
 ·go_wp2_with fail
  have hTT:=((((((HT1.o).setCell (a:=⟨w,0,none⟩) (6:Int) (.inr (by dsimp only;omega))).setCell (a:=⟨w,1,none⟩) (0:Int) (.inr (by dsimp only;omega))).setCell (a:=⟨w,2,none⟩) (.slice none 0 0) (.inr (by dsimp only;omega))).setCell (a:=⟨w,3,none⟩) (0:Int) (.inr (by dsimp only;omega))).setCell (a:=⟨w,4,none⟩) (0:Int) (.inr (by dsimp only;omega))).setCell (a:=⟨w,5,none⟩) (.slice none 0 0) (.inr (by dsimp only;omega));exact ag (v:=.agg #[(6:Int),(0:Int),.slice none 0 0,(0:Int),(0:Int),.slice none 0 0]) (by simp [results,results67,go_sem,r0,r1,r2,r3,r4,r5]) rfl ⟨.mk ⟨6,0,none,0,0,0,0,none,0,0⟩ [] [] (jH _ _) (jH _ _),hTT⟩
 ·obtain⟨rr,er⟩:∃rr,z1.tmod 257=rr:=⟨_,rfl⟩;go_wp2_with fail
  have hTT:=(((((((HT1.o).setCell (a:=⟨b5,4,none⟩) rr (.inr (by dsimp only;omega))).setCell (a:=⟨w,0,none⟩) (7:Int) (.inr (by dsimp only;omega))).setCell (a:=⟨w,1,none⟩) (0:Int) (.inr (by dsimp only;omega))).setCell (a:=⟨w,2,none⟩) (.slice none 0 0) (.inr (by dsimp only;omega))).setCell (a:=⟨w,3,none⟩) (0:Int) (.inr (by dsimp only;omega))).setCell (a:=⟨w,4,none⟩) rr (.inr (by dsimp only;omega))).setCell (a:=⟨w,5,none⟩) (.slice none 0 0) (.inr (by dsimp only;omega));exact ag (v:=.agg #[(7:Int),(0:Int),.slice none 0 0,(0:Int),rr,.slice none 0 0]) (by simp [results,results67,go_sem,r0,r1,r2,r3,r4,r5]) rfl ⟨.mk ⟨7,0,none,0,0,0,rr,none,0,0⟩ [] [] (jH _ _) (jH _ _),hTT⟩
 obtain⟨ra,ea⟩:∃ra,z1.tmod 7=ra:=⟨_,rfl⟩;obtain⟨rb,eb⟩:∃rb,z2.tmod 7=rb:=⟨_,rfl⟩;obtain⟨rc,ec⟩:∃rc,wrap64 (ra - 3)=rc:=⟨_,rfl⟩;obtain⟨rd,ed⟩:∃rd,wrap64 (rb - 3)=rd:=⟨_,rfl⟩;go_wp2_with fail
 have hTT:=((((((((HT1.o).setCell (a:=⟨b5,1,none⟩) rc (.inr (by dsimp only;omega))).setCell (a:=⟨b5,4,none⟩) rd (.inr (by dsimp only;omega))).setCell (a:=⟨w,0,none⟩) (8:Int) (.inr (by dsimp only;omega))).setCell (a:=⟨w,1,none⟩) rc (.inr (by dsimp only;omega))).setCell (a:=⟨w,2,none⟩) (.slice none 0 0) (.inr (by dsimp only;omega))).setCell (a:=⟨w,3,none⟩) (0:Int) (.inr (by dsimp only;omega))).setCell (a:=⟨w,4,none⟩) rd (.inr (by dsimp only;omega))).setCell (a:=⟨w,5,none⟩) (.slice none 0 0) (.inr (by dsimp only;omega));exact ag (v:=.agg #[(8:Int),rc,.slice none 0 0,(0:Int),rd,.slice none 0 0]) (by simp [results,results67,go_sem,r0,r1,r2,r3,r4,r5]) rfl ⟨.mk ⟨8,rc,none,0,0,0,rd,none,0,0⟩ [] [] (jH _ _) (jH _ _),hTT⟩
end Go.Proofs.YtbpklgllihhgpaaGreat
