import Derived.Lib.VarintMem
import Derived.Lib.Walk
import Derived.OwnWalk
import Derived.Laws.IdiomStrings
import Derived.Test.YtbpklgllihhgpaaGreatA32
set_option maxRecDepth 100000
set_option maxHeartbeats 16000000
namespace Go.Proofs.YtbpklgllihhgpaaGreat
open Tryz Go.RowKit Go.Den
theorem VG:(prog.info? 5).map (fun i=>(i.zero,i.size,i.bytes))=some (some (.int .u8 0),1,1):=by kernel_rfl
theorem bH.of_below{w w':World}(h:Below w.heap.size w w'): bH [] w w':=⟨h.size,fun j hj _=>h.block j hj,h.os,h.tape,h.output⟩
def Ii(n:Int): Nat:=(n.emod 18446744073709551616).toNat
def Qz(n:Int): List UInt8:=Lib.uvarint (Ii n)
def MZ(n:Int): ByteArray:=⟨(Qz n).toArray⟩
theorem AZ(n:Int): Ii n<18446744073709551616:=by have h:=Int.emod_lt_of_pos n (show (0:Int)<18446744073709551616 by decide);have h0:=Int.emod_nonneg n (show (18446744073709551616:Int)≠0 by decide);show (n % 18446744073709551616).toNat < _;omega
theorem Ju(n:Int): IntKind.u64.wrap n=(Ii n:Int):=by
 have h0:=Int.emod_nonneg n (show (18446744073709551616:Int)≠0 by decide);have e:(Ii n:Int)=n % 18446744073709551616:=by show (((n % 18446744073709551616).toNat:Nat):Int)=_;omega
 rw [e];simp [IntKind.wrap,IntKind.bits,IntKind.signed]
theorem ET(l:List UInt8){j:Nat}(hj:j<l.length): (Lib.byteCells l)[j]?=some (.int .u8 (l[j].toNat:Int)):=by unfold Lib.byteCells;rw [aP,aB hj];rfl
theorem NL(n:Int)(w:World): Calls prog 219 #[n] w fun e w'=>e=.returned (.string (MZ n))∧bH [] w w':=by
 obtain⟨i0,hi,hz0,hz1,hz2⟩:=info_parts VG;have hx:=AZ n;have hvb:∀(l:List UInt8),Qz n=l→(Value.string ⟨l.toArray⟩:Value)=.string (MZ n):=fun l h=>by rw [←h];rfl
 unfold Qz at hvb;have hw:=Ju n;generalize Ii n=x at *;have HV:=lh hvb;clear hvb;go_enter func219,ntmps219;go_wp2;go_loopw [3,4] (fun vb vx wr=>∃(y:Nat) (pre:List UInt8),vx=.int .u64 y∧y≤x∧Lib.uvarint x=pre ++ Lib.uvarint y∧wr.ownsRow w.heap.size 5 1 vb pre.length (Lib.byteCells pre)∧Below w.heap.size w wr)
  (fun _ vx _=>(intOf vx).toNat)
 case atStart=>exact⟨x,[],by first | rfl | (rw [hw]),aQ _,rfl,⟨by simp [Lib.byteCells],.inl ⟨rfl,rfl⟩⟩,Below.refl _ _⟩
 obtain⟨y,pre,rfl,hy,hsplit,hown1,hnx⟩:=hrel;have hlen:=Lib.uvarint_length64 hx;have hpl:pre.length+(Lib.uvarint y).length≤10:=by have h2:=congrArg List.length hsplit;rw [aO]at h2;omega
 have hyp:=Lib.uvarint_pos y;by_cases h128:128≤y
 ·have hor:bits .or .u8 ((y:Int) % 256) 128=((y % 128+128:Nat):Int):=by rw [Lib.u8_or128_any _ (by omega) (by omega)];omega
  go_wp2_with (at_builtin;refine wpList_append_own _ rfl _ _ 127 rfl w.heap.size 5 i0 (.int .u8 0) 1 1 underlying127 hi hz0 hz1 hz2 rfl (by decide) _ _ _ rfl (hown1.alloc _) ⟨wr,0,none⟩ 1 1 [Value.int .u8 ((y % 128+128:Nat):Int)] rfl rfl ?c1 ?c2 ?c3 ?c4 ?c5 ?_)
  case c1=>
   intro j u hj;match j,hj with
   | 0,hj=>simp at hj;subst hj;simp [Addr.add]
  case c2=>intro u hu;simp at hu;subst hu;rfl
  case c3=>unfold maxLen;omega
  case c4=>omega
  case c5=>have:=hnx.size;simp;omega
  intro v' w1 hown' hgrow _;have hnx1:Below w.heap.size w w1:=(hnx.alloc (by have:=hnx.size;omega) _).grown hgrow (by have:=hnx.size;simp;omega) (fun k hk=>(hown1.lt k hk).1);go_wp2;go_roundw;case rel=>
   refine⟨y / 128,pre ++ [(y % 128+128).toUInt8],by go_num,by omega,by rw [hsplit,Lib.uvarint_big h128];simp,?_,hnx1⟩;have ec:((y % 128+128:Nat):Int)=(y:Int) % 128+128:=(by omega);rw [Lib.byteCells_snoc pre (by omega),aO,List.length_singleton,ec];exact hown'
  simp [intOf];omega
 have hsm:Lib.uvarint y=[y.toUInt8]:=Lib.uvarint_small (by omega);have hfin:=HV.o (pre ++ [y.toUInt8]) (by rw [hsplit,hsm]);go_wp2_with (at_builtin;refine wpList_append_own _ rfl _ _ 127 rfl w.heap.size 5 i0 (.int .u8 0) 1 1 underlying127 hi hz0 hz1 hz2 rfl (by decide) _ _ _ rfl (hown1.alloc _) ⟨wr,0,none⟩ 1 1 [Value.int .u8 (y:Int)] rfl rfl ?c1 ?c2 ?c3 ?c4 ?c5 ?_)
 case c1=>
  intro j u hj;match j,hj with
  | 0,hj=>simp at hj;subst hj;simp [Addr.add]
 case c2=>intro u hu;simp at hu;subst hu;rfl
 case c3=>unfold maxLen;omega
 case c4=>omega
 case c5=>have:=hnx.size;simp;omega
 intro v' w1 hown' hgrow _;have hnx1:Below w.heap.size w w1:=(hnx.alloc (by have:=hnx.size;omega) _).grown hgrow (by have:=hnx.size;simp;omega) (fun k hk=>(hown1.lt k hk).1);have hsn:=Lib.byteCells_snoc pre (show y<256 by omega);rw [←hsn]at hown';obtain⟨g,cap,cur,rfl,hgc⟩:∃g cap cur,v'=.slice (some ⟨g,0,none⟩) (pre ++ [y.toUInt8]).length cap∧w1.heap[g]?=some (.cells cur 5 (0,0)):=by
  rcases hown'.2 with ⟨_,h0⟩ | ⟨g,cap,cur,e,_,hg,_⟩
  ·omega
  exact⟨g,cap,cur,by rw [e];simp,hg⟩
 have hcv:=run_convert_bytes_back (P:=prog) w1 127 9 5 ⟨g,0,none⟩ cap (pre ++ [y.toUInt8]) underlying127 underlying5 underlying9 (fun j hj=>hown'.cells rfl j _ (ET _ hj));rw [hfin,aO,List.length_singleton]at hcv;rw [aO,List.length_singleton];go_wp2;go_ret;exact⟨rfl,bH.of_below hnx1⟩
def H6(l:List Int): List UInt8:=l.flatMap Qz
def lu(l:List Int): ByteArray:=⟨(H6 l).toArray⟩
theorem OC(a b:List UInt8): (⟨a.toArray⟩:ByteArray) ++ ⟨b.toArray⟩=⟨(a ++ b).toArray⟩:=by apply ByteArray.ext;simp
theorem JE(l:List Int)(z:Int): lu l ++ MZ z=lu (l ++ [z]):=by unfold lu MZ;rw [OC];simp [H6]
theorem Oa(z:Int): (MZ z).size≤10:=Lib.uvarint_length64 (AZ z)
theorem Dn:∀l:List Int,(H6 l).length≤l.length*10
 | []=>by simp [H6]
 | z :: l=>by have h:=Dn l;have h2:(Qz z).length≤10:=Lib.uvarint_length64 (AZ z);unfold H6 at *;rw [List.flatMap_cons,aO,List.length_cons];omega
theorem nT(l:List Int): (lu l).size≤l.length*10:=Dn l
theorem NQ{l:List Int}{k:Nat}(h:k<l.length): l.take k ++ [l.getD k 0]=l.take (k+1):=by rw [aT h];simp [List.getD,h]
theorem mP(l:List Int)(A:Option Addr)(n cap:Nat)(hl:n≤100000)(w:World)(h:dn w A n l):
  Calls prog 212 #[.slice A n cap] w fun e w'=>e=.returned (.string (lu l))∧bH [] w w':=by
 obtain⟨hn,hA⟩:=h;have HA:=lh hA;have HN:=lh hn;clear hA hn;go_enter func212,ntmps212;go_wp2_with fail
 go_loopw [3,8] (fun s3 s8 wr=>∃k:Nat,k≤n∧s3=.string (lu (l.take k))∧s8=k∧bH [] w wr) (fun _ s8 _=>n - (intOf s8).toNat);case atStart=>exact⟨0,by omega,rfl,rfl,bH.refl _ _⟩
 obtain⟨k,hk,rfl,rfl,T⟩:=hrel;by_cases hlt:k<n
 ·obtain⟨g,o,rfl,hc⟩:=HA.o k hlt;have hcell:wr.cell? ⟨g,o+k,none⟩=some (.int .i64 (l.getD k 0)):=((bY T).1 g _ (ai hc)).trans hc;have hs:=JE (l.take k) (l.getD k 0);rw [NQ (by rw [←HN.o];exact hlt)]at hs;have HS:=lh hs;have hsz:¬9223372036854775807<(lu (l.take k)).size+(MZ (l.getD k 0)).size:=by have h1:=nT (l.take k);have h2:=Oa (l.getD k 0);rw [List.length_take]at h1;omega
  clear hs hc;generalize l.getD k 0=z at *;have HV:=lh (fun u=>NL z u);have HT:=lh T;clear T;go_wp2_with (go_at_call 219;refine (HV.o _).mono ?_;rintro e w1 ⟨rfl,ht1⟩)
  go_roundw;case rel=>exact⟨k+1,by omega,by rw [←HS.o],by go_num,HT.o.trans ht1⟩
  simp [intOf];omega
 obtain rfl:k=n:=by omega
 have HT:=lh T;clear T;go_wp2_with fail
 go_ret;exact⟨by rw [HN.o,List.take_length];rfl,HT.o⟩
def U8(f:Fv)(ks cs:List Int): ByteArray:=lu [f.kind,f.Xf,(f.kn:Int)] ++ lu ks ++ lu [f.div,f.value,(f.cn:Int)] ++ lu cs
theorem kY{P:Program}{o:Oper}{a:Act}{w w':World}{t:TypeId}{x0 x1 x2:Operand}{y0 y1 y2 v:Value}(ho:o.op=.buildSlice t 3 #[(0,x0),(1,x1),(2,x2)])(h0:a.eval x0=y0)(h1:a.eval x1=y1)(h2:a.eval x2=y2)
  (hr:(Instr.buildSlice t 3 #[(0,y0),(1,y1),(2,y2)]).run P w=.ok v w'):(execOp a.eval o).run P w=.ok (.value v) w':=
 gm ho (by simp [h0,h1,h2]) hr
theorem xH(a b c:Int)(V:World): (Instr.buildSlice 22 3 #[(0,a),(1,b),(2,c)]).run prog V=.ok (.slice (some ⟨V,0,none⟩) 3 3) (V.alloc (.cells #[a,b,c] 3)):=by kernel_rfl
theorem mZ(a b c:Int)(V:World): dn (V.alloc (.cells #[a,b,c] 3)) (some ⟨V,0,none⟩) 3 [a,b,c]:=by
 refine⟨rfl,fun j hj=>⟨_,_,rfl,?_⟩⟩;rw [aA _ _ _ #[a,b,c] 3 (0,0) (heap_alloc_new V _),Nat.zero_add];match j,hj with
 | 0,_=>rfl
 | 1,_=>rfl
 | 2,_=>rfl
theorem JB(f:Fv)(ks cs:List Int)(w:World)(hk:dn w f.kA f.kn ks)(hc:dn w f.cA f.cn cs)(hkn:f.kn≤100000)(hcn:f.cn≤100000):
  Calls prog 197 #[f.v] w fun e w'=>e=.returned (.string (U8 f ks cs))∧bH [] w w':=by
 unfold U8;obtain⟨kind,Xf,kA,kn,kc,div,value,cA,cn,cc⟩:=f;simp only [Fv.v]at *;have hK:=fun u (t:bH [] w u)=>mP ks kA kn kc hkn u (hk.turn t);have hC:=fun u (t:bH [] w u)=>mP cs cA cn cc hcn u (hc.turn t);have h1:=fun (A:Option Addr) u (h:dn u A 3 [kind,Xf,(kn:Int)])=>mP [kind,Xf,(kn:Int)] A 3 3 (by decide) u h;have h2:=fun (A:Option Addr) u (h:dn u A 3 [div,value,(cn:Int)])=>mP [div,value,(cn:Int)] A 3 3 (by decide) u h;have zK:(lu ks).size≤1000000:=aK (nT _) (by have:=hk.1;omega);have zC:(lu cs).size≤1000000:=aK (nT _) (by have:=hc.1;omega);have z1:(lu [kind,Xf,(kn:Int)]).size≤30:=nT _;have z2:(lu [div,value,(cn:Int)]).size≤30:=nT _;generalize lu ks=sK at *;generalize lu cs=sC at *;generalize lu [kind,Xf,(kn:Int)]=s1 at *;generalize lu [div,value,(cn:Int)]=s2 at *;have n1:¬9223372036854775807<s1.size+sK.size:=by omega
 have n2:¬9223372036854775807<s1.size+sK.size+s2.size:=by omega
 have n3:¬9223372036854775807<s1.size+sK.size+s2.size+sC.size:=by omega
 have HK:=lh hK;have HC:=lh hC;have H1:=lh h1;have H2:=lh h2;clear hK hC h1 h2 hk hc zK zC z1 z2;obtain⟨W,hW⟩:∃W,W=(w.alloc (.cells #[kind,Xf,.slice kA kn kc,div,value,.slice cA cn cc] 83)):=⟨_,rfl⟩;have T0:bH [] w W:=hW ▸ (tR w).alloc _;have hWs:w.heap.size+1≤W.heap.size:=by rw [hW];simp
 obtain⟨q0_0,q0_1,q0_2,q0_3,q0_4,q0_5⟩:=WY (Rf hW);have zf:∀i,W.frozen? ⟨w,i,none⟩=false:=fun i=>by rw [hW];simp [go_sem]
 clear zf;go_enter func197,ntmps197;go_upto_region 1 with (fail)
 rw [←hW];clear hW;refine sN 27 (tR W) fun V hS=>?_;refine tk 0 (.pointer (some ⟨w,0,none⟩)) ?_;go_frame;refine tk 1 kind ?_ (hy:=fun w' hw=>by have e0_0:=tc hw q0_0;go_simp);go_frame;refine tk 2 (.pointer (some ⟨w,1,none⟩)) ?_;go_frame;refine tk 3 Xf ?_ (hy:=fun w' hw=>by have e0_1:=tc hw q0_1;go_simp);go_frame;refine tk 4 (.pointer (some ⟨w,2,none⟩)) ?_;go_frame;refine tk 5 (.slice kA kn kc) ?_ (hy:=fun w' hw=>by have e0_2:=tc hw q0_2;go_simp);go_frame;refine tk 6 kn ?_;go_frame;refine tk 9 (.pointer (some ⟨w,2,none⟩)) ?_;go_frame;refine tk 10 (.slice kA kn kc) ?_ (hy:=fun w' hw=>by have e0_2:=tc hw q0_2;go_simp);go_frame;refine tk 13 (.pointer (some ⟨w,3,none⟩)) ?_;go_frame;refine tk 14 div ?_ (hy:=fun w' hw=>by have e0_3:=tc hw q0_3;go_simp);go_frame;refine tk 15 (.pointer (some ⟨w,4,none⟩)) ?_;go_frame;refine tk 16 value ?_ (hy:=fun w' hw=>by have e0_4:=tc hw q0_4;go_simp);go_frame;refine tk 17 (.pointer (some ⟨w,5,none⟩)) ?_;go_frame;refine tk 18 (.slice cA cn cc) ?_ (hy:=fun w' hw=>by have e0_5:=tc hw q0_5;go_simp);go_frame;refine tk 19 cn ?_;go_frame;refine tk 23 (.pointer (some ⟨w,5,none⟩)) ?_;go_frame;refine tk 24 (.slice cA cn cc) ?_ (hy:=fun w' hw=>by have e0_5:=tc hw q0_5;go_simp);go_frame;refine cu.two (i:=7) (j:=20) rfl rfl (by kernel_rfl) rfl rfl (fun K hK=>?_) (fun K hK=>?_)
 ·refine bZ (d:=some 10) rfl (kY (x0:=.tmp 4) (x1:=.tmp 6) (x2:=.tmp 9) rfl rfl rfl rfl (xH kind Xf (kn:Int) V)) ?_;have ib1:=mZ kind Xf (kn:Int) V;have tb1:=hS.alloc (.cells #[kind,Xf,(kn:Int)] 3);generalize V.alloc (.cells #[kind,Xf,(kn:Int)] 3)=Zb1 at *;generalize V.heap.size=gb1 at *;refine hK _ _ (fun _=>tb1) ?_;clear hK K;try go_frame
  refine cu.two (i:=8) (j:=20) rfl rfl (by kernel_rfl) rfl rfl (fun K hK=>?_) (fun K hK=>?_)
  ·go_simp;refine (H1.o _ _ ib1).mono ?_;rintro e wc1 ⟨rfl,uc1⟩;have sc1:=tb1.trans uc1;refine hK _ _ (fun _=>sc1) ?_;clear hK K;(try go_frame);refine cu.two (i:=11) (j:=20) rfl rfl (by kernel_rfl) rfl rfl (fun K hK=>?_) (fun K hK=>?_)
   ·go_simp;refine (HK.o _ (T0.trans sc1)).mono ?_;rintro e wcK ⟨rfl,ucK⟩;have scK:=sc1.trans ucK;refine hK _ _ (fun _=>scK) ?_;clear hK K;(try go_frame);have hS:=scK;refine tk 12 (.string (s1 ++ sK)) ?_;go_frame;refine eH 20 fun K hK=>?_;refine bZ (d:=some 23) rfl (kY (x0:=.tmp 17) (x1:=.tmp 19) (x2:=.tmp 22) rfl rfl rfl rfl (xH div value (cn:Int) wcK)) ?_;have ib2:=mZ div value (cn:Int) wcK;have tb2:=scK.alloc (.cells #[div,value,(cn:Int)] 3);generalize wcK.alloc (.cells #[div,value,(cn:Int)] 3)=Zb2 at *;generalize wcK.heap.size=gb2 at *;refine hK _ _ (fun _=>tb2) ?_;clear hK K;(try go_frame);refine eH 21 fun K hK=>?_;go_simp;refine (H2.o _ _ ib2).mono ?_;rintro e wc2 ⟨rfl,uc2⟩;have sc2:=tb2.trans uc2;refine hK _ _ (fun _=>sc2) ?_;clear hK K;(try go_frame);have hS:=sc2;refine tk 22 (.string (s1 ++ sK ++ s2)) ?_;go_frame;refine eH 25 fun K hK=>?_;go_simp;refine (HC.o _ (T0.trans sc2)).mono ?_;rintro e wcC ⟨rfl,ucC⟩;have scC:=sc2.trans ucC;refine hK _ _ (fun _=>scC) ?_;clear hK K;(try go_frame);have hS:=scC;refine tk 26 (.string (s1 ++ sK ++ s2 ++ sC)) ?_;go_frame;refine iZ fun K hK=>?_;go_simp;refine hK _ _ ?_;clear hK K;(try go_frame);(go_wp2_with fail);go_ret;exact⟨rfl,T0.trans scC⟩
   refine bZ (d:=some 23) rfl (kY (x0:=.tmp 17) (x1:=.tmp 19) (x2:=.tmp 22) rfl rfl rfl rfl (xH div value (cn:Int) wc1)) ?_;have ib2:=mZ div value (cn:Int) wc1;have tb2:=sc1.alloc (.cells #[div,value,(cn:Int)] 3);generalize wc1.alloc (.cells #[div,value,(cn:Int)] 3)=Zb2 at *;generalize wc1.heap.size=gb2 at *;refine hK _ _ (fun _=>tb2) ?_;clear hK K;(try go_frame);refine eH 11 fun K hK=>?_;go_simp;refine (HK.o _ (T0.trans tb2)).mono ?_;rintro e wcK ⟨rfl,ucK⟩;have scK:=tb2.trans ucK;refine hK _ _ (fun _=>scK) ?_;clear hK K;(try go_frame);have ib2cK:=ib2.turn ucK;have hS:=scK;refine tk 12 (.string (s1 ++ sK)) ?_;go_frame;refine eH 21 fun K hK=>?_;go_simp;refine (H2.o _ _ ib2cK).mono ?_;rintro e wc2 ⟨rfl,uc2⟩;have sc2:=scK.trans uc2;refine hK _ _ (fun _=>sc2) ?_;clear hK K;(try go_frame);have hS:=sc2;refine tk 22 (.string (s1 ++ sK ++ s2)) ?_;go_frame;refine eH 25 fun K hK=>?_;go_simp;refine (HC.o _ (T0.trans sc2)).mono ?_;rintro e wcC ⟨rfl,ucC⟩;have scC:=sc2.trans ucC;refine hK _ _ (fun _=>scC) ?_;clear hK K;(try go_frame);have hS:=scC;refine tk 26 (.string (s1 ++ sK ++ s2 ++ sC)) ?_;go_frame;refine iZ fun K hK=>?_;go_simp;refine hK _ _ ?_;clear hK K;(try go_frame);(go_wp2_with fail);go_ret;exact⟨rfl,T0.trans scC⟩
  refine bZ (d:=some 23) rfl (kY (x0:=.tmp 17) (x1:=.tmp 19) (x2:=.tmp 22) rfl rfl rfl rfl (xH div value (cn:Int) Zb1)) ?_;have ib2:=mZ div value (cn:Int) Zb1;have ib1b2:=ib1.turn ((tR Zb1).alloc (.cells #[div,value,(cn:Int)] 3));have tb2:=tb1.alloc (.cells #[div,value,(cn:Int)] 3);generalize Zb1.alloc (.cells #[div,value,(cn:Int)] 3)=Zb2 at *;generalize Zb1.heap.size=gb2 at *;refine hK _ _ (fun _=>tb2) ?_;clear hK K;try go_frame
  refine eH 8 fun K hK=>?_;go_simp;refine (H1.o _ _ ib1b2).mono ?_;rintro e wc1 ⟨rfl,uc1⟩;have sc1:=tb2.trans uc1;refine hK _ _ (fun _=>sc1) ?_;clear hK K;try go_frame
  have ib2c1:=ib2.turn uc1;refine eH 11 fun K hK=>?_;go_simp;refine (HK.o _ (T0.trans sc1)).mono ?_;rintro e wcK ⟨rfl,ucK⟩;have scK:=sc1.trans ucK;refine hK _ _ (fun _=>scK) ?_;clear hK K;try go_frame
  have ib2cK:=ib2c1.turn ucK;have hS:=scK;refine tk 12 (.string (s1 ++ sK)) ?_;go_frame;refine eH 21 fun K hK=>?_;go_simp;refine (H2.o _ _ ib2cK).mono ?_;rintro e wc2 ⟨rfl,uc2⟩;have sc2:=scK.trans uc2;refine hK _ _ (fun _=>sc2) ?_;clear hK K;try go_frame
  have hS:=sc2;refine tk 22 (.string (s1 ++ sK ++ s2)) ?_;go_frame;refine eH 25 fun K hK=>?_;go_simp;refine (HC.o _ (T0.trans sc2)).mono ?_;rintro e wcC ⟨rfl,ucC⟩;have scC:=sc2.trans ucC;refine hK _ _ (fun _=>scC) ?_;clear hK K;try go_frame
  have hS:=scC;refine tk 26 (.string (s1 ++ sK ++ s2 ++ sC)) ?_;go_frame;refine iZ fun K hK=>?_;go_simp;refine hK _ _ ?_;clear hK K;try go_frame
  go_wp2_with fail
  go_ret;exact⟨rfl,T0.trans scC⟩
 refine bZ (d:=some 23) rfl (kY (x0:=.tmp 17) (x1:=.tmp 19) (x2:=.tmp 22) rfl rfl rfl rfl (xH div value (cn:Int) V)) ?_;have ib2:=mZ div value (cn:Int) V;have tb2:=hS.alloc (.cells #[div,value,(cn:Int)] 3);generalize V.alloc (.cells #[div,value,(cn:Int)] 3)=Zb2 at *;generalize V.heap.size=gb2 at *;refine hK _ _ (fun _=>tb2) ?_;clear hK K;try go_frame
 refine eH 7 fun K hK=>?_;refine bZ (d:=some 10) rfl (kY (x0:=.tmp 4) (x1:=.tmp 6) (x2:=.tmp 9) rfl rfl rfl rfl (xH kind Xf (kn:Int) Zb2)) ?_;have ib1:=mZ kind Xf (kn:Int) Zb2;have ib2b1:=ib2.turn ((tR Zb2).alloc (.cells #[kind,Xf,(kn:Int)] 3));have tb1:=tb2.alloc (.cells #[kind,Xf,(kn:Int)] 3);generalize Zb2.alloc (.cells #[kind,Xf,(kn:Int)] 3)=Zb1 at *;generalize Zb2.heap.size=gb1 at *;refine hK _ _ (fun _=>tb1) ?_;clear hK K;try go_frame
 refine eH 8 fun K hK=>?_;go_simp;refine (H1.o _ _ ib1).mono ?_;rintro e wc1 ⟨rfl,uc1⟩;have sc1:=tb1.trans uc1;refine hK _ _ (fun _=>sc1) ?_;clear hK K;try go_frame
 have ib2c1:=ib2b1.turn uc1;refine eH 11 fun K hK=>?_;go_simp;refine (HK.o _ (T0.trans sc1)).mono ?_;rintro e wcK ⟨rfl,ucK⟩;have scK:=sc1.trans ucK;refine hK _ _ (fun _=>scK) ?_;clear hK K;try go_frame
 have ib2cK:=ib2c1.turn ucK;have hS:=scK;refine tk 12 (.string (s1 ++ sK)) ?_;go_frame;refine eH 21 fun K hK=>?_;go_simp;refine (H2.o _ _ ib2cK).mono ?_;rintro e wc2 ⟨rfl,uc2⟩;have sc2:=scK.trans uc2;refine hK _ _ (fun _=>sc2) ?_;clear hK K;try go_frame
 have hS:=sc2;refine tk 22 (.string (s1 ++ sK ++ s2)) ?_;go_frame;refine eH 25 fun K hK=>?_;go_simp;refine (HC.o _ (T0.trans sc2)).mono ?_;rintro e wcC ⟨rfl,ucC⟩;have scC:=sc2.trans ucC;refine hK _ _ (fun _=>scC) ?_;clear hK K;try go_frame
 have hS:=scC;refine tk 26 (.string (s1 ++ sK ++ s2 ++ sC)) ?_;go_frame;refine iZ fun K hK=>?_;go_simp;refine hK _ _ ?_;clear hK K;try go_frame
 go_wp2_with fail
 go_ret;exact⟨rfl,T0.trans scC⟩
def QE(d:df)(n:Int): Int:=if vC n ((d.ln:Int)+1)=(d.ln:Int) then n else d.ids.getD (vC n ((d.ln:Int)+1)).toNat 0
theorem QN(d:df)(n:Int)(w:World)(h:d.At w): Calls prog 10 #[d.v,n] w fun e w'=>e=.returned (.int .i64 (QE d n))∧bH [] w w':=by
 have hsm:=h.small;have hln:=h.layers.1;have hr:=fun u=>(IJ n ((d.ln:Int)+1) (by omega) (by omega) u).mono fun e w' (hh:e=_∧w'=u)=>(show e=_∧u=w' from ⟨hh.1,hh.2.symm⟩);obtain⟨k0,k1⟩:=GM n (n:=(d.ln:Int)+1) (by omega);have hw:wrap64 ((d.ln:Int)+1)=(d.ln:Int)+1:=gV (by omega) (by omega);obtain⟨W,hW⟩:∃W,W=w.alloc (.cells #[.slice d.sA d.sn d.sc,d.root,d.next,.slice d.lA d.ln d.lc] 29):=⟨_,rfl⟩;have T0:bH [] w W:=by rw [hW];exact (tR w).alloc _
 have x0:W.heap[w.heap.size]?=some (.cells #[.slice d.sA d.sn d.sc,d.root,d.next,.slice d.lA d.ln d.lc] 29 (0,0)):=by rw [hW];exact heap_alloc_new _ _
 have q3:=bK x0 (i:=3) (v:=.slice d.lA d.ln d.lc) rfl;have hl:=(h.turn T0).layers;have hres:QE d n=if vC n ((d.ln:Int)+1)=(d.ln:Int) then n else d.ids.getD (vC n ((d.ln:Int)+1)).toNat 0:=rfl
 rw [hres];generalize vC n ((d.ln:Int)+1)=kk at *;obtain⟨k,rfl⟩:=Int.eq_ofNat_of_zero_le k0;have HR:=lh hr;have HT:=lh T0;have HL:=lh hl;have HLN:=lh hln;clear hr T0 hl x0 h hln hres;unfold df.v;by_cases hk:k=d.ln
 ·rw [aG (by omega)];go_enter func10,ntmps10;go_upto_region 1 with fail
  rw [←hW];clear hW;have hkk:((k:Int) == (d.ln:Int))=true:=by simp [hk]
  go_wp2_with (go_at_call 21;refine (HR.o _).mono ?_;rintro e w1 ⟨rfl,rfl⟩)
  go_ret;exact⟨rfl,HT.o⟩
 rw [aF (by omega)];have hlt:k<d.layers.length:=by rw [←HLN.o];omega
 obtain⟨hzz,g,o,e,hrow⟩:=HL.o.2 k d.layers[k] (aB hlt);have hid:d.ids.getD k 0=d.layers[k].id:=by unfold df.ids;simp [List.getD,aB hlt]
 have hc:=hrow 0 (.int .i64 d.layers[k].id) rfl;rw [←hid,Nat.add_zero]at hc;rw [Int.toNat_natCast];generalize d.ids.getD k 0=z at *;have hkk:((k:Int) == (d.ln:Int))=false:=by simp;omega
 have b0:(0:Int)≤(k:Int):=by omega
 have b1:(k:Int)<(d.ln:Int):=by omega
 rw [e]at hW q3;rw [e];clear hrow hid hzz hlt e;go_enter func10,ntmps10;go_upto_region 1 with fail
 rw [←hW];clear hW;go_wp2_with (go_at_call 21;refine (HR.o _).mono ?_;rintro e w1 ⟨rfl,rfl⟩)
 go_ret;exact⟨rfl,HT.o⟩
def P9(w:World)(A:Option Addr)(n:Nat)(ds:List ug): Prop:=n=ds.length∧∀(j:Nat) (x:ug),ds[j]?=some x→∃g o,A=some ⟨g,o,none⟩∧w.rangeAt g (o+j*6) x.row
theorem P9.turn{w w':World}{A:Option Addr}{n:Nat}{ds:List ug}(h:P9 w A n ds)(T:bH [] w w'): P9 w' A n ds:=
 ⟨h.1,fun j x hx=>by
  obtain⟨g,o,e,hr⟩:=h.2 j x hx;exact⟨g,o,e,fJ T hr⟩⟩
theorem VO.slice{w:World}{base:Nat}{v:Value}{ds:List ug}(h:VO w base v ds): ∃A n c,v=.slice A n c:=by rcases iK.form h with ⟨e,_⟩ | ⟨_,_,_,e,_⟩ <;> exact⟨_,_,_,e⟩
end Go.Proofs.YtbpklgllihhgpaaGreat
