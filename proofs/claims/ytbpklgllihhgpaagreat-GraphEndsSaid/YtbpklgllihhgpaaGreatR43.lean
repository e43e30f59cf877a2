import Derived.Lib.VarintMem
import Derived.Lib.Walk
import Derived.OwnWalk
import Derived.Laws.IdiomStrings
import Derived.Test.YtbpklgllihhgpaaGreatR39
set_option maxRecDepth 100000
set_option maxHeartbeats 16000000
namespace Go.Proofs.YtbpklgllihhgpaaGreat
open Tryz Go.RowKit Go.Den
theorem infoU8:(prog.info? 5).map (fun i=>(i.zero,i.size,i.bytes))=some (some (.int .u8 0),1,1):=by kernel_rfl
theorem Turn.of_below{w w':World}(h:Below w.heap.size w w'): Turn [] w w':=⟨h.size,fun j hj _=>h.block j hj,h.os,h.tape,h.output⟩
def u64of(n:Int): Nat:=(n.emod 18446744073709551616).toNat
def varL(n:Int): List UInt8:=Lib.uvarint (u64of n)
def varB(n:Int): ByteArray:=⟨(varL n).toArray⟩
theorem u64of_lt(n:Int): u64of n<18446744073709551616:=by have h:=Int.emod_lt_of_pos n (show (0:Int)<18446744073709551616 by decide);have h0:=Int.emod_nonneg n (show (18446744073709551616:Int)≠0 by decide);show (n % 18446744073709551616).toNat < _;omega
theorem u64of_wrap(n:Int): IntKind.u64.wrap n=(u64of n:Int):=by
 have h0:=Int.emod_nonneg n (show (18446744073709551616:Int)≠0 by decide);have e:(u64of n:Int)=n % 18446744073709551616:=by show (((n % 18446744073709551616).toNat:Nat):Int)=_;omega
 rw [e];simp [IntKind.wrap,IntKind.bits,IntKind.signed]
theorem byteCells_at(l:List UInt8){j:Nat}(hj:j<l.length): (Lib.byteCells l)[j]?=some (.int .u8 (l[j].toNat:Int)):=by unfold Lib.byteCells;rw [List.getElem?_map,List.getElem?_eq_getElem hj];rfl
theorem octet_var(n:Int)(w:World): Calls prog 219 #[n] w fun e w'=>e=.returned (.string (varB n))∧Turn [] w w':=by
 obtain⟨i0,hi,hz0,hz1,hz2⟩:=info_parts infoU8;have hx:=u64of_lt n;have hvb:∀(l:List UInt8),varL n=l→(Value.string ⟨l.toArray⟩:Value)=.string (varB n):=fun l h=>by rw [←h];rfl
 unfold varL at hvb;have hw:=u64of_wrap n;generalize u64of n=x at *;have HV:=lh hvb;clear hvb;go_enter func219,ntmps219;go_wp2;go_loopw [3,4] (fun vb vx wr=>∃(y:Nat) (pre:List UInt8),vx=.int .u64 y∧y≤x∧Lib.uvarint x=pre ++ Lib.uvarint y∧wr.ownsRow w.heap.size 5 1 vb pre.length (Lib.byteCells pre)∧Below w.heap.size w wr)
  (fun _ vx _=>(intOf vx).toNat)
 case atStart=>exact⟨x,[],by first | rfl | (rw [hw]),Nat.le_refl _,rfl,⟨by simp [Lib.byteCells],.inl ⟨rfl,rfl⟩⟩,Below.refl _ _⟩
 obtain⟨y,pre,rfl,hy,hsplit,hown1,hnx⟩:=hrel;have hlen:=Lib.uvarint_length64 hx;have hpl:pre.length+(Lib.uvarint y).length≤10:=by have h2:=congrArg List.length hsplit;rw [List.length_append]at h2;omega
 have hyp:=Lib.uvarint_pos y;by_cases h128:128≤y
 ·have hor:bits .or .u8 ((y:Int) % 256) 128=((y % 128+128:Nat):Int):=by rw [Lib.u8_or128_any _ (by omega) (by omega)];omega
  go_wp2_with (at_builtin;refine wpList_append_own _ rfl _ _ 127 rfl w.heap.size 5 i0 (.int .u8 0) 1 1 underlying127 hi hz0 hz1 hz2 rfl (by decide) _ _ _ rfl (hown1.alloc _) ⟨wr,0,none⟩ 1 1 [Value.int .u8 ((y % 128+128:Nat):Int)] rfl rfl ?c1 ?c2 ?c3 ?c4 ?c5 ?_)
  case c1=>
   intro j u hj;match j,hj with
   | 0,hj=>simp at hj;subst hj;simp [Addr.add]
  case c2=>intro u hu;simp at hu;subst hu;rfl
  case c3=>unfold maxLen;omega
  case c4=>omega
  case c5=>have:=hnx.size;simp;omega
  intro v' w1 hown' hgrow _;have hnx1:Below w.heap.size w w1:=(hnx.alloc (by have:=hnx.size;omega) _).grown hgrow (by have:=hnx.size;simp;omega) (fun k hk=>(hown1.lt k hk).1);go_wp2;go_roundw;case rel=>
   refine⟨y / 128,pre ++ [(y % 128+128).toUInt8],by go_num,by omega,by rw [hsplit,Lib.uvarint_big h128];simp,?_,hnx1⟩;have ec:((y % 128+128:Nat):Int)=(y:Int) % 128+128:=(by omega);rw [Lib.byteCells_snoc pre (by omega),List.length_append,List.length_singleton,ec];exact hown'
  simp [intOf];omega
 have hsm:Lib.uvarint y=[y.toUInt8]:=Lib.uvarint_small (by omega);have hfin:=HV.out (pre ++ [y.toUInt8]) (by rw [hsplit,hsm]);go_wp2_with (at_builtin;refine wpList_append_own _ rfl _ _ 127 rfl w.heap.size 5 i0 (.int .u8 0) 1 1 underlying127 hi hz0 hz1 hz2 rfl (by decide) _ _ _ rfl (hown1.alloc _) ⟨wr,0,none⟩ 1 1 [Value.int .u8 (y:Int)] rfl rfl ?c1 ?c2 ?c3 ?c4 ?c5 ?_)
 case c1=>
  intro j u hj;match j,hj with
  | 0,hj=>simp at hj;subst hj;simp [Addr.add]
 case c2=>intro u hu;simp at hu;subst hu;rfl
 case c3=>unfold maxLen;omega
 case c4=>omega
 case c5=>have:=hnx.size;simp;omega
 intro v' w1 hown' hgrow _;have hnx1:Below w.heap.size w w1:=(hnx.alloc (by have:=hnx.size;omega) _).grown hgrow (by have:=hnx.size;simp;omega) (fun k hk=>(hown1.lt k hk).1);have hsn:=Lib.byteCells_snoc pre (show y<256 by omega);rw [←hsn]at hown';obtain⟨g,cap,cur,rfl,hgc⟩:∃g cap cur,v'=.slice (some ⟨g,0,none⟩) (pre ++ [y.toUInt8]).length cap∧w1.heap[g]?=some (.cells cur 5 (0,0)):=by
  rcases hown'.2 with ⟨_,h0⟩ | ⟨g,cap,cur,e,_,hg,_⟩
  ·omega
  exact⟨g,cap,cur,by rw [e];simp,hg⟩
 have hcv:=run_convert_bytes_back (P:=prog) w1 127 9 5 ⟨g,0,none⟩ cap (pre ++ [y.toUInt8]) underlying127 underlying5 underlying9 (fun j hj=>hown'.cells rfl j _ (byteCells_at _ hj));rw [hfin,List.length_append,List.length_singleton]at hcv;rw [List.length_append,List.length_singleton];go_wp2;go_ret;exact⟨rfl,Turn.of_below hnx1⟩
def numsL(l:List Int): List UInt8:=l.flatMap varL
def numsB(l:List Int): ByteArray:=⟨(numsL l).toArray⟩
theorem bytes_add(a b:List UInt8): (⟨a.toArray⟩:ByteArray) ++ ⟨b.toArray⟩=⟨(a ++ b).toArray⟩:=by apply ByteArray.ext;simp
theorem numsB_snoc(l:List Int)(z:Int): numsB l ++ varB z=numsB (l ++ [z]):=by unfold numsB varB;rw [bytes_add];simp [numsL]
theorem varB_size(z:Int): (varB z).size≤10:=Lib.uvarint_length64 (u64of_lt z)
theorem numsL_len:∀l:List Int,(numsL l).length≤l.length*10
 | []=>by simp [numsL]
 | z :: l=>by have h:=numsL_len l;have h2:(varL z).length≤10:=Lib.uvarint_length64 (u64of_lt z);unfold numsL at *;rw [List.flatMap_cons,List.length_append,List.length_cons];omega
theorem numsB_size(l:List Int): (numsB l).size≤l.length*10:=numsL_len l
theorem take_next{l:List Int}{k:Nat}(h:k<l.length): l.take k ++ [l.getD k 0]=l.take (k+1):=by rw [List.take_succ_eq_append_getElem h];simp [List.getD,h]
theorem filt_numbers(l:List Int)(A:Option Addr)(n cap:Nat)(hl:n≤100000)(w:World)(h:IntsAt w A n l):
  Calls prog 212 #[.slice A n cap] w fun e w'=>e=.returned (.string (numsB l))∧Turn [] w w':=by
 obtain⟨hn,hA⟩:=h;have HA:=lh hA;have HN:=lh hn;clear hA hn;go_enter func212,ntmps212;go_wp2_with fail
 go_loopw [3,8] (fun s3 s8 wr=>∃k:Nat,k≤n∧s3=.string (numsB (l.take k))∧s8=k∧Turn [] w wr) (fun _ s8 _=>n - (intOf s8).toNat);case atStart=>exact⟨0,by omega,rfl,rfl,Turn.refl _ _⟩
 obtain⟨k,hk,rfl,rfl,T⟩:=hrel;by_cases hlt:k<n
 ·obtain⟨g,o,rfl,hc⟩:=HA.out k hlt;have hcell:wr.cell? ⟨g,o+k,none⟩=some (.int .i64 (l.getD k 0)):=((tcell T).1 g _ (block_lt_of_cell hc)).trans hc;have hs:=numsB_snoc (l.take k) (l.getD k 0);rw [take_next (by rw [←HN.out];exact hlt)]at hs;have HS:=lh hs;have hsz:¬9223372036854775807<(numsB (l.take k)).size+(varB (l.getD k 0)).size:=by have h1:=numsB_size (l.take k);have h2:=varB_size (l.getD k 0);rw [List.length_take]at h1;omega
  clear hs hc;generalize l.getD k 0=z at *;have HV:=lh (fun u=>octet_var z u);have HT:=lh T;clear T;go_wp2_with (go_at_call 219;refine (HV.out _).mono ?_;rintro e w1 ⟨rfl,ht1⟩)
  go_roundw;case rel=>exact⟨k+1,by omega,by rw [←HS.out],by go_num,HT.out.trans ht1⟩
  simp [intOf];omega
 obtain rfl:k=n:=by omega
 have HT:=lh T;clear T;go_wp2_with fail
 go_ret;exact⟨by rw [HN.out,List.take_length];rfl,HT.out⟩
def someM(d:DocM)(n:Int): Int:=if restM n ((d.ln:Int)+1)=(d.ln:Int) then n else d.ids.getD (restM n ((d.ln:Int)+1)).toNat 0
theorem law_some(d:DocM)(n:Int)(w:World)(h:d.At w): Calls prog 10 #[d.v,n] w fun e w'=>e=.returned (.int .i64 (someM d n))∧Turn [] w w':=by
 have hsm:=h.small;have hln:=h.layers.1;have hr:=fun u=>(law_rest n ((d.ln:Int)+1) (by omega) (by omega) u).mono fun e w' (hh:e=_∧w'=u)=>(show e=_∧u=w' from ⟨hh.1,hh.2.symm⟩);obtain⟨k0,k1⟩:=restM_bd n (n:=(d.ln:Int)+1) (by omega);have hw:wrap64 ((d.ln:Int)+1)=(d.ln:Int)+1:=wrap_bd (by omega) (by omega);obtain⟨W,hW⟩:∃W,W=w.alloc (.cells #[.slice d.sA d.sn d.sc,d.root,d.next,.slice d.lA d.ln d.lc] 29):=⟨_,rfl⟩;have T0:Turn [] w W:=by rw [hW];exact (tR w).alloc _
 have x0:W.heap[w.heap.size]?=some (.cells #[.slice d.sA d.sn d.sc,d.root,d.next,.slice d.lA d.ln d.lc] 29 (0,0)):=by rw [hW];exact heap_alloc_new _ _
 have q3:=cell_of x0 (i:=3) (v:=.slice d.lA d.ln d.lc) rfl;have hl:=(h.turn T0).layers;have hres:someM d n=if restM n ((d.ln:Int)+1)=(d.ln:Int) then n else d.ids.getD (restM n ((d.ln:Int)+1)).toNat 0:=rfl
 rw [hres];generalize restM n ((d.ln:Int)+1)=kk at *;obtain⟨k,rfl⟩:=Int.eq_ofNat_of_zero_le k0;have HR:=lh hr;have HT:=lh T0;have HL:=lh hl;have HLN:=lh hln;clear hr T0 hl x0 h hln hres;unfold DocM.v;by_cases hk:k=d.ln
 ·rw [if_pos (by omega)];go_enter func10,ntmps10;go_upto_region 1 with fail
  rw [←hW];clear hW;have hkk:((k:Int) == (d.ln:Int))=true:=by simp [hk]
  go_wp2_with (go_at_call 21;refine (HR.out _).mono ?_;rintro e w1 ⟨rfl,rfl⟩)
  go_ret;exact⟨rfl,HT.out⟩
 rw [if_neg (by omega)];have hlt:k<d.layers.length:=by rw [←HLN.out];omega
 obtain⟨hzz,g,o,e,hrow⟩:=HL.out.2 k d.layers[k] (List.getElem?_eq_getElem hlt);have hid:d.ids.getD k 0=d.layers[k].id:=by unfold DocM.ids;simp [List.getD,List.getElem?_eq_getElem hlt]
 have hc:=hrow 0 (.int .i64 d.layers[k].id) rfl;rw [←hid,Nat.add_zero]at hc;rw [Int.toNat_natCast];generalize d.ids.getD k 0=z at *;have hkk:((k:Int) == (d.ln:Int))=false:=by simp;omega
 have b0:(0:Int)≤(k:Int):=by omega
 have b1:(k:Int)<(d.ln:Int):=by omega
 rw [e]at hW q3;rw [e];clear hrow hid hzz hlt e;go_enter func10,ntmps10;go_upto_region 1 with fail
 rw [←hW];clear hW;go_wp2_with (go_at_call 21;refine (HR.out _).mono ?_;rintro e w1 ⟨rfl,rfl⟩)
 go_ret;exact⟨rfl,HT.out⟩
def RowsD(w:World)(A:Option Addr)(n:Nat)(ds:List DepM): Prop:=n=ds.length∧∀(j:Nat) (x:DepM),ds[j]?=some x→∃g o,A=some ⟨g,o,none⟩∧w.rangeAt g (o+j*6) x.row
theorem RowsD.turn{w w':World}{A:Option Addr}{n:Nat}{ds:List DepM}(h:RowsD w A n ds)(T:Turn [] w w'): RowsD w' A n ds:=
 ⟨h.1,fun j x hx=>by
  obtain⟨g,o,e,hr⟩:=h.2 j x hx;exact⟨g,o,e,range_turn T hr⟩⟩
theorem OwnD.rowsD{w:World}{base:Nat}{A:Option Addr}{n c:Nat}{ds:List DepM}(h:OwnD w base (.slice A n c) ds): RowsD w A n ds:=by have hr:=Own.rowsAt h;refine⟨by have:=hr.2;rw [List.length_map]at this;exact this,fun j x hx=>?_⟩;exact hr.1 j x.row (by rw [List.getElem?_map,hx];rfl)
theorem OwnD.slice{w:World}{base:Nat}{v:Value}{ds:List DepM}(h:OwnD w base v ds): ∃A n c,v=.slice A n c:=by rcases Own.form h with ⟨e,_⟩ | ⟨_,_,_,e,_⟩ <;> exact⟨_,_,_,e⟩
theorem law_same(ds:List DepM)(hds:ds.length≤1000)(A1 A2:Option Addr)(n1 n2 c1 c2:Nat)(w:World)(h1:RowsD w A1 n1 ds)(h2:RowsD w A2 n2 ds):
  Calls prog 12 #[.slice A1 n1 c1,.slice A2 n2 c2] w fun e w'=>e=.returned (.bool true)∧Turn [] w w':=by
 obtain rfl:n1=n2:=h1.1.trans h2.1.symm;have hn:n1=ds.length:=h1.1;have H1:=lh h1.2;have H2:=lh h2.2;have HN:=lh hn;have hb:n1≤1000:=by omega
 have hnn:((n1:Int) != (n1:Int))=false:=by simp
 clear h1 h2 hn hds;go_enter func12,ntmps12;go_wp2_with fail
 clear hnn;go_loopw [5] (fun s5 wr=>∃i:Nat,i≤n1∧s5=i∧∃q,wr=w.drewN q) (fun s5 _=>n1 - (intOf s5).toNat);case atStart=>exact⟨0,by omega,rfl,0,rfl⟩
 obtain⟨i,hi,rfl,q,hq⟩:=hrel;have HQ:=lh hq;clear hq;by_cases hlt:i<n1
 ·have hx:ds[i]?=some ds[i]:=List.getElem?_eq_getElem (by rw [←HN.out];exact hlt);obtain⟨g1,o1,rfl,r1⟩:=H1.out i _ hx;obtain⟨g2,o2,rfl,r2⟩:=H2.out i _ hx;generalize ds[i]=x at *;have hw:wr=w.drewN q:=HQ.out;have p0:wr.cell? ⟨g1,o1+i*6,none⟩=some (.int .i64 x.layer):=by rw [hw];exact r1 0 _ rfl
  have p1:wr.cell? ⟨g1,o1+i*6+1,none⟩=some (.bool x.below):=by rw [hw];exact r1 1 _ rfl
  have p2:wr.cell? ⟨g1,o1+i*6+2,none⟩=some (.int .i64 x.r.x0):=by rw [hw];exact r1 2 _ rfl
  have p3:wr.cell? ⟨g1,o1+i*6+3,none⟩=some (.int .i64 x.r.y0):=by rw [hw];exact r1 3 _ rfl
  have p4:wr.cell? ⟨g1,o1+i*6+4,none⟩=some (.int .i64 x.r.x1):=by rw [hw];exact r1 4 _ rfl
  have p5:wr.cell? ⟨g1,o1+i*6+5,none⟩=some (.int .i64 x.r.y1):=by rw [hw];exact r1 5 _ rfl
  have q0:wr.cell? ⟨g2,o2+i*6,none⟩=some (.int .i64 x.layer):=by rw [hw];exact r2 0 _ rfl
  have q1:wr.cell? ⟨g2,o2+i*6+1,none⟩=some (.bool x.below):=by rw [hw];exact r2 1 _ rfl
  have q2:wr.cell? ⟨g2,o2+i*6+2,none⟩=some (.int .i64 x.r.x0):=by rw [hw];exact r2 2 _ rfl
  have q3:wr.cell? ⟨g2,o2+i*6+3,none⟩=some (.int .i64 x.r.y0):=by rw [hw];exact r2 3 _ rfl
  have q4:wr.cell? ⟨g2,o2+i*6+4,none⟩=some (.int .i64 x.r.x1):=by rw [hw];exact r2 4 _ rfl
  have q5:wr.cell? ⟨g2,o2+i*6+5,none⟩=some (.int .i64 x.r.y1):=by rw [hw];exact r2 5 _ rfl
  have b0:(0:Int)≤(i:Int):=by omega
  have b1:(i:Int)<(n1:Int):=by omega
  clear r1 r2 hx hw;go_upto_region 6 with fail
  go_quiet (fail)
  go_wp2_with fail
  go_roundw;case rel=>exact⟨i+1,by omega,by go_num,q+nq,by rw [HQ.out,World.drewN_drewN]⟩
  simp [intOf];omega
 obtain rfl:i=n1:=by omega
 go_wp2_with fail
 go_ret;exact⟨rfl,by rw [HQ.out];exact (tR w).drawn q⟩
end Go.Proofs.YtbpklgllihhgpaaGreat
