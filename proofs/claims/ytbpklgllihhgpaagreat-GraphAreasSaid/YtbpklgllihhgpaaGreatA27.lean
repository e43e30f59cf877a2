import Derived.Laws.Externs
import Derived.Lib.Bytealg
import Derived.Test.YtbpklgllihhgpaaGreatA24
set_option maxRecDepth 100000
set_option maxHeartbeats 16000000
namespace Go.Proofs.YtbpklgllihhgpaaGreat
open Tryz Go.RowKit Go.Den
def jJ(ls:List bI)(id:Int)(i:Nat): Nat:=(((ls.take i).map (·.kids)).flatten).count id
def pM(ls:List bI)(root:Int)(l:bI): Bool:=l.kids.all (fun k=>(mW (ls.map (·.id)) k).isSome) && (if l.id=root then jJ ls l.id ls.length == 0 else jJ ls l.id ls.length == 1)
theorem wW{ls:List bI}{id:Int}{i:Nat}{l:bI}(hl:ls[i]?=some l): jJ ls id (i+1)=jJ ls id i+l.kids.count id:=by unfold jJ;obtain⟨h1,h2⟩:=ah.1 hl;rw [aT h1,h2];simp [List.count_append]
theorem BC{c:List Int}{id:Int}{k:Nat}(hk:k<c.length): (c.take (k+1)).count id=(c.take k).count id+if c.getD k 0=id then 1 else 0:=by
 rw [aT hk,List.count_append];have:c.getD k 0=c[k]:=by simp [List.getD,hk]
 rw [this,List.count_singleton];simp
theorem G9(q n:Nat): ((q:Int) == (n:Int))=(q == n):=by
 cases h:(q == n)with
 | true=>
  have:q=n:=by simpa using h
  subst this;exact beq_self_eq_true _
 | false=>
  have h1:¬q=n:=fun e=>by subst e;rw [beq_self_eq_true]at h;cases h
  have h2:¬(q:Int)=(n:Int):=by omega
  exact beq_eq_false_iff_ne.2 h2
theorem PS(d:df)(l:bI)(w:World)(h:d.At w)(hl:l.At w): Calls prog 72 #[d.v,l.v] w fun e w'=>e=.returned (.bool (pM d.layers d.root l))∧bH [] w w':=by
 have hA:=fun x=>uD d x;have hC:=fun h1=>h.layers.cell h1;have hn:=h.layers.1;have hsm:=h.small;have hid:d.ids=d.layers.map (·.id):=rfl;have HD:=lh h;clear h;generalize hgi:d.ids=ids at *;obtain⟨sA,sn,sc,spaces,root,next,lA,ln,lc,layers⟩:=d;simp only [df.v]at *;have hp:=jg l (w.alloc (.cells #[.slice sA sn sc,root,next,.slice lA ln lc] 29)) 89;have T0:=((tR w).alloc (.cells #[.slice sA sn sc,root,next,.slice lA ln lc] 29)).alloc (.cells ⟨l.row⟩ 89);have q0:((w.alloc (.cells #[.slice sA sn sc,root,next,.slice lA ln lc] 29)).alloc (.cells ⟨l.row⟩ 89)).cell? ⟨w,0,none⟩=some (.slice sA sn sc):=by simp [go_sem]
 have q1:((w.alloc (.cells #[.slice sA sn sc,root,next,.slice lA ln lc] 29)).alloc (.cells ⟨l.row⟩ 89)).cell? ⟨w,1,none⟩=some (.int .i64 root):=by simp [go_sem]
 have q2:((w.alloc (.cells #[.slice sA sn sc,root,next,.slice lA ln lc] 29)).alloc (.cells ⟨l.row⟩ 89)).cell? ⟨w,2,none⟩=some (.int .i64 next):=by simp [go_sem]
 have q3:((w.alloc (.cells #[.slice sA sn sc,root,next,.slice lA ln lc] 29)).alloc (.cells ⟨l.row⟩ 89)).cell? ⟨w,3,none⟩=some (.slice lA ln lc):=by simp [go_sem]
 have hz:(w.alloc (.cells #[.slice sA sn sc,root,next,.slice lA ln lc] 29)).heap.size=w.heap.size+1:=by simp only [aI]
 rw [hz]at hp;have p0:=kQ hp 0 l.id rfl;have p15:=kQ hp 15 (.slice l.Xi l.Xh l.Xj) rfl;have hkb:=hl.Xk;have hki:=hl.kids;clear hp hz;unfold bI.v;generalize l.row=row at *;generalize l.Xi=kA at *;generalize l.Xh=kn at *;generalize l.Xj=kc at *;have HK:=lh hki;have HA:=lh hA;have HC:=lh hC;have HN:=lh hn;have HID:=lh hid;clear hki hA hC hn hid hl hgi;go_enter func72,ntmps72;go_wp2_with fail
 generalize (w.alloc (.cells #[.slice sA sn sc,root,next,.slice lA ln lc] 29)).alloc (.cells ⟨row⟩ 89)=W at *;have mv:∀{b i:Nat} {v:Value},W.cell? ⟨b,i,none⟩=some v→∀w',bH [] W w'→w'.cell? ⟨b,i,none⟩=some v:=fun h w' T=>by rw [(bY T).1 _ _ (ai h)];exact h
 have HK2:Hid (∀w',bH [] W w'→dn w' kA kn l.kids):=lh fun w' T=>HK.o.turn (T0.trans T);clear HK;have bad:(l.kids.all fun k=>(mW (layers.map (·.id)) k).isSome)=false→pM layers root l=false:=fun h=>by unfold pM;rw [h];rfl
 have HBAD:=lh bad;clear bad;go_loopw [5] (fun s5 wr=>∃k:Nat,k≤kn∧s5=k∧bH [] W wr∧∀j,j<k→(mW (layers.map (·.id)) (l.kids.getD j 0)).isSome=true) (fun s5 _=>kn - (intOf s5).toNat);case atStart=>exact⟨0,by omega,rfl,tR W,fun j hj=>absurd hj (aU j)⟩
 obtain⟨k,hk,rfl,T,hall⟩:=hrel;have HALL:=lh hall;clear hall;have e0:=mv q0 _ T;have e1:=mv q1 _ T;have e2:=mv q2 _ T;have e3:=mv q3 _ T;have e15:=mv p15 _ T;by_cases hlt:k<kn
 ·obtain⟨g,o,rfl,hK⟩:=(HK2.o wr T).cell (by omega);have hkc:=hK wr (tR wr) k hlt;have hmem:l.kids.getD k 0∈l.kids:=by have:k<l.kids.length:=(by have:=(HK2.o wr T).1;omega);simp [List.getD,this]
  have HM:=lh hmem;clear hK hmem;generalize hx:l.kids.getD k 0=x at *;have HX:=lh hx;clear hx;have b0:(0:Int)≤(k:Int):=by omega
  have b1:(k:Int)<(kn:Int):=by omega
  have mvr:∀{b i:Nat} {v:Value},wr.cell? ⟨b,i,none⟩=some v→∀w',bH [] wr w'→w'.cell? ⟨b,i,none⟩=some v:=fun h w' T=>by rw [(bY T).1 _ _ (ai h)];exact h
  have HS:Hid (∀w',bH [] wr w'→(w'.cell? ⟨w,0,none⟩=some (.slice sA sn sc)∧w'.cell? ⟨w,1,none⟩=some (.int .i64 root)∧w'.cell? ⟨w,2,none⟩=some (.int .i64 next)∧w'.cell? ⟨w,3,none⟩=some (.slice lA ln lc)∧w'.cell? ⟨w.heap.size+1,15,none⟩=some (.slice (some ⟨g,o,none⟩) kn kc)∧w'.cell? ⟨g,o+k,none⟩=some (.int .i64 x))):=
   lh fun w' T=>⟨mvr e0 w' T,mvr e1 w' T,mvr e2 w' T,mvr e3 w' T,mvr e15 w' T,mvr hkc w' T⟩
  clear mvr;have hat:=HA.o x wr.drew (HD.o.turn ((T0.trans T).drawn 1));have TR:=(tR wr).drawn 1;cases ha:mW ids x with
  | none=>
   have ham:sQ ids x=-1:=(by unfold sQ;rw [ha]);rw [ham]at hat;have HAT:=lh hat;clear hat ham;(go_upto_region 4 with (fail));clear mv e0 e1 e2 e3 e15 q0 q1 q2 q3 p0 p15 hkc;go_region_held3 (fun w'=>w'.cell? ⟨w,0,none⟩=some (.slice sA sn sc)∧w'.cell? ⟨w,1,none⟩=some (.int .i64 root)∧w'.cell? ⟨w,2,none⟩=some (.int .i64 next)∧w'.cell? ⟨w,3,none⟩=some (.slice lA ln lc)∧w'.cell? ⟨w.heap.size+1,15,none⟩=some (.slice (some ⟨g,o,none⟩) kn kc)∧w'.cell? ⟨g,o+k,none⟩=some (.int .i64 x)) (first | exact HS.o _ TR | exact HS.o _ (TR.trans ht1)) (first
    | (go_at_call 20;refine HAT.o.mono ?_;rintro e w1 ⟨rfl,ht1⟩))
   (go_wp2_with fail);go_ret;exact⟨by rw [HBAD.o (List.all_eq_false.2 ⟨x,HM.o,by rw [←HID.o,ha];simp⟩)];rfl,(T0.trans T).trans (TR.trans ht1)⟩
  | some j=>
   have ham:sQ ids x=(j:Int):=(by unfold sQ;rw [ha]);rw [ham]at hat;have HAT:=lh hat;have d0:decide ((j:Int)<0)=false:=ak (by omega);clear hat ham;(go_upto_region 4 with (fail));clear mv e0 e1 e2 e3 e15 hkc;go_region_held3 (fun w'=>w'.cell? ⟨w,0,none⟩=some (.slice sA sn sc)∧w'.cell? ⟨w,1,none⟩=some (.int .i64 root)∧w'.cell? ⟨w,2,none⟩=some (.int .i64 next)∧w'.cell? ⟨w,3,none⟩=some (.slice lA ln lc)∧w'.cell? ⟨w.heap.size+1,15,none⟩=some (.slice (some ⟨g,o,none⟩) kn kc)∧w'.cell? ⟨g,o+k,none⟩=some (.int .i64 x)) (first | exact HS.o _ TR | exact HS.o _ (TR.trans ht1)) (first
    | (go_at_call 20;refine HAT.o.mono ?_;rintro e w1 ⟨rfl,ht1⟩))
   (go_wp2_with fail);go_roundw;case rel=>exact⟨k+1,by omega,by go_num,T.trans (TR.trans ht1),fun i hi=>by
    by_cases h:i<k
    ·exact HALL.o i h
    obtain rfl:i=k:=(by omega);rw [HX.o,←HID.o,ha];rfl⟩
   simp [intOf];omega
 obtain rfl:k=kn:=by omega
 have pL:=mv p0 _ T;have hck:(l.kids.all fun x=>(mW (layers.map (·.id)) x).isSome)=true:=by rw [aZ];intro y hy;obtain⟨j,hj,rfl⟩:=List.getElem_of_mem hy;have:=HALL.o j (by have:=(HK2.o wr T).1;omega);simpa [List.getD,hj]using this
 have HCK:=lh hck;have hzero:jJ layers l.id 0=0:=by simp [jJ]
 have HZ:=lh hzero;clear hck hzero mv q0 q1 q2 q3 p0 p15;go_upto_region 8 with (fail)
 go_loopw [6,7] (fun s6 s7 v=>∃i:Nat,i≤ln∧s7=i∧s6=.int .i64 (jJ layers l.id i)∧jJ layers l.id i≤50*i∧∃q,v=wr.drewN q) (fun _ s7 _=>ln - (intOf s7).toNat);case atStart=>exact⟨0,by omega,rfl,by rw [HZ.o];rfl,by rw [HZ.o];omega,0,rfl⟩
 obtain⟨i,hi,rfl,rfl,hbd,qd,rfl⟩:=hrel;by_cases hil:i<ln
 ·obtain⟨g,o,rfl,hL⟩:=HC.o (by omega);have hls:i<layers.length:=by have:=HN.o;omega
  obtain⟨li,hli⟩:∃li,layers[i]?=some li:=⟨layers[i],by simp [hls]⟩;obtain⟨hAt,hR⟩:=hL wr (T0.trans T) i li hli;have r15:wr.cell? ⟨g,o+i*31+15,none⟩=some (.slice li.Xi li.Xh li.Xj):=by simpa [Nat.add_assoc]using hR 15 _ rfl
  have hst:=wW (id:=l.id) hli;have hlk:=hAt.Xk;have hIK:=hAt.kids;have HIK:=lh hIK;have HST:=lh hst;have c0:(0:Int)≤(i:Int):=by omega
  have c1:(i:Int)<(ln:Int):=by omega
  clear hL hR hAt hIK hst hli hls;generalize hq:jJ layers l.id i=q at *;have HQ:=lh hq;clear hq;go_upto_region 11 with (fail)
  go_loopw [6,8] (fun s6 s8 v=>∃j:Nat,j≤li.Xh∧s8=j∧s6=.int .i64 (q+(li.kids.take j).count l.id:Nat)∧∃z,v=wr.drewN z) (fun _ s8 _=>li.Xh - (intOf s8).toNat);case atStart=>exact⟨0,by omega,rfl,by simp,_,rfl⟩
  obtain⟨j,hj,rfl,rfl,z,rfl⟩:=hrel;by_cases hjl:j<li.Xh
  ·obtain⟨g2,o2,hga,hK2⟩:=HIK.o.cell (by omega);have hkc:=hK2 wr (tR wr) j hjl;have hct:=BC (c:=li.kids) (id:=l.id) (k:=j) (by have:=HIK.o.1;omega);have hcl:(li.kids.take j).count l.id≤50:=aK List.count_le_length (by have:=HIK.o.1;simp;omega);have HCT:=lh hct;clear hK2 hct;rw [hga]at r15;clear hga;generalize hx:li.kids.getD j 0=x at *;generalize hy:(li.kids.take j).count l.id=y at *;have e0:(0:Int)≤(j:Int):=(by omega);have e1:(j:Int)<(li.Xh:Int):=(by omega);clear hx;by_cases hxe:x=l.id
   ·subst hxe;(go_wp2_with fail);go_quiet (fail)
    (go_wp2_with fail);exact⟨⟨j+1,by omega,by go_num,congrArg (Value.int .i64) (by have:=HCT.o;simp only [if_true]at this;rw [this];omega),_,rfl⟩,by simp [intOf];omega⟩
   (go_wp2_with fail);go_quiet (fail)
   (go_wp2_with fail);exact⟨⟨j+1,by omega,by go_num,congrArg (Value.int .i64) (by have:=HCT.o;rw [aF hxe]at this;rw [this];omega),_,rfl⟩,by simp [intOf];omega⟩
  have hjn:j=li.Xh:=by omega
  have htk:li.kids.take j=li.kids:=aY (by have:=HIK.o.1;omega);have hcl:li.kids.count l.id≤50:=aK List.count_le_length (by have:=HIK.o.1;omega);rw [htk];have HJ:=lh hjn;have HST2:=lh HST.o;have e1:(li.Xh:Int)=(j:Int):=by omega
  clear htk hjn;generalize hcy:li.kids.count l.id=y at *;have HCY:=lh hcy;clear hcy;go_wp2_with fail
  exact⟨⟨i+1,by omega,by go_num,congrArg (Value.int .i64) (by rw [HST.o]),by rw [HST.o];omega,_,rfl⟩,by simp [intOf];omega⟩
 have hin:i=layers.length:=by have:=HN.o;omega
 have hfin:pM layers root l=(if l.id=root then jJ layers l.id i == 0 else jJ layers l.id i == 1):=by unfold pM;rw [HCK.o,←hin];rfl
 have HF:=lh hfin;have hie:i=ln:=by omega
 have HIE:=lh hie;have b9:(ln:Int)=(i:Int):=by omega
 clear hfin hin hie;generalize jJ layers l.id i=q at *;by_cases hr:l.id=root
 ·rw [aG hr]at HF;rw [hr]at pL;have hb:∃b,((q:Int) == 0)=b∧(q == 0)=b:=⟨_,G9 q 0,rfl⟩;obtain⟨b,hb1,hb2⟩:=hb;rw [hb2]at HF;cases b with
  | true=>
   (go_wp2_with fail);go_ret;exact⟨by rw [HF.o];rfl,(T0.trans T).drawn _⟩
  | false=>
   (go_wp2_with fail);go_ret;exact⟨by rw [HF.o];rfl,(T0.trans T).drawn _⟩
 rw [aF hr]at HF;have hr1:(l.id == root)=false:=by simpa using hr
 have hr2:(l.id != root)=true:=by simpa using hr
 have hb:∃b,((q:Int) == 1)=b∧(q == 1)=b:=⟨_,G9 q 1,rfl⟩;obtain⟨b,hb1,hb2⟩:=hb;rw [hb2]at HF;cases b with
 | true=>
  go_wp2_with fail
  go_ret;exact⟨by rw [HF.o];rfl,(T0.trans T).drawn _⟩
 | false=>
  go_wp2_with fail
  go_ret;exact⟨by rw [HF.o];rfl,(T0.trans T).drawn _⟩
section
def kW:List ByteArray:=[⟨#[]⟩,⟨#[97]⟩,⟨#[98]⟩,⟨#[99]⟩,⟨#[100]⟩,⟨#[101]⟩,⟨#[102]⟩,⟨#[103]⟩,⟨#[104]⟩]
theorem FI:kW.all (fun s=>tV (kC prog X0 4000 40 109 #[.string s] ⟨.e,0⟩))=true:=by kernel_rfl
theorem Jr(s:ByteArray)(c:Int)(w:World): Calls prog 225 #[.string s,.int .u8 c] w fun e w'=>e=.returned (.int .i64 (firstIdx s c.toNat.toUInt8))∧w'=w:=by go_enter func225,ntmps225;go_wp2;rw [run_callFunc_extern func226 (by kernel_rfl) (by kernel_rfl) (by kernel_rfl) (e:=Extern.BytealgIndexByte.indexByte) (by kernel_rfl),run_indexByte_string];simp only [Result.andThen];rw [Oper.upon_value];go_wp2;go_ret;exact⟨rfl,rfl⟩
theorem JA(s:ByteArray)(c:Int)(w:World): Calls prog 221 #[.string s,.int .u8 c] w fun e w'=>e=.returned (.int .i64 (firstIdx s c.toNat.toUInt8))∧w'=w:=by
 have H:=lh (Jr s c);go_enter func221,ntmps221;go_wp2_with (go_at_call 225;refine (H.o _).mono ?_;rintro e w1 ⟨rfl,rfl⟩)
 go_ret;exact⟨rfl,rfl⟩
noncomputable section
def Tq(s:List UInt8)(c:Nat): Nat→Int:=List.rec (fun _=>-1) (fun a _ ih n=>bif Nat.beq a.toNat c then (n:Int) else ih (n+1)) s
def Vl(_:jX)(args:Array Value)(m:dJ): Option (Value×dJ):=match args with
 | ⟨[.string s,.int .u8 c]⟩=>bif (match c with | .ofNat k=>Nat.blt k 256 | _=>false) then rO (Tq s.data.toList c.toNat 0) fun i=>some (.int .i64 i,m) else none
 | _=>none
def X2:Su:=fun f=>bif Nat.beq f 221 then some Vl else X0 f
end
theorem Dl(c:Nat)(hc:c<256): ∀(l:List UInt8) (n:Nat),Tq l c n=if Lib.indexByte l c.toUInt8=-1 then -1 else Lib.indexByte l c.toUInt8+n
 | [],_=>rfl
 | a :: l,n=>by
  have ih:=Dl c hc l (n+1);have hg:=Lib.indexByte_ge l c.toUInt8;show (bif Nat.beq a.toNat c then (n:Int) else Tq l c (n+1))=_;unfold Lib.indexByte;by_cases h:a=c.toUInt8
  ·have hb:Nat.beq a.toNat c=true:=(by subst h;have:(c.toUInt8).toNat=c:=(by simp;omega);rw [this];exact Nat.beq_refl c);rw [hb];simp [h]
  have hb:Nat.beq a.toNat c=false:=by
   cases e:Nat.beq a.toNat c with
   | false=>rfl
   | true=>
    have:=Nat.eq_of_beq_eq_true e;exact absurd (by rw [←this];simp) h
  rw [hb,cond_false,ih];have h2:(a == c.toUInt8)=false:=by simpa using h
  rw [h2];generalize Lib.indexByte l c.toUInt8=q at *;by_cases hq:q=-1
  ·simp [hq]
  have h3:(q == -1)=false:=by simpa using hq
  simp only [h3,hq,if_false];rw [aF (by simp;omega)];simp;omega
theorem Tn{self:jX}: DU prog 221 (Vl self):=by
 intro args m v m1 h α w args' hr ha;unfold Vl at h;split at h;case h_2=>cases h
 rename_i s c;obtain⟨hc,h⟩:=dE h;split at hc;case h_2=>cases hc
 rename_i k _h0;have hk:=dR.1 hc;simp only [ry]at h;cases h;have e:args'=#[.string s,.int .u8 (Int.ofNat k)]:=Array.ext ha.1.symm fun i h1 h2=>VR.eq (aZ.1 (rfl:(#[Value.string s,.int .u8 (Int.ofNat k)]:Array Value).toList.all ig=true) _ (by simp)) (ha.2 i h2 h1);subst e;refine (JA s (Int.ofNat k) w).mono ?_;rintro e w' ⟨rfl,rfl⟩;refine⟨α,_,rfl,?_,nY.refl hr⟩;have:firstIdx s (Int.ofNat k).toNat.toUInt8=Tq s.data.toList k 0:=by
  rw [Lib.firstIdx_eq,Dl k hk];show Lib.indexByte s.data.toList k.toUInt8=_;split
  ·rename_i h;exact h
  simp
 rw [this];exact VR.int _ _
theorem Vq:BR prog X2:=by
 intro f g hx self hs;unfold X2 at hx;cases h1:Nat.beq f 221 with
 | true=>
  rw [h1,cond_true]at hx;cases hx;rw [Nat.eq_of_beq_eq_true h1];exact Tn
 | false=>rw [h1,cond_false]at hx;exact nV f g hx self hs
theorem Ci:kW.all (fun s=>tV (kC prog X2 4000 40 196 #[.string s] ⟨.e,0⟩))=true:=by kernel_rfl
theorem Fj{X:Su}(hX:BR prog X){f:FuncId}{args:Array Value}(hg:args.toList.all ig=true)(h:tV (kC prog X 4000 40 f args ⟨.e,0⟩)=true)(w:World): Calls prog f args w fun e w'=>e=.returned (.bool true)∧bH [] w w':=by obtain⟨m,he⟩:=wR h;have h0:lL prog (fun _=>none) ⟨.e,0⟩ w:=⟨(fun _ _ h=>by cases h),(fun _ _ _ h=>by cases h),(fun _ _ _ _ _ _ h=>by cases h),fun _ _=>rfl⟩;refine (jq wZ hX 40 f args ⟨.e,0⟩ _ m he (fun _=>none) w args h0 ⟨rfl,fun i h1 h2=>VR.refl (aZ.1 hg _ (by simp))⟩).mono ?_;rintro e w' ⟨β,v',rfl,hv,hst⟩;have:=VR.eq rfl hv;subst this;refine⟨rfl,(tR w).ext ⟨hst.size,fun cb hcb=>hst.frame cb hcb ?_,hst.os,hst.tape,hst.output⟩⟩;rintro⟨b,o,L,h1,_⟩;cases h1
theorem OU(s:ByteArray)(h:s∈kW)(w:World): Calls prog 109 #[.string s] w fun e w'=>e=.returned (.bool true)∧bH [] w w':=
 Fj nV rfl (aZ.1 FI s h) w
theorem CS(s:ByteArray)(h:s∈kW)(w:World): Calls prog 196 #[.string s] w fun e w'=>e=.returned (.bool true)∧bH [] w w':=
 Fj Vq rfl (aZ.1 Ci s h) w
end
structure bI.Tidy(l:bI)(ns:Int): Prop where
 kind:1≤l.kind∧l.kind≤5
 name:l.name∈kW
 opac:0≤l.Xl∧l.Xl≤255
 mode:0≤l.mode∧l.mode≤15
 place:l.kind=1∨l.kind=4→l.place.ok=true
 noplace:l.kind≠1→l.kind≠4→l.place=⟨0,0,0,0,0,0,0⟩
 space:0≤l.space∧l.space≤ns
 Xp:l.kind≠1→l.space=0∧l.tn=0
 Xq:l.kind≠2→l.Xh=0
 noof:l.kind≠4→l.of=0
 Xr:l.kind≠3→l.Xg=⟨0,0,none,0,0,0,0,none,0,0⟩
 Xo:l.kind≠5→l.pn=0∧l.f0=0∧l.f1=0∧l.f2=0∧l.f3=0
 path:l.kind=5→jy l.pts=true
 nomask:l.Xt=false→l.mn=0
theorem FB(w:World): Calls prog 160 #[.agg #[(0:Int),(0:Int),.slice none 0 0,(0:Int),(0:Int),.slice none 0 0],.agg #[(0:Int),(0:Int),.slice none 0 0,(0:Int),(0:Int),.slice none 0 0]] w fun e w'=>e=.returned (.bool true)∧bH [] w w':=by refine Fj nV rfl ?_ w;kernel_rfl
theorem J5(l:bI)(ns:Int)(h:l.Tidy ns)(w:World): Calls prog 110 #[l.v] w fun e w'=>e=.returned (.bool true)∧bH [] w w':=by
 have hk:=h.kind;have hp:=jg l w 89;have p1:=kQ hp 1 l.kind rfl;have p7:=kQ hp 7 l.place.a rfl;have p8:=kQ hp 8 l.place.b rfl;have p9:=kQ hp 9 l.place.c rfl;have p10:=kQ hp 10 l.place.d rfl;have p11:=kQ hp 11 l.place.e rfl;have p12:=kQ hp 12 l.place.f rfl;have p13:=kQ hp 13 l.place.den rfl;have p14:=kQ hp 14 l.space rfl;have p15:=kQ hp 15 (.slice l.Xi l.Xh l.Xj) rfl;have p16:=kQ hp 16 l.of rfl;have p17:=kQ hp 17 l.Xg.kind rfl;have p18:=kQ hp 18 l.Xg.Xf rfl;have p19:=kQ hp 19 (.slice l.Xg.kA l.Xg.kn l.Xg.kc) rfl;have p20:=kQ hp 20 l.Xg.div rfl;have p21:=kQ hp 21 l.Xg.value rfl;have p22:=kQ hp 22 (.slice l.Xg.cA l.Xg.cn l.Xg.cc) rfl;have p23:=kQ hp 23 (.int .u8 l.f0) rfl;have p24:=kQ hp 24 (.int .u8 l.f1) rfl;have p25:=kQ hp 25 (.int .u8 l.f2) rfl;have p26:=kQ hp 26 (.int .u8 l.f3) rfl;have p27:=kQ hp 27 (.slice l.pA l.pn l.pc) rfl;have p28:=kQ hp 28 (.slice l.tA l.tn l.tc) rfl;have T:=(tR w).alloc (.cells ⟨l.row⟩ 89);clear hp;unfold bI.v;have HE:=lh FB;generalize l.row=row at *;rcases (by omega:l.kind=1∨l.kind=2∨l.kind=3∨l.kind=4∨l.kind=5)with h1 | h1 | h1 | h1 | h1;all_goals
  rw [h1]at p1;try rw [h.Xq (by omega)]at p15
  try rw [h.noof (by omega)]at p16
  try
   rw [(h.Xo (by omega)).1]at p27
   rw [(h.Xo (by omega)).2.1]at p23
   rw [(h.Xo (by omega)).2.2.1]at p24
   rw [(h.Xo (by omega)).2.2.2.1]at p25
   rw [(h.Xo (by omega)).2.2.2.2]at p26
  try rw [h.Xr (by omega)]at p17 p18 p19 p20 p21 p22
  try rw [(h.Xp (by omega)).1]at p14
  try rw [(h.Xp (by omega)).2]at p28
  try rw [h.noplace (by omega) (by omega)]at p7 p8 p9 p10 p11 p12 p13
  clear h h1 hk;go_enter func110,ntmps110;go_upto_region 2 with (fail)
  dsimp only [List.append];go_wp2_with (first
   | (go_at_call 160;refine (HE.o _).mono ?_;rintro e w1 ⟨rfl,ht⟩;obtain⟨hc,hf⟩:=bY ht))
  go_ret;first
   | exact⟨rfl,T.trans ht⟩
   | exact⟨rfl,T⟩
theorem Jj(ps:List (Int×Int))(hb:jy ps=true)(A:Option Addr)(n cap:Nat)(w:World)(hi:iL w A n ps):
  Calls prog 111 #[.slice A n cap] w fun e w'=>e=.returned (.bool true)∧bH [] w w':=by
 obtain⟨⟨h1,h2⟩,hnear⟩:=nD hb;obtain⟨hn,hA⟩:=hi;obtain⟨g,o,rfl,_⟩:=hA 0 (by omega);have hA':∀j,j<n→w.cell? ⟨g,o+j*2,none⟩=some (.int .i64 (ps.getD j (0,0)).1)∧w.cell? ⟨g,o+j*2+1,none⟩=some (.int .i64 (ps.getD j (0,0)).2):=by intro j hj;obtain⟨g',o',e,hc,hd⟩:=hA j hj;injection e with e;injection e with e1 e2 e3;subst e1;subst e2;exact⟨hc,hd⟩
 have HA:=lh hA';have HR:=lh hnear;have HN:=lh hn;have m1:3≤n:=by omega
 have m2:n≤64:=by omega
 have d1:decide (3≤(n:Int))=true:=aC (by omega);have d2:decide ((n:Int)≤64)=true:=aC (by omega);clear hA hA' hn hnear hb;go_enter func111,ntmps111;go_wp2_with fail
 go_loop [3] (fun s3=>∃k:Nat,k≤n∧s3=k) (fun s3=>n - (intOf s3).toNat);case atStart=>exact⟨0,by omega,rfl⟩
 obtain⟨k,hk,rfl⟩:=hrel;by_cases hlt:k<n
 ·obtain⟨c0,c1⟩:=HA.o k hlt;have hr:=HR.o k (by have:=HN.o;omega);generalize ps.getD k (0,0)=z at *;obtain⟨x,y⟩:=z;simp only at c0 c1 hr;simp only [uG,Bool.or_eq_false_iff,decide_eq_false_iff_not]at hr;obtain⟨⟨⟨r1,r2⟩,r3⟩,r4⟩:=hr;have b0:(0:Int)≤(k:Int):=by omega
  have b1:(k:Int)<(n:Int):=by omega
  have e1:decide (x < -65536)=false:=ak (by omega);have e2:decide (65536<x)=false:=ak (by omega);have e3:decide (y < -65536)=false:=ak (by omega);have e4:decide (65536<y)=false:=ak (by omega);go_wp2_with fail
  go_round;case rel=>exact⟨k+1,by omega,by go_num⟩
  simp [intOf];omega
 obtain rfl:k=n:=by omega
 go_wp2_with fail
 go_ret;exact⟨rfl,tR w⟩
def bI.good(l:bI): Bool:=eu l.mask && eu l.Xm && (decide (l.kind≠3) || jC l.Xg l.ks l.cs)
theorem Je(d:df)(l:bI)(w:World)(hl:l.At w)(ht:l.Tidy d.sn): Calls prog 71 #[d.v,l.v] w fun e w'=>e=.returned (.int .i64 (if l.good then 0 else 1))∧bH [] w w':=by
 have hM:=fun u (t:bH [] w u)=>qi l.mask l.mA l.mn l.mc u (hl.mask.turn t);have hT:=fun u (t:bH [] w u)=>qi l.Xm l.tA l.tn l.tc u (hl.Xm.turn t);have hP:=fun u=>xA l.place u;have hF:=fun u (t:bH [] w u)=>AY l.Xg l.ks l.cs u (hl.ks.turn t) (hl.cs.turn t);have hN:=fun u=>OU l.name ht.name u;have hU:=fun u=>J5 l d.sn ht u;have hL:=fun h5 u (t:bH [] w u)=>Jj l.pts (ht.path h5) l.pA l.pn l.pc u (hl.pts.turn t);have hno:=ht.nomask;have hpl:=ht.place;obtain⟨hk1,hk2⟩:=ht.kind;obtain⟨ho1,ho2⟩:=ht.opac;obtain⟨hm1,hm2⟩:=ht.mode;obtain⟨hs1,hs2⟩:=ht.space;obtain⟨sA,sn,sc,spaces,root,next,lA,ln,lc,layers⟩:=d;simp only [df.v,bI.v,Af.v,Fv.v]at *;obtain⟨W,hW⟩:∃W,W=((w.alloc (.cells #[.slice sA sn sc,root,next,.slice lA ln lc] 29)).alloc (.cells ⟨l.row⟩ 89)):=⟨_,rfl⟩;have T0:bH [] w W:=hW ▸ ((tR w).alloc _).alloc _;have hp:=jg l (w.alloc (.cells #[.slice sA sn sc,root,next,.slice lA ln lc] 29)) 89;have hz:(w.alloc (.cells #[.slice sA sn sc,root,next,.slice lA ln lc] 29)).heap.size=w.heap.size+1:=by simp
 rw [←hW,hz]at hp;have hWs:W.heap.size=w.heap.size+2:=by rw [hW];simp
 have d0:=kU 0 (JK hW).1 rfl;have p1:=kQ hp 1 l.kind rfl;have p2:=kQ hp 2 (.string l.name) rfl;have p4:=kQ hp 4 l.Xl rfl;have p5:=kQ hp 5 l.mode rfl;have p7:=kQ hp 7 l.place.a rfl;have p8:=kQ hp 8 l.place.b rfl;have p9:=kQ hp 9 l.place.c rfl;have p10:=kQ hp 10 l.place.d rfl;have p11:=kQ hp 11 l.place.e rfl;have p12:=kQ hp 12 l.place.f rfl;have p13:=kQ hp 13 l.place.den rfl;have p14:=kQ hp 14 l.space rfl;have p17:=kQ hp 17 l.Xg.kind rfl;have p18:=kQ hp 18 l.Xg.Xf rfl;have p19:=kQ hp 19 (.slice l.Xg.kA l.Xg.kn l.Xg.kc) rfl;have p20:=kQ hp 20 l.Xg.div rfl;have p21:=kQ hp 21 l.Xg.value rfl;have p22:=kQ hp 22 (.slice l.Xg.cA l.Xg.cn l.Xg.cc) rfl;have p27:=kQ hp 27 (.slice l.pA l.pn l.pc) rfl;have p28:=kQ hp 28 (.slice l.tA l.tn l.tc) rfl;have p29:=kQ hp 29 (.bool l.Xt) rfl;have p30:=kQ hp 30 (.slice l.mA l.mn l.mc) rfl;have hiL:(prog.info? 89).map (·.size)=some l.row.length:=(zero_of_info rX).2;unfold bI.good;generalize eu l.mask=bM at *;generalize eu l.Xm=bT at *;generalize l.place.ok=bP at *;generalize jC l.Xg l.ks l.cs=bF at *;have HM:=lh hM;have HT:=lh hT;have HP:=lh hP;have HF:=lh hF;have HN:=lh hN;have HU:=lh hU;have HL:=lh hL;have HPL:=lh hpl;have HR:=lh hp;clear hM hT hP hF hN hU hL hpl hp hl ht;generalize l.row=row at *;generalize l.kind=kind at *;generalize l.Xl=op at *;generalize l.mode=mo at *;generalize l.space=sp at *;have k1:decide (kind<1)=false:=ak (by omega);have k2:decide (5<kind)=false:=ak (by omega);have k3:decide (op<0)=false:=ak (by omega);have k4:decide (255<op)=false:=ak (by omega);have k5:decide (mo<0)=false:=ak (by omega);have k6:decide (15<mo)=false:=ak (by omega);have k7:decide (sp<0)=false:=ak (by omega);have k8:decide ((sn:Int)<sp)=false:=ak (by omega);go_enter func71,ntmps71;go_upto_region 1 with (fail)
 rw [←hW];clear hW hz;have TT:=tR W;go_upto_region 5 with (first
  | (go_at_call 100;with_reducible refine TT.call (HM.o _ (T0.trans TT)) ?_;intro w1 TT hc hf)
  | (go_at_call 100;with_reducible refine TT.call (HT.o _ (T0.trans TT)) ?_;intro w1 TT hc hf)
  | (go_at_call 107;with_reducible refine TT.call (HP.o _) ?_;intro w1 TT hc hf)
  | (go_at_call 108;with_reducible refine TT.call (HF.o _ (T0.trans TT)) ?_;intro w1 TT hc hf)
  | (go_at_call 109;with_reducible refine TT.call (HN.o _) ?_;intro w1 TT hc hf)
  | (go_at_call 110;with_reducible refine TT.call (HU.o _) ?_;intro w1 TT hc hf)
  | (go_at_call 111;with_reducible refine TT.call (HL.o rfl _ (T0.trans TT)) ?_;intro w1 TT hc hf))
 go_upto_region 9 with (first
  | (go_at_call 100;with_reducible refine TT.call (HM.o _ (T0.trans TT)) ?_;intro w1 TT hc hf)
  | (go_at_call 100;with_reducible refine TT.call (HT.o _ (T0.trans TT)) ?_;intro w1 TT hc hf)
  | (go_at_call 107;with_reducible refine TT.call (HP.o _) ?_;intro w1 TT hc hf)
  | (go_at_call 108;with_reducible refine TT.call (HF.o _ (T0.trans TT)) ?_;intro w1 TT hc hf)
  | (go_at_call 109;with_reducible refine TT.call (HN.o _) ?_;intro w1 TT hc hf)
  | (go_at_call 110;with_reducible refine TT.call (HU.o _) ?_;intro w1 TT hc hf)
  | (go_at_call 111;with_reducible refine TT.call (HL.o rfl _ (T0.trans TT)) ?_;intro w1 TT hc hf))
 generalize l.Xt=hm at *;cases bM with
 | false=>
  go_wp2_with (first
   | (go_at_call 100;with_reducible refine TT.call (HM.o _ (T0.trans TT)) ?_;intro w1 TT hc hf)
   | (go_at_call 100;with_reducible refine TT.call (HT.o _ (T0.trans TT)) ?_;intro w1 TT hc hf)
   | (go_at_call 107;with_reducible refine TT.call (HP.o _) ?_;intro w1 TT hc hf)
   | (go_at_call 108;with_reducible refine TT.call (HF.o _ (T0.trans TT)) ?_;intro w1 TT hc hf)
   | (go_at_call 109;with_reducible refine TT.call (HN.o _) ?_;intro w1 TT hc hf)
   | (go_at_call 110;with_reducible refine TT.call (HU.o _) ?_;intro w1 TT hc hf)
   | (go_at_call 111;with_reducible refine TT.call (HL.o rfl _ (T0.trans TT)) ?_;intro w1 TT hc hf))
  go_ret;exact⟨rfl,T0.trans TT⟩
 | true=>
  have hmn:hm=true∨l.mn=0:=by cases hm with | true=>exact .inl rfl | false=>exact .inr (hno rfl)
  clear hno;rcases hmn with rfl | hmn;rotate_left;rw [hmn]at p30;cases hm;all_goals
   go_upto_region 11 with (first
    | (go_at_call 100;with_reducible refine TT.call (HM.o _ (T0.trans TT)) ?_;intro w1 TT hc hf)
    | (go_at_call 100;with_reducible refine TT.call (HT.o _ (T0.trans TT)) ?_;intro w1 TT hc hf)
    | (go_at_call 107;with_reducible refine TT.call (HP.o _) ?_;intro w1 TT hc hf)
    | (go_at_call 108;with_reducible refine TT.call (HF.o _ (T0.trans TT)) ?_;intro w1 TT hc hf)
    | (go_at_call 109;with_reducible refine TT.call (HN.o _) ?_;intro w1 TT hc hf)
    | (go_at_call 110;with_reducible refine TT.call (HU.o _) ?_;intro w1 TT hc hf)
    | (go_at_call 111;with_reducible refine TT.call (HL.o rfl _ (T0.trans TT)) ?_;intro w1 TT hc hf))
   have hR:=fJ TT HR.o;go_upto_region 13 with (first
    | (go_at_call 100;with_reducible refine TT.call (HM.o _ (T0.trans TT)) ?_;intro w1 TT hc hf)
    | (go_at_call 100;with_reducible refine TT.call (HT.o _ (T0.trans TT)) ?_;intro w1 TT hc hf)
    | (go_at_call 107;with_reducible refine TT.call (HP.o _) ?_;intro w1 TT hc hf)
    | (go_at_call 108;with_reducible refine TT.call (HF.o _ (T0.trans TT)) ?_;intro w1 TT hc hf)
    | (go_at_call 109;with_reducible refine TT.call (HN.o _) ?_;intro w1 TT hc hf)
    | (go_at_call 110;with_reducible refine TT.call (HU.o _) ?_;intro w1 TT hc hf)
    | (go_at_call 111;with_reducible refine TT.call (HL.o rfl _ (T0.trans TT)) ?_;intro w1 TT hc hf)
    | (refine wpList_load_mid rfl 89 _ rfl _ _ rfl _ _ hR underlying89 rfl hiL ?_))
   clear hR;rcases (by omega:kind=3∨kind=1∨kind=2∨kind=4∨kind=5)with rfl | rfl | rfl | rfl | rfl;cases bF;all_goals
    try (have hbp:bP=true:=HPL.o (by omega);subst hbp)
    cases bT
    all_goals
     go_wp2_with (first
      | (go_at_call 100;with_reducible refine TT.call (HM.o _ (T0.trans TT)) ?_;intro w1 TT hc hf)
      | (go_at_call 100;with_reducible refine TT.call (HT.o _ (T0.trans TT)) ?_;intro w1 TT hc hf)
      | (go_at_call 107;with_reducible refine TT.call (HP.o _) ?_;intro w1 TT hc hf)
      | (go_at_call 108;with_reducible refine TT.call (HF.o _ (T0.trans TT)) ?_;intro w1 TT hc hf)
      | (go_at_call 109;with_reducible refine TT.call (HN.o _) ?_;intro w1 TT hc hf)
      | (go_at_call 110;with_reducible refine TT.call (HU.o _) ?_;intro w1 TT hc hf)
      | (go_at_call 111;with_reducible refine TT.call (HL.o rfl _ (T0.trans TT)) ?_;intro w1 TT hc hf))
     go_ret
     exact⟨rfl,T0.trans TT⟩
def uQ:List (List Int×List Int):=
 [([4096,0,0,0,4096,0,0,0,4096],[4096,0,0,0,4096,0,0,0,4096]),([0,4096,0,0,0,4096,4096,0,0],[0,0,4096,4096,0,0,0,4096,0]),
  ([2048,0,0,0,8192,0,0,0,4096],[8192,0,0,0,2048,0,0,0,4096]),([4096,2048,0,0,4096,0,0,1024,4096],[4096,-2048,0,0,4096,0,0,-1024,4096])]
structure eF.Good(s:eF): Prop where
 l0:jh s.l0=true
 l1:jh s.l1=true
 l2:jh s.l2=true
 mat:(s.mTo,s.mFr)∈uQ
def xn(t f:List Int)(i k:Nat): Nat→Int
 | 0=>0
 | j+1=>xn t f i k j+f.getD (3*i+j) 0*t.getD (3*j+k) 0
def Uu(t f:List Int): Bool:=(List.range 9).all (fun i=>decide (-65536≤t.getD i 0) && decide (t.getD i 0≤65536) && decide (-65536≤f.getD i 0) && decide (f.getD i 0≤65536)) &&
 (List.range 3).all fun i=>(List.range 3).all fun k=>(List.range 4).all (fun j=>decide (-1099511627776≤xn t f i k j) && decide (xn t f i k j≤1099511627776)) &&
  (let z:=xn t f i k 3 - (if i=k then 16777216 else 0);decide (-32768≤z) && decide (z≤32768))
theorem MN:uQ.all (fun p=>Uu p.1 p.2)=true:=by decide +kernel
structure WL(t f:List Int): Prop where
 ent:∀i,i<9→-65536≤t.getD i 0∧t.getD i 0≤65536∧-65536≤f.getD i 0∧f.getD i 0≤65536
 sum:∀i,i<3→∀k,k<3→∀j,j<4→-1099511627776≤xn t f i k j∧xn t f i k j≤1099511627776
 fin:∀i,i<3→∀k,k<3→-32768≤xn t f i k 3 - (if i=k then 16777216 else 0)∧xn t f i k 3 - (if i=k then 16777216 else 0)≤32768
theorem eF.Good.near{s:eF}(h:s.Good): WL s.mTo s.mFr:=by have:=aZ.1 MN _ h.mat;simp only [Uu,az,aZ,aX,decide_eq_true_eq]at this;obtain⟨h1,h2⟩:=this;exact⟨fun i hi=>by have:=h1 i hi;omega,fun i hi k hk j hj=>(h2 i hi k hk).1 j hj,fun i hi k hk=>(h2 i hi k hk).2⟩
theorem su(s:eF)(u:World)(ty:TypeId): (u.alloc (.cells ⟨s.row⟩ ty)).rangeAt u.heap.size 0 s.row:=by intro j v hv;rw [aA _ _ _ _ ty (0,0) (heap_alloc_new u _),Nat.zero_add,←hv];show (s.row.toArray)[j]?=_;rw [List.getElem?_toArray]
theorem LQ(s:eF)(hg:s.Good)(w:World)(h:s.At w): Calls prog 106 #[.agg ⟨s.row⟩] w fun e w'=>e=.returned (.bool true)∧bH [] w w':=by
 have hM:=hg.near;obtain⟨W,hW⟩:∃W,W=w.alloc (.cells ⟨s.row⟩ 99):=⟨_,rfl⟩;have T0:bH [] w W:=hW ▸ (tR w).alloc _;have hp:=su s w 99;rw [←hW]at hp;have hWs:W.heap.size=w.heap.size+1:=by rw [hW];simp
 have c0:=kQ hp 0 (.slice s.a0 s.n0 s.c0) rfl;have c1:=kQ hp 1 (.slice s.a1 s.n1 s.c1) rfl;have c2:=kQ hp 2 (.slice s.a2 s.n2 s.c2) rfl;have cT:∀i,i<9→W.cell? ⟨w,3+i,none⟩=some (.int .i64 (s.mTo.getD i 0)):=fun i hi=>by
  have hx:i<s.mTo.length:=by have:=h.h1;omega
  have:=hp (3+i) (.int .i64 (s.mTo.getD i 0)) (by
   have e:3+i=i+1+1+1:=(by omega);rw [e];show (s.mTo.map (Value.int .i64) ++ s.mFr.map (Value.int .i64))[i]?=_;rw [bD (by simpa using hx)];simp [hx])
  simpa using this
 have cF:∀i,i<9→W.cell? ⟨w,12+i,none⟩=some (.int .i64 (s.mFr.getD i 0)):=fun i hi=>by
  have hx:i<s.mFr.length:=by have:=h.h2;omega
  have:=hp (12+i) (.int .i64 (s.mFr.getD i 0)) (by
   have e:12+i=(9+i)+1+1+1:=(by omega);rw [e];show (s.mTo.map (Value.int .i64) ++ s.mFr.map (Value.int .i64))[9+i]?=_;have:=h.h1;rw [bG (by simp;omega)];simp [this,hx])
  simpa using this
 have h0:=fun u (t:bH [] w u)=>tZ s.l0 s.a0 s.n0 s.c0 u (h.l0.turn t);have h1:=fun u (t:bH [] w u)=>tZ s.l1 s.a1 s.n1 s.c1 u (h.l1.turn t);have h2:=fun u (t:bH [] w u)=>tZ s.l2 s.a2 s.n2 s.c2 u (h.l2.turn t);rw [hg.l0]at h0;rw [hg.l1]at h1;rw [hg.l2]at h2;generalize s.row=row at *;generalize s.mTo=mt at *;generalize s.mFr=mf at *;have H0:=lh h0;have H1:=lh h1;have H2:=lh h2;have HM:=lh hM;have CT:=lh cT;have CF:=lh cF;clear h0 h1 h2 hM hp h hg cT cF;go_enter func106,ntmps106;go_upto_region 1 with (fail)
 rw [←hW];clear hW;go_wp2_with fail
 go_loopw [3] (fun s3 wr=>∃k:Nat,k≤3∧s3=k∧bH [] W wr) (fun s3 _=>3 - (intOf s3).toNat);case atStart=>exact⟨0,by omega,rfl,tR W⟩
 obtain⟨k,hk,rfl,TT⟩:=hrel;obtain⟨hc,hf⟩:=bY TT;by_cases hlt:k<3
 ·rcases (by omega:k=0∨k=1∨k=2)with rfl | rfl | rfl;all_goals
   go_wp2_with (first
    | (go_at_call 156;(with_reducible refine (H0.o _ (T0.trans TT)).mono ?_);rintro e w1 ⟨rfl,ht⟩;have TT:=TT.trans ht)
    | (go_at_call 156;(with_reducible refine (H1.o _ (T0.trans TT)).mono ?_);rintro e w1 ⟨rfl,ht⟩;have TT:=TT.trans ht)
    | (go_at_call 156;(with_reducible refine (H2.o _ (T0.trans TT)).mono ?_);rintro e w1 ⟨rfl,ht⟩;have TT:=TT.trans ht))
   go_roundw;case rel=>first | exact⟨1,by omega,rfl,TT⟩ | exact⟨2,by omega,rfl,TT⟩ | exact⟨3,by omega,rfl,TT⟩
   case measure=>simp [intOf]
 obtain rfl:k=3:=by omega
 go_wp2_with fail
 go_loopw [5] (fun s5 wr=>∃k:Nat,k≤9∧s5=k∧bH [] W wr) (fun s5 _=>9 - (intOf s5).toNat);case atStart=>exact⟨0,by omega,rfl,TT⟩
 obtain⟨k,hk,rfl,TT⟩:=hrel;obtain⟨hc,hf⟩:=bY TT;by_cases hlt:k<9
 ·have x1:=CT.out k hlt;have x2:=CF.out k hlt;obtain⟨y1,y2,y3,y4⟩:=HM.o.ent k hlt;generalize mt.getD k 0=t at *;generalize mf.getD k 0=f at *;have b0:(0:Int)≤(k:Int):=by omega
  have b1:(k:Int)<9:=by omega
  have e1:decide (t < -65536)=false:=ak (by omega);have e2:decide (65536<t)=false:=ak (by omega);have e3:decide (f < -65536)=false:=ak (by omega);have e4:decide (65536<f)=false:=ak (by omega);go_wp2_with fail
  go_roundw;case rel=>exact⟨k+1,by omega,by go_num,TT⟩
  simp [intOf];omega
 obtain rfl:k=9:=by omega
 go_wp2_with fail
 go_loopw [6] (fun s6 wr=>∃i:Nat,i≤3∧s6=i∧bH [] W wr) (fun s6 _=>3 - (intOf s6).toNat);case atStart=>exact⟨0,by omega,rfl,TT⟩
 obtain⟨i,hi,rfl,TT⟩:=hrel;by_cases hlt:i<3
 ·have i0:(0:Int)≤(i:Int):=by omega
  have i1:(i:Int)<3:=by omega
  go_wp2_with fail
  go_loopw [7] (fun s7 wr=>∃k:Nat,k≤3∧s7=k∧bH [] W wr) (fun s7 _=>3 - (intOf s7).toNat);case atStart=>exact⟨0,by omega,rfl,TT⟩
  obtain⟨k,hk,rfl,TT⟩:=hrel;by_cases hkl:k<3
  ·have k0:(0:Int)≤(k:Int):=(by omega);have k1:(k:Int)<3:=(by omega);(go_wp2_with fail);go_loopw [8,9] (fun s8 s9 wr=>∃j:Nat,j≤3∧s9=j∧s8=.int .i64 (xn mt mf i k j)∧bH [] W wr) (fun s8 s9 _=>3 - (intOf s9).toNat);case atStart=>exact⟨0,by omega,rfl,rfl,TT⟩
   obtain⟨j,hj,rfl,rfl,TT⟩:=hrel;obtain⟨hc,hf⟩:=bY TT;by_cases hjl:j<3
   ·have j0:(0:Int)≤(j:Int):=(by omega);have j1:(j:Int)<3:=(by omega);have x1:=CF.out (3*i+j) (by omega);have x2:=CT.out (3*j+k) (by omega);have hs1:=HM.o.sum i hlt k hkl j (by omega);have hs2:=HM.o.sum i hlt k hkl (j+1) (by omega);have hb1:=HM.o.ent (3*i+j) (by omega);have hb2:=HM.o.ent (3*j+k) (by omega);have es:xn mt mf i k (j+1)=xn mt mf i k j+mf.getD (3*i+j) 0*mt.getD (3*j+k) 0:=rfl;have hmul:=qy (x:=mf.getD (3*i+j) 0) (y:=mt.getD (3*j+k) 0) (M:=65536) (N:=65536) (by omega) (by omega) (by omega) (by omega) (by omega) (by omega);rw [es]at hs2;have ES:=lh es;clear es;generalize mf.getD (3*i+j) 0=f at *;generalize mt.getD (3*j+k) 0=t at *;generalize hS:xn mt mf i k j=S at *;have HS:=lh hS;clear hS;have z1:(3*(i:Int)+(j:Int)).toNat=3*i+j:=(by omega);have z2:(3*(j:Int)+(k:Int)).toNat=3*j+k:=(by omega);have q1:wr.drew.cell? ⟨w,12+(3*i+j),none⟩=some (.int .i64 f):=(hc _ _ (by omega)).trans x1;have q2:wr.drew.cell? ⟨w,3+(3*j+k),none⟩=some (.int .i64 t):=(hc _ _ (by omega)).trans x2;have TD:bH [] W wr.drew:=TT.drawn 1;(go_wp2_with fail);go_region;all_goals
     (go_wp2_with fail);go_roundw;case rel=>exact⟨j+1,by omega,by go_num,by rw [ES.out],TD⟩
     case measure=>simp [intOf];omega
   obtain rfl:j=3:=(by omega);have hs1:=HM.o.sum i hlt k hkl 3 (by omega);have hfin:=HM.o.fin i hlt k hkl;generalize xn mt mf i k 3=S at *;by_cases hik:i=k
   ·subst hik;rw [aG rfl]at hfin;have e1:decide (S - 16777216 < -32768)=false:=ak (by omega);have e2:decide (32768<S - 16777216)=false:=ak (by omega);(go_wp2_with fail);go_roundw;case rel=>exact⟨i+1,by omega,by go_num,TT⟩
    simp [intOf];omega
   rw [aF hik]at hfin;have e0:¬(i:Int)=(k:Int):=(by omega);have e1:decide (S < -32768)=false:=ak (by omega);have e2:decide (32768<S)=false:=ak (by omega);(go_wp2_with fail);go_roundw;case rel=>exact⟨k+1,by omega,by go_num,TT⟩
   simp [intOf];omega
  obtain rfl:k=3:=by omega
  go_wp2_with fail
  go_roundw;case rel=>exact⟨i+1,by omega,by go_num,TT⟩
  simp [intOf];omega
 obtain rfl:i=3:=by omega
 go_wp2_with fail
 go_ret;exact⟨rfl,T0.trans TT⟩
theorem sS{X:Su}(hX:BR prog X){f:FuncId}{args:Array Value}{v:Value}(hg:args.toList.all ig=true)(hv:ig v=true)(h:(kC prog X 4000 40 f args ⟨.e,0⟩).map (·.1)=some v)(w:World): Calls prog f args w fun e w'=>e=.returned v∧bH [] w w':=by
 obtain⟨m,he⟩:∃m,kC prog X 4000 40 f args ⟨.e,0⟩=some (v,m):=by
  cases hq:kC prog X 4000 40 f args ⟨.e,0⟩with
  | none=>rw [hq]at h;cases h
  | some p=>
   rw [hq]at h;obtain⟨a,m⟩:=p;have e:a=v:=(by simpa using h);rw [e];exact⟨m,rfl⟩
 have h0:lL prog (fun _=>none) ⟨.e,0⟩ w:=⟨(fun _ _ h=>by cases h),(fun _ _ _ h=>by cases h),(fun _ _ _ _ _ _ h=>by cases h),fun _ _=>rfl⟩;refine (jq wZ hX 40 f args ⟨.e,0⟩ _ m he (fun _=>none) w args h0 ⟨rfl,fun i h1 h2=>VR.refl (aZ.1 hg _ (by simp))⟩).mono ?_;rintro e w' ⟨β,v',rfl,hr,hst⟩;have:=VR.eq hv hr;subst this;refine⟨rfl,(tR w).ext ⟨hst.size,fun cb hcb=>hst.frame cb hcb ?_,hst.os,hst.tape,hst.output⟩⟩;rintro⟨b,o,L,h1,_⟩;cases h1
def fB (k : Int) : bI :=
  { id := 0, kind := k, name := ⟨#[]⟩, hidden := false, Xl := 255, mode := 0, clip := false,
    place := if k = 1 ∨ k = 4 then ⟨1, 0, 0, 0, 1, 0, 1⟩ else ⟨0, 0, 0, 0, 0, 0, 0⟩, space := 0, Xi := none, Xh := 0, Xj := 0, kids := [], of := 0,
    Xg := ⟨if k = 3 then 6 else 0, 0, none, 0, 0, 0, 0, none, 0, 0⟩, ks := [], cs := [], f0 := 0, f1 := 0, f2 := 0, f3 := 0, pA := none, pn := 0, pc := 0, pts := [],
    tA := none, tn := 0, tc := 0, Xm := [], Xt := false, mA := none, mn := 0, mc := 0, mask := [] }
theorem E8(w:World): Calls prog 33 #[(1:Int)] w fun e w'=>e=.returned (fB 1).v∧bH [] w w':=by refine sS nV rfl rfl ?_ w;kernel_rfl
theorem EK(w:World): Calls prog 33 #[(2:Int)] w fun e w'=>e=.returned (fB 2).v∧bH [] w w':=by refine sS nV rfl rfl ?_ w;kernel_rfl
theorem Ew(w:World): Calls prog 33 #[(3:Int)] w fun e w'=>e=.returned (fB 3).v∧bH [] w w':=by refine sS nV rfl rfl ?_ w;kernel_rfl
theorem Fp(w:World): Calls prog 33 #[(4:Int)] w fun e w'=>e=.returned (fB 4).v∧bH [] w w':=by refine sS nV rfl rfl ?_ w;kernel_rfl
theorem EM(w:World): Calls prog 33 #[(5:Int)] w fun e w'=>e=.returned (fB 5).v∧bH [] w w':=by refine sS nV rfl rfl ?_ w;kernel_rfl
theorem yE(k:Int)(h1:1≤k)(h2:k≤5)(w:World): Calls prog 33 #[k] w fun e w'=>e=.returned (fB k).v∧bH [] w w':=by
 obtain rfl | rfl | rfl | rfl | rfl:k=1∨k=2∨k=3∨k=4∨k=5:=by omega
 ·exact E8 w
 ·exact EK w
 ·exact Ew w
 ·exact Fp w
 exact EM w
theorem qU(u:World)(xs:List Int)(hl:xs.length≤1000): Il (u.alloc (.cells ⟨xs.map (Value.int .i64)⟩ 3)) u.heap.size (.slice (some ⟨u,0,none⟩) xs.length xs.length) xs:=by refine⟨by simp,.inr ⟨u,0,xs.length,⟨xs.map (Value.int .i64)⟩,rfl,aQ _,heap_alloc_new u _,aQ _,aK hl (by decide),by simp,fun j v hv=>?_⟩⟩;rw [Nat.zero_add];simpa using hv
def qK(w:World)(base:Nat)(v:Value): Prop:=∃c,Il w base v c∧jh c=true
theorem JR(q:Int)(w:World): Calls prog 64 #[q] w fun e w'=>(∃v,e=.returned v∧qK w' w.heap.size v)∧bH [] w w':=by
 obtain⟨s,es⟩:∃s,bits BinOp.and IntKind.i64 q 3=s:=⟨_,rfl⟩;have hs:s=1∨s=2∨s=3∨(s≠1∧s≠2∧s≠3):=by omega
 rcases hs with rfl | rfl | rfl | ⟨h1,h2,h3⟩
 ·go_enter func64,ntmps64;go_wp2_with fail
  go_ret;exact⟨⟨_,rfl,[0,4096,16384,36864,65535],qU w [0,4096,16384,36864,65535] (by decide),by decide⟩,(tR w).alloc _⟩
 ·go_enter func64,ntmps64;go_wp2_with fail
  go_ret;exact⟨⟨_,rfl,[0,40000,65535],qU w [0,40000,65535] (by decide),by decide⟩,(tR w).alloc _⟩
 ·go_enter func64,ntmps64;go_wp2_with fail
  go_ret;exact⟨⟨_,rfl,[100,100,30000,30000,65000],qU w [100,100,30000,30000,65000] (by decide),by decide⟩,(tR w).alloc _⟩
 have k1:(s == 1)=false:=by simpa using h1
 have k2:(s == 2)=false:=by simpa using h2
 have k3:(s == 3)=false:=by simpa using h3
 go_enter func64,ntmps64;go_wp2_with fail
 go_ret;exact⟨⟨_,rfl,[0,65535],qU w [0,65535] (by decide),by decide⟩,(tR w).alloc _⟩
def kS(a b c:Value): List Value:=[a,b,c,(4096:Int),(0:Int),(0:Int),(0:Int),(4096:Int),(0:Int),(0:Int),(0:Int),(4096:Int),(4096:Int),(0:Int),(0:Int),(0:Int),(4096:Int),(0:Int),(0:Int),(0:Int),(4096:Int)]
theorem I9:(kC prog X0 4000 40 63 #[] ⟨.e,0⟩).map (·.1)=some (.agg ⟨kS (.slice (some ⟨1,0,none⟩) 2 2) (.slice (some ⟨1,0,none⟩) 2 2) (.slice (some ⟨1,0,none⟩) 2 2)⟩):=by kernel_rfl
theorem Vw{β:AM}{x:Array Value}{v':Value}(h:VR β (.agg x) v'): ∃x',v'=.agg x'∧kN β x x':=by
 generalize hv:Value.agg x=v at h;cases h with
 | agg hx hh=>
  injection hv with hv;subst hv;exact⟨_,rfl,hx,hh⟩
 | _=>cases hv
theorem Bj{β:AM}{A:Option Addr}{n cap:Nat}{v':Value}(h:VR β (.slice A n cap) v'): ∃A n cap,v'=.slice A n cap:=by
 generalize hv:Value.slice A n cap=v at h;cases h with
 | sliceN=>exact⟨_,_,_,rfl⟩
 | sliceX=>exact⟨_,_,_,rfl⟩
 | sliceG=>exact⟨_,_,_,rfl⟩
 | sliceE=>exact⟨_,_,_,rfl⟩
 | _=>cases hv
theorem I5(w:World): Calls prog 63 #[] w fun e w'=>(∃A n cap A1 n1 cap1 A2 n2 cap2,e=.returned (.agg ⟨kS (.slice A n cap) (.slice A1 n1 cap1) (.slice A2 n2 cap2)⟩))∧bH [] w w':=by
 obtain⟨m,he⟩:∃m,kC prog X0 4000 40 63 #[] ⟨.e,0⟩=some (.agg ⟨kS (.slice (some ⟨1,0,none⟩) 2 2) (.slice (some ⟨1,0,none⟩) 2 2) (.slice (some ⟨1,0,none⟩) 2 2)⟩,m):=by
  have h:=I9;cases hq:kC prog X0 4000 40 63 #[] ⟨.e,0⟩with
  | none=>rw [hq]at h;cases h
  | some p=>
   rw [hq]at h;obtain⟨a,m⟩:=p;have e:a=_:=Option.some.inj h;rw [e];exact⟨m,rfl⟩
 have h0:lL prog (fun _=>none) ⟨.e,0⟩ w:=⟨(fun _ _ h=>by cases h),(fun _ _ _ h=>by cases h),(fun _ _ _ _ _ _ h=>by cases h),fun _ _=>rfl⟩;refine (jq wZ nV 40 63 #[] ⟨.e,0⟩ _ m he (fun _=>none) w #[] h0 ⟨rfl,fun i h1 h2=>absurd h1 (by simp)⟩).mono ?_;rintro e w' ⟨β,v',rfl,hr,hst⟩;refine⟨?_,(tR w).ext ⟨hst.size,fun cb hcb=>hst.frame cb hcb ?_,hst.os,hst.tape,hst.output⟩⟩
 ·obtain⟨⟨l⟩,rfl,hx,hh⟩:=Vw hr;have hl:l.length=21:=hx.symm;obtain⟨A,n,cap,e0⟩:=Bj (hh 0 (by show 0<21;decide) (by show 0<l.length;omega));obtain⟨A1,n1,cap1,e1⟩:=Bj (hh 1 (by show 1<21;decide) (by show 1<l.length;omega));obtain⟨A2,n2,cap2,e2⟩:=Bj (hh 2 (by show 2<21;decide) (by show 2<l.length;omega));have hE:l=kS (.slice A n cap) (.slice A1 n1 cap1) (.slice A2 n2 cap2):=by
   refine List.ext_getElem (by rw [hl];rfl) fun i h1 h2=>?_;have hi:i<21:=h2;by_cases h3:3≤i
   ·have hg:∀i,3≤i→(h:i<21)→jI ((⟨kS (.slice (some ⟨1,0,none⟩) 2 2) (.slice (some ⟨1,0,none⟩) 2 2) (.slice (some ⟨1,0,none⟩) 2 2)⟩:Array Value)[i]'h)=true:=(by intro i h3 h;have:i=3∨i=4∨i=5∨i=6∨i=7∨i=8∨i=9∨i=10∨i=11∨i=12∨i=13∨i=14∨i=15∨i=16∨i=17∨i=18∨i=19∨i=20:=(by omega);rcases this with h | h | h | h | h | h | h | h | h | h | h | h | h | h | h | h | h | h <;> subst h <;> rfl);have hd:∀i,3≤i→(h:i<21)→(kS (.slice (some ⟨1,0,none⟩) 2 2) (.slice (some ⟨1,0,none⟩) 2 2) (.slice (some ⟨1,0,none⟩) 2 2))[i]'h=(kS (.slice A n cap) (.slice A1 n1 cap1) (.slice A2 n2 cap2))[i]'h:=(by intro i h3 h;have:i=3∨i=4∨i=5∨i=6∨i=7∨i=8∨i=9∨i=10∨i=11∨i=12∨i=13∨i=14∨i=15∨i=16∨i=17∨i=18∨i=19∨i=20:=(by omega);rcases this with h | h | h | h | h | h | h | h | h | h | h | h | h | h | h | h | h | h <;> subst h <;> rfl);have:=VR.eq0 (hg i h3 hi) (hh i hi (by show i<l.length;omega));exact this.trans (hd i h3 hi)
   have:i=0∨i=1∨i=2:=(by omega);rcases this with rfl | rfl | rfl
   ·exact e0
   ·exact e1
   exact e2
  exact⟨A,n,cap,A1,n1,cap1,A2,n2,cap2,by rw [hE]⟩
 rintro⟨b,o,L,h1,_⟩;cases h1
end Go.Proofs.YtbpklgllihhgpaaGreat
