import Derived.Deep.CutBlock
import Derived.Test.YtbpklgllihhgpaaGreatA24
set_option maxRecDepth 100000
set_option maxHeartbeats 16000000
namespace Go.Proofs.YtbpklgllihhgpaaGreat
open Tryz Go.RowKit Go.Den
theorem dQ{w:World}{g o:Nat}{p L L':List Value}{t ty:TypeId}(hg:w.heap[g]?=some (.cells ⟨L⟩ t (0,0)))(hsz:(prog.info? ty).map (·.size)=some p.length)(ho:o+p.length≤L.length)(h1:∀v∈p,v.oneCell'=true)(hr:L.take o ++ p ++ L.drop (o+p.length)=L'):
  (Instr.storeAt ty (.pointer (some ⟨g,o,none⟩)) (.agg ⟨p⟩)).run prog w=.ok () (w.setRow g ⟨L'⟩):=by
 have hst:=run_storeCells_at (P:=prog) g o t p 0 ⟨L⟩ w hg (by show o+0+p.length≤L.length;omega) h1;have hrow:((⟨L⟩:Array Value).toList.take (o+0) ++ p ++ (⟨L⟩:Array Value).toList.drop (o+0+p.length)).toArray=⟨L'⟩:=by show ((L.take (o+0) ++ p ++ L.drop (o+0+p.length)).toArray:Array Value)=⟨L'⟩;rw [Nat.add_zero,hr]
 rw [hrow]at hst;simp only [Instr.storeAt,Instr.sureAddr,Sem.run_bind,Sem.run_pure,Result.andThen];unfold storeVar;have hc:(Value.agg ⟨p⟩).cells=⟨p⟩:=rfl;rw [Sem.run_bind,qp hsz];simp only [Result.andThen,hc];rw [aF (by show ¬(p.length≠p.length);omega)];exact hst
theorem eQ{w:World}{g:Nat}{L L':List Value}{t:TypeId}(hg:w.heap[g]?=some (.cells ⟨L⟩ t (0,0))): (w.setRow g ⟨L'⟩).heap[g]?=some (.cells ⟨L'⟩ t (0,0)):=by simp only [World.setRow,au,if_true,hg];rfl
theorem fQ(w:World)(g:Nat)(c:Array Value)(q:Nat)(hq:q≠g): (w.setRow g c).heap[q]?=w.heap[q]?:=by simp only [World.setRow,au,Ne.symm hq,if_false]
theorem dU{w:World}{g i:Nat}{L L':List Value}{v:Value}{t:TypeId}(hg:w.heap[g]?=some (.cells ⟨L⟩ t (0,0)))(hr:L.set i v=L'): (w.setCell ⟨g,i,none⟩ v).heap[g]?=some (.cells ⟨L'⟩ t (0,0)):=by subst hr;simp only [World.setCell,au,if_true,hg];simp
theorem dG(w:World)(g i:Nat)(v:Value)(q:Nat)(hq:q≠g): (w.setCell ⟨g,i,none⟩ v).heap[q]?=w.heap[q]?:=by simp only [World.setCell,au,Ne.symm hq,if_false]
theorem gp{w:World}{g o:Nat}{L p:List Value}{t:TypeId}(hg:w.heap[g]?=some (.cells ⟨L⟩ t (0,0)))(hp:(L.drop o).take p.length=p): w.rangeAt g o p:=by intro j u hu;rw [aA _ _ _ _ _ _ hg];have hj:=(ah.1 hu).1;rw [←hp,List.getElem?_take_of_lt hj,List.getElem?_drop]at hu;simpa using hu
theorem bJ{w:World}{g i:Nat}{L:List Value}{t:TypeId}(hg:w.heap[g]?=some (.cells ⟨L⟩ t (0,0))){v:Value}(hv:L[i]?=some v): w.cell? ⟨g,i,none⟩=some v:=by rw [aA _ _ _ _ _ _ hg];simpa using hv
theorem dD{w:World}{g:Nat}{L:List Value}{t:TypeId}(hg:w.heap[g]?=some (.cells ⟨L⟩ t (0,0)))(i:Nat): w.frozen? ⟨g,i,none⟩=false:=by simp [World.frozen?,hg]
theorem U4(l:bI)(id:Int)(pb:Nat)(w:World)(hp:w.cell? ⟨pb,0,none⟩=some (.int .i64 id)):
  Calls prog 117 #[l.v,.pointer (some ⟨pb,0,none⟩)] w fun e w'=>e=.returned (.bool (l.id == id))∧bH [] w w':=by
 have TL:=(tR w).alloc (.cells ⟨l.row⟩ 89);have p0:(w.alloc (.cells ⟨l.row⟩ 89)).cell? ⟨w,0,none⟩=some (.int .i64 l.id):=by simpa using jg l w 89 0 _ rfl
 have p1:(w.alloc (.cells ⟨l.row⟩ 89)).cell? ⟨pb,0,none⟩=some (.int .i64 id):=((bY TL).1 _ _ (ai hp)).trans hp;unfold bI.v;clear hp;generalize l.row=row at *;generalize l.id=x at *;go_enter func117,ntmps117;go_wp2_with fail
 go_ret;exact⟨rfl,TL⟩
theorem MH(ids:List Int)(ls:List bI)(hids:ids=ls.map (·.id))(A:Option Addr)(n cap:Nat)(hn:n≤50)(id:Int)(pb:Nat)(w:World)(h:kG w A n ls)(hp:w.cell? ⟨pb,0,none⟩=some (.int .i64 id)):
  Calls prog 116 #[.slice A n cap,.func (.func 117) #[] #[.pointer (some ⟨pb,0,none⟩)]] w fun e w'=>e=.returned (.int .i64 (sQ ids id))∧bH [] w w':=by
 have hC:=fun h1=>h.cell h1;have hl:=h.1;have hlen:ids.length=n:=by rw [hids,hl];simp
 have HC:=lh hC;have HI:=lh hids;have HL:=lh hlen;have HP:=lh hp;clear hC hl h hids hlen hp;go_enter func116,ntmps116;go_wp2_with fail
 go_loopw [8] (fun s8 wr=>∃k:Nat,k≤n∧s8=k∧(∀i,i<k→ids[i]?≠some id)∧bH [] w wr) (fun s8 _=>n - (intOf s8).toNat);case atStart=>exact⟨0,by omega,rfl,fun i hi=>absurd hi (aU i),tR w⟩
 obtain⟨k,hk,rfl,hall,T⟩:=hrel;have HALL:=lh hall;clear hall;by_cases hlt:k<n
 ·obtain⟨g,o,rfl,hA⟩:=HC.o (by omega);have hls:k<ls.length:=by have:=HL.o;have:=HI.o;simp_all
  obtain⟨l,hl⟩:∃l,ls[k]?=some l:=⟨ls[k],by simp [hls]⟩;obtain⟨_,hR⟩:=hA wr T k l hl;have hz:ids[k]?=some l.id:=by rw [HI.o];simp [hl]
  have hq:=U4 l id pb wr (((bY T).1 _ _ (ai HP.o)).trans HP.o);have hiL:(prog.info? 89).map (·.size)=some l.row.length:=(zero_of_info rX).2;have HZ:=lh hz;have HT:=lh T;clear hA hl hls T hz;have b0:(0:Int)≤(k:Int):=by omega
  have b1:(k:Int)<(n:Int):=by omega
  unfold bI.v at hq;generalize l.row=row at *;cases hb:(l.id == id)with
  | true=>
   rw [hb]at hq;have HB:=lh hb;have HQ:=lh hq;clear hb hq;go_wp2_with (first
    | (refine wpList_load_mid rfl 89 _ rfl _ _ rfl _ _ hR underlying89 rfl hiL ?_)
    | (go_at_call 117;refine HQ.o.mono ?_;rintro e w1 ⟨rfl,ht⟩))
   go_ret;refine⟨?_,HT.o.trans ht⟩;rw [sQ,vS (by rw [HZ.o];simpa using HB.o) HALL.o];rfl
  | false=>
   rw [hb]at hq;have HB:=lh hb;have HQ:=lh hq;clear hb hq;go_wp2_with (first
    | (refine wpList_load_mid rfl 89 _ rfl _ _ rfl _ _ hR underlying89 rfl hiL ?_)
    | (go_at_call 117;refine HQ.o.mono ?_;rintro e w1 ⟨rfl,ht⟩))
   go_roundw;case rel=>exact⟨k+1,by omega,by go_num,fun i hi=>by
    by_cases h:i<k
    ·exact HALL.o i h
    obtain rfl:i=k:=(by omega);rw [HZ.o];have:=HB.o;intro e;rw [Option.some.inj e]at this;simp at this,HT.o.trans ht⟩
   simp [intOf];omega
 obtain rfl:k=n:=by omega
 go_wp2_with fail
 go_ret;exact⟨by rw [sQ,Bg (fun i hi=>HALL.o i (by have:=HL.o;omega))];rfl,T⟩
theorem uf(a b M:Int)(h0:-M≤a)(h1:a≤M): -M - 1≤iq a b∧iq a b≤M:=by
 have:=vN a b M h0 h1;unfold iq;split
 ·constructor <;> omega
 split <;> omega
def dZ(r:Rc): Array Value:=#[r.x0,r.y0,r.x1,r.y1]
theorem rZ{w:World}{b:Nat}{x y z t p q r s:Value}{ty:TypeId}(h:w.heap[b]?=some (.cells #[x,y,z,t] ty (0,0))): ((((w.setCell ⟨b,0,none⟩ p).setCell ⟨b,1,none⟩ q).setCell ⟨b,2,none⟩ r).setCell ⟨b,3,none⟩ s).heap[b]?=some (.cells #[p,q,r,s] ty (0,0)):=by simp [World.setCell,au,h]
theorem Oh{w u v:World}{b:Nat}(h:bH [] w u)(k:bH [b] u v)(hb:w.heap.size≤b): bH [] w v:=
 ⟨aK h.size k.size,fun j hj hn=>(k.old j (aj hj h.size) (by simp;omega)).trans (h.old j hj hn),k.os.trans h.os,k.tape.trans h.tape,k.output.trans h.output⟩
def VT(p:Af): Array Value:=#[p.a,p.b,p.c,p.d,p.e,p.f,p.den]
theorem KY{w:World}{b:Nat}{q:Rc}{x y z t:Value}{ty:TypeId}(h:w.heap[b]?=some (.cells (dZ q) ty (0,0))): ((((w.setCell ⟨b,0,none⟩ x).setCell ⟨b,1,none⟩ y).setCell ⟨b,2,none⟩ z).setCell ⟨b,3,none⟩ t).heap[b]?=some (.cells #[x,y,z,t] ty (0,0)):=by simp only [World.setCell,au,if_true,h];rfl
theorem IX:∀(fn:Fn) (first cap:Array Value) (w:World),(Instr.makeFunc fn first cap).run prog w=.ok (.func fn first cap) w:=fun _ _ _ _=>rfl
section
section
variable {P:Program} {ops:Array Oper} {Q:Exit→Act→World→Prop} {md:Region.Mode} {S:World→Prop} {z:Nat}
def LH(md:Region.Mode)(ops:Array Oper)(N z i:Nat): Bool:=(List.range ops.size).all fun j=>decide (j<z) || oW md ops N j i
theorem Tu{N i j:Nat}{oj:Oper}(h:LH md ops N z i=true)(hj:ops[j]?=some oj)(hz:z≤j): oW md ops N j i=true:=by have h1:=aZ.1 h j (aX.2 (ae.1 hj).1);rw [ak (by omega)]at h1;simpa using h1
def dY(P:Program)(md:Region.Mode)(ops:Array Oper)(Q:Exit→Act→World→Prop)(S:World→Prop)(z:Nat): Nat→Array Bool→Act→World→Prop
 | 0,done,a,w=>Region.ready md ops done=[]∧Q .normal a w
 | n+1,done,a,w=>(Region.ready md ops done=[]→Q .normal a w)∧
  ∀i∈Region.ready md ops done,wpOp P ops Q i (fun a' w'=>(i<z→S w')∧dY P md ops Q S z n (done.setIfInBounds i true) a' w') a w
theorem dY.any:∀{n:Nat} {done:Array Bool} {a:Act} {w:World},dY P md ops Q S z n done a w→wpAny P md ops Q n done a w
 | 0,_,_,_,h=>h
 | _+1,_,_,_,h=>⟨h.1,fun i hi=>wpOp_mono (fun _ _ h'=>dY.any h'.2) (h.2 i hi)⟩
theorem dY.first{i N:Nat}{oi:Oper}{v:Value}(hi:ops[i]?=some oi)(hsel:∀(j:Nat) (o:Oper) cs b,ops[j]?=some o→o.op≠.select cs b)(hQ:∀c a w,Q (.panic c) (a.put oi.dst v) w→Q (.panic c) a w)(hz:LH md ops N z i=true):
  ∀(n:Nat) (done:Array Bool) (a:Act) (w:World),(∀j oj,ops[j]?=some oj→j≠i→done.getD j true=false→(∀e∈oj.after,Region.binds md e=true→e.on≠i)→oi.apart ops oj=true)→
   BU md ops done→i∈Region.ready md ops done→YieldsIf P ops S oi v a→S w→dY P md ops Q S z n (done.setIfInBounds i true) (a.put oi.dst v) w→dY P md ops Q S z (n+1) done a w:=by
 intro n;induction n with
 | zero=>
  intro done a w _ _ hr hy hS H;refine⟨fun h=>absurd hr (by simp [h]),fun j hj=>?_⟩;by_cases hji:j=i
  ·subst hji;exact hy.wpOp hi hS ⟨fun _=>hS,H⟩
  have:=ready_mono hj hji;rw [H.1]at this;cases this
 | succ n ih=>
  intro done a w hfree hs hr hy hS H;refine⟨fun h=>absurd hr (by simp [h]),fun j hj=>?_⟩;by_cases hji:j=i
  ·subst hji;exact hy.wpOp hi hS ⟨fun _=>hS,H⟩
  obtain⟨hjun,oj,hoj,hall⟩:=mem_ready.1 hj;have hiun:=ui (mem_ready.1 hr).1;have hjz:j<z:=by
   rcases Nat.lt_or_ge j z with h | h
   ·exact h
   exfalso;have:=uN hs N j i (Tu hz hoj h) fun k hk=>rQ hj hk;rw [hiun]at this;cases this
  have hnot:∀e∈oj.after,Region.binds md e=true→e.on≠i:=by intro e he hb heq;have h1:=hall e he hb;rw [heq,hiun]at h1;cases h1
  have h2:=wpOp_putIf hoj (hfree j oj hoj hji hjun hnot) (fun cs b=>hsel i oi cs b hi) (fun cs b=>hsel j oj cs b hoj) hQ hy (H.2 j (ready_mono hj hji));refine wpOp_mono (fun a' w' h3=>?_) h2;obtain⟨h3y,h3S,h3r⟩:=h3;refine⟨h3S,ih _ a' w' (fun k ok hk hki hun hno=>hfree k ok hk hki ?_ hno) (hs.set hj) (ready_mono hr (Ne.symm hji)) h3y (h3S hjz) ?_⟩
  ·by_cases hjk:j=k
   ·subst hjk;exact hjun
   rw [getD_set_ne true hjk]at hun;exact hun
  rw [Array.setIfInBounds_comm _ _ hji];exact h3r
theorem dY.take{i N:Nat}{oi:Oper}{d:Option Tmp}{v:Value}{n:Nat}{done:Array Bool}{a:Act}{w:World}(hi:ops[i]?=some oi)(hd:oi.dst=d)
  (hc:(Region.noSelect ops && Region.free md ops done i && (Region.ready md ops done).contains i && Ae md ops done && LH md ops N z i)=true)
  (hQ:∀c a w,Q (.panic c) (a.put d v) w→Q (.panic c) a w) (hg:Region.wanted oi (yielded ops a.tmps)=true) (hy:∀w,S w→(execOp a.eval oi).run P w=.ok (.value v) w) (hS:S w)
  (h:dY P md ops Q S z n (done.setIfInBounds i true) (a.put d v) w):dY P md ops Q S z (n+1) done a w:=by
 subst hd;simp only [az]at hc;obtain⟨⟨⟨⟨h1,h2⟩,h3⟩,h4⟩,h5⟩:=hc;exact dY.first hi (Region.noSelect_spec h1) hQ h5 n done a w (Region.free_spec hi h2) (Eo h4) (by simpa using h3) (.inl ⟨hg,hy⟩) hS h
theorem dY.one{i:Nat}{oi:Oper}{n:Nat}{done:Array Bool}{a:Act}{w:World}(hi:ops[i]?=some oi)(hr:(Region.ready md ops done == [i])=true)(hg:Region.wanted oi (yielded ops a.tmps)=true)
  (h:∀K:Act→World→Prop,(∀a' w',(i<z→S w')→dY P md ops Q S z n (done.setIfInBounds i true) a' w'→K a' w')→Oper.wp P oi a w K Q):dY P md ops Q S z (n+1) done a w:=by
 have hr':Region.ready md ops done=[i]:=by simpa using hr
 refine⟨fun h0=>(by rw [hr']at h0;cases h0),fun j hj=>?_⟩;rw [hr',aN]at hj;subst hj;refine wpOp_step hi fun K hK=>?_;rw [aG hg];exact h K fun a' w' hS hA=>hK a' w' ⟨hS,hA⟩
theorem dY.done{n:Nat}{done:Array Bool}{a:Act}{w:World}(hr:(Region.ready md ops done == [])=true)(h:Q .normal a w): dY P md ops Q S z n done a w:=by
 have hr':Region.ready md ops done=[]:=by simpa using hr
 cases n with
 | zero=>exact⟨hr',h⟩
 | succ n=>exact⟨fun _=>h,by rw [hr'];simp⟩
theorem dY.start(S:World→Prop)(z:Nat){id:Nat}{a:Act}{w:World}(hm:P.follows .mixedOrders=true)
  (h:dY P .any ops Q S z ops.size (Array.replicate ops.size false) a w.drew):(Code.region id ops true).wp P Q a w:=
 wp_region_any hm h.any
theorem dY.two{i j:Nat}{oi oj:Oper}{n:Nat}{done:Array Bool}{a:Act}{w:World}(hi:ops[i]?=some oi)(hj:ops[j]?=some oj)(hr:(Region.ready md ops done == [i,j])=true)(gi:Region.wanted oi (yielded ops a.tmps)=true)(gj:Region.wanted oj (yielded ops a.tmps)=true)
  (h1:∀K:Act→World→Prop,(∀a' w',(i<z→S w')→dY P md ops Q S z n (done.setIfInBounds i true) a' w'→K a' w')→Oper.wp P oi a w K Q)
  (h2:∀K:Act→World→Prop,(∀a' w',(j<z→S w')→dY P md ops Q S z n (done.setIfInBounds j true) a' w'→K a' w')→Oper.wp P oj a w K Q):dY P md ops Q S z (n+1) done a w:=by
 have hr':Region.ready md ops done=[i,j]:=by simpa using hr
 refine⟨fun h0=>(by rw [hr']at h0;cases h0),fun q hq=>?_⟩;rw [hr',aS,aN]at hq;rcases hq with rfl | rfl
 ·refine wpOp_step hi fun K hK=>?_;rw [aG gi];exact h1 K fun a' w' hS hA=>hK a' w' ⟨hS,hA⟩
 refine wpOp_step hj fun K hK=>?_;rw [aG gj];exact h2 K fun a' w' hS hA=>hK a' w' ⟨hS,hA⟩
theorem pk(i N:Nat)(d:Tmp)(v:Value){oi:Oper}{n:Nat}{done:Array Bool}{a:Act}{w:World}(hS:S w)(h:dY P md ops Q S z n (done.setIfInBounds i true) (a.put (some d) v) w)(hi:ops[i]?=some oi:=by rfl)(hd:oi.dst=some d:=by rfl)
  (hc:(Region.noSelect ops && Region.free md ops done i && (Region.ready md ops done).contains i && Ae md ops done && LH md ops N z i)=true:=by kernel_rfl)
  (hQ:∀c a w,Q (.panic c) (a.put (some d) v) w→Q (.panic c) a w:=by exact fun _ _ _ h=>h) (hg:Region.wanted oi (yielded ops a.tmps)=true:=by rfl) (hy:∀w,S w→(execOp a.eval oi).run P w=.ok (.value v) w:=by intro w' hw;go_simp):dY P md ops Q S z (n+1) done a w:=
 dY.take hi hd hc hQ hg hy hS h
theorem Oo(i:Nat){oi:Oper}{n:Nat}{done:Array Bool}{a:Act}{w:World}
 (h:∀K:Act→World→Prop,(∀a' w',(i<z→S w')→dY P md ops Q S z n (done.setIfInBounds i true) a' w'→K a' w')→Oper.wp P oi a w K Q) (hi:ops[i]?=some oi:=by rfl) (hr:(Region.ready md ops done == [i])=true:=by kernel_rfl) (hg:Region.wanted oi (yielded ops a.tmps)=true:=by rfl):dY P md ops Q S z (n+1) done a w:=dY.one hi hr hg h
end
end
end Go.Proofs.YtbpklgllihhgpaaGreat
