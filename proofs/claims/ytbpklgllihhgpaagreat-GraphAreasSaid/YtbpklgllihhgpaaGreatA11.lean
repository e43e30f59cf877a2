import Derived.Test.YtbpklgllihhgpaaGreatA08
import Derived.Test.YtbpklgllihhgpaaGreatA09
import Derived.Test.YtbpklgllihhgpaaGreatA10
set_option maxRecDepth 100000
set_option maxHeartbeats 16000000
namespace Go.Proofs.YtbpklgllihhgpaaGreat
open Go.Den
theorem SN{α:Type}{a:α}{l:List α}(x:Array α)(h:(⟨a :: l⟩:Array α).size=x.size): ∃b k,x=⟨b :: k⟩∧k.length=l.length:=by
 obtain⟨x⟩:=x;cases x with
 | nil=>simp at h
 | cons b k=>exact⟨b,k,rfl,by simpa using h.symm⟩
theorem WN{α:Type}(x:Array α)(h:4=x.size): ∃a b c d,x=#[a,b,c,d]:=by
 obtain⟨x⟩:=x;match x,h with
 | [a,b,c,d],_=>exact⟨a,b,c,d,rfl⟩
 | [],h=>simp at h
 | [_],h=>simp at h
 | [_,_],h=>simp at h
 | [_,_,_],h=>simp at h
 | _ :: _ :: _ :: _ :: _ :: l,h=>simp at h
theorem EU{α:AM}{m:dJ}{w:World}(h:lL Tryz.prog α m w){cb:Nat}(hc:w.heap.size≤cb): ¬IY α m cb:=by rintro⟨b,o,L,_,_,h1,rfl⟩;have:=(h.dom b L h1).2;omega
theorem CU{self:jX}(hs:nM Tryz.prog self): DU Tryz.prog 76 (Fe self):=by
 intro args m v m1 h α w args' hr ha;unfold Fe at h;split at h;case h_2=>cases h
 rename_i a0 a1 a2 a3;split at h;case h_2=>cases h
 rename_i u m2 hrun;cases h;obtain⟨y,k,rfl,hk⟩:=SN args' ha.1;obtain rfl:k=[]:=List.length_eq_zero_iff.1 hk;have hy:VR α (.agg #[a0,a1,a2,a3]) y:=ha.2 0 (by simp) (by simp);cases hy with
 | @agg x x' hx hv=>
 obtain⟨v0,v1,v2,v3,rfl⟩:=WN x' hx;obtain⟨W3,hW3⟩:∃W3,W3=(((w.alloc (.cells #[v0,v1,v2,v3] 29)).alloc (.cells #[.int .i64 0] 91)).alloc (.cells #[.int .i64 0] 3)):=⟨_,rfl⟩;have e0:mQ w W3:=hW3 ▸ (((mQ.refl w).alloc _).alloc _).alloc _;have hz:W3.heap.size=w.heap.size+3:=by rw [hW3];show (((w.heap.push _).push _).push _).size=_;simp
 have s1:∀(u:World) (o:Obj),(u.alloc o).heap.size=u.heap.size+1:=fun u o=>by show (u.heap.push o).size=_;simp
 have g1:W3.heap[w.heap.size+1]?=some (.cells #[.int .i64 0] 91 (0,0)):=by rw [hW3,(MapKept.heap_alloc _ _).2 _ (by rw [s1,s1];omega),←s1 w (.cells #[v0,v1,v2,v3] 29)];exact (MapKept.heap_alloc _ _).1
 have g2:W3.heap[w.heap.size+2]?=some (.cells #[.int .i64 0] 3 (0,0)):=by rw [hW3,show w.heap.size+2=((w.alloc (.cells #[v0,v1,v2,v3] 29)).alloc (.cells #[.int .i64 0] 91)).heap.size by rw [s1,s1]];exact (MapKept.heap_alloc _ _).1
 refine (Qo v0 v1 v2 v3 w (fun w1=>∃β,nY Tryz.prog α m W3 β m1 w1) ?_ ?_).mono ?_
 ·rw [←hW3];refine (hs 115 _ m u m1 hrun α W3 _ (hr.ext0 e0) ha).mono ?_;rintro e w1 ⟨β,v',rfl,_,hst⟩;exact⟨⟨v',rfl⟩,β,hst⟩
 ·rintro w1 ⟨β,hst⟩;have f1:=(hst.frame (w.heap.size+1) (by omega) (EU hr (by omega))).trans g1;have f2:=(hst.frame (w.heap.size+2) (by omega) (EU hr (by omega))).trans g2;refine⟨?_,?_,?_,?_⟩ <;> simp [World.cell?,World.frozen?,f1,f2]
 rintro e w' ⟨rfl,w1,⟨β,hst⟩,rfl⟩;refine⟨β,_,rfl,VR.refl rfl,(hst.pre e0).post ?_ ?_ rfl rfl rfl⟩
 ·show _≤(((w1.setCell _ _).setCell _ _).heap.push _).size;simp [World.setCell]
 intro cb hcb;have hpush:(((w1.setCell ⟨w.heap.size+1,0,none⟩ (.int .i64 0)).setCell ⟨w.heap.size+2,0,none⟩ (.int .i64 0)).alloc (.cells #[.int .i64 0,.int .i64 0] 188)).heap[cb]? =
  ((w1.setCell ⟨w.heap.size+1,0,none⟩ (.int .i64 0)).setCell ⟨w.heap.size+2,0,none⟩ (.int .i64 0)).heap[cb]?:=(MapKept.heap_alloc _ _).2 cb (by simpa [World.setCell]using hcb)
 have hno:cb<W3.heap.size→w.heap.size≤cb→¬IY β m1 cb:=by
  intro h1 h2 hi;rcases hst.rng cb hi with h3 | h3
  ·exact EU hr h2 h3
  omega
 by_cases h1:cb=w.heap.size+1
 ·exact .inr ⟨by omega,hno (by omega) (by omega)⟩
 by_cases h2:cb=w.heap.size+2
 ·exact .inr ⟨by omega,hno (by omega) (by omega)⟩
 refine .inl ?_;rw [hpush,Den.heap_setCell _ _ _ _ h2,Den.heap_setCell _ _ _ _ h1]
theorem RI{cs:List Value}{k:IntKind}{n:Int}(h:List.drop 256 cs=[.int k n]): cs[256]?=some (.int k n):=by
 have:(List.drop 256 cs)[0]?=cs[256]?:=by rw [List.getElem?_drop]
 rw [←this,h];rfl
theorem Uk{cs:List Value}{v:Value}(hl:cs.length=257)(h:cs[256]?=some v): List.drop 256 cs=[v]:=by
 have h1:(List.drop 256 cs).length=1:=by rw [List.length_drop];omega
 obtain⟨a,ha⟩:=List.length_eq_one_iff.1 h1;have:(List.drop 256 cs)[0]?=cs[256]?:=by rw [List.getElem?_drop]
 rw [ha,h]at this;rw [ha];simpa using this
theorem l9{α:AM}{cl:Nat}{time:Int}{x x':MapEntry}(h:II cl time x=true)(hr:o7 α x x'):
  x'.key=.string (BM x)∧BM x'=BM x∧x'.val=.agg (Io x')∧(Io x').size=257∧(Io x')[256]?=some (.int .i64 (lw x))∧lw x'=lw x∧(Io x').all (·.oneCell')=true∧x'.born=x.born∧x.born<cl∧lw x≤time:=by
 obtain⟨h1,h2,h3⟩:=hr;unfold II at h;rw [Bool.and_eq_true,Bool.and_eq_true]at h;obtain⟨⟨hk,hv⟩,hb⟩:=h;have hkey:∃s,x.key=.string s:=by
  split at hk
  ·rename_i s hs;exact⟨s,hs⟩
  cases hk
 obtain⟨s,hs⟩:=hkey;have hs':x'.key=.string s:=by rw [←h1];exact hs
 unfold Ul at hv;split at hv;case h_2=>cases hv
 rename_i cs hval;rw [Bool.and_eq_true,Bool.and_eq_true]at hv;obtain⟨⟨hlen,hlast⟩,hall⟩:=hv;have hlen:=Nat.eq_of_beq_eq_true hlen;split at hlast;case h_2=>cases hlast
 rename_i n hdrop;have hlast:=of_decide_eq_true hlast;have hn:=RI hdrop;rw [hval]at h3;generalize hv':x'.val=v' at h3;cases h3 with
 | @agg _ y hy hc=>
 obtain⟨ys⟩:=y;have hy':cs.length=ys.length:=hy;have hy256:ys[256]?=some (.int .i64 n):=by
  have h4:=hc 256 (by show 256<cs.length;omega) (by show 256<ys.length;omega);have h5:(⟨cs⟩:Array Value)[256]'(by show 256<cs.length;omega)=.int .i64 n:=by have:=List.getElem?_eq_some_iff.1 hn;exact this.2
  rw [h5]at h4;rw [List.getElem?_eq_getElem (by omega)];have h6:(⟨ys⟩:Array Value)[256]'(by show 256<ys.length;omega)=ys[256]'(by omega):=rfl;rw [h6]at h4;generalize ys[256]'(by omega)=q at h4 ⊢;cases h4;rfl
 have hu:lw x=n:=by unfold lw;rw [hval];simp only [hdrop]
 have hu':lw x'=n:=by unfold lw;rw [hv'];simp only [Uk (by omega) hy256]
 have hrow:Io x'=⟨ys⟩:=by unfold Io;rw [hv']
 refine⟨by rw [hs'];unfold BM;rw [hs],by unfold BM;rw [hs,hs'],by rw [hrow],by rw [hrow];show ys.length=257;omega,by rw [hrow,hu];simpa using hy256,by rw [hu,hu'],?_,h2.symm,dR.1 hb,by rw [hu];exact hlast⟩;rw [hrow];refine Array.all_eq_true.2 fun i hi=>?_;have hi':i<ys.length:=hi;have h4:=hc i (by show i<cs.length;omega) hi;have h5:=List.all_eq_true.1 hall (cs[i]'(by omega)) (List.getElem_mem _);have h6:(⟨cs⟩:Array Value)[i]'(by show i<cs.length;omega)=cs[i]'(by omega):=rfl;rw [h6]at h4;have h7:=uA h4 (by simpa using h5);generalize (⟨ys⟩:Array Value)[i]=q at h7 ⊢;cases q <;> first | rfl | cases h7
theorem wL:∀{l:List Nat},EI l=true→l.Nodup
 | [],_=>List.nodup_nil
 | a :: l,h=>by unfold EI at h;rw [Bool.and_eq_true]at h;refine List.nodup_cons.2 ⟨fun hm=>?_,wL h.2⟩;have:=List.all_eq_true.1 h.1 a hm;rw [Nat.beq_refl]at this;cases this
theorem vV:∀{l:List ByteArray},FP l=true→l.Nodup
 | [],_=>List.nodup_nil
 | a :: l,h=>by unfold FP at h;rw [Bool.and_eq_true]at h;refine List.nodup_cons.2 ⟨fun hm=>?_,vV h.2⟩;have:=List.all_eq_true.1 h.1 a hm;simp at this
theorem oQ{all:List (MapEntry×Nat)}{i:Nat}: ∀{l:List (MapEntry×Nat)},sF all l=some i→∃x,(x,i)∈l∧∀y∈all,y.2=i∨lw x<lw y.1
 | [],h=>by cases h
 | (x,j) :: l,h=>by
  unfold sF at h;cases hb:KH j (lw x) all with
  | true=>
   rw [hb]at h;cases h;refine⟨x,by simp,fun y hy=>?_⟩;have:=List.all_eq_true.1 hb y hy;rw [Bool.or_eq_true]at this;exact this.imp Nat.eq_of_beq_eq_true of_decide_eq_true
  | false=>
   rw [hb]at h;obtain⟨y,h1,h2⟩:=oQ (l:=l) h;exact⟨y,by simp [h1],h2⟩
theorem IC{α:AM}{time ev:Int}{es:List MapEntry}{cl:Nat}{es':Array MapEntry}(h:Ig time ev es cl=true)(hr:iI α ⟨es⟩ es'):
  Lc es' cl time BM lw Io∧0≤time∧time≤1000000000000∧0≤ev∧ev≤1000000000000:=by
 unfold Ig at h;simp only [Bool.and_eq_true,decide_eq_true_eq]at h;obtain⟨⟨⟨⟨⟨⟨h1,h2⟩,h3⟩,h4⟩,h5⟩,h6⟩,h7⟩:=h;refine⟨?_,h4,h5,h6,h7⟩;have hlen:es.length=es'.size:=hr.1;have at_:∀(i:Nat) (x':MapEntry),es'[i]?=some x'→∃x,es[i]?=some x∧II cl time x=true∧o7 α x x':=by
  intro i x' hx;have hi:i<es'.size:=(Array.getElem?_eq_some_iff.1 hx).1;have hi2:i<es.length:=by omega
  have h8:=hr.2 i hi2 hi;have h9:(⟨es⟩:Array MapEntry)[i]'hi2=es[i]:=rfl;have h10:es'[i]=x':=(Array.getElem?_eq_some_iff.1 hx).2;rw [h9,h10]at h8;exact⟨es[i],List.getElem?_eq_getElem hi2,List.all_eq_true.1 h1 _ (List.getElem_mem _),h8⟩
 have mem:∀x'∈es'.toList,∃x,II cl time x=true∧o7 α x x':=by intro x' hx;obtain⟨i,hi⟩:=List.mem_iff_getElem?.1 hx;obtain⟨x,_,a,b⟩:=at_ i x' (by rw [←Array.getElem?_toList];exact hi);exact⟨x,a,b⟩
 refine⟨?_,?_,?_,?_,?_,?_,?_,?_,?_⟩
 ·intro x' hx;obtain⟨x,a,b⟩:=mem x' hx;have k:=l9 a b;rw [k.1,k.2.1]
 ·intro x' hx;obtain⟨x,a,b⟩:=mem x' hx;exact (l9 a b).2.2.1
 ·intro x' hx;obtain⟨x,a,b⟩:=mem x' hx;exact (l9 a b).2.2.2.1
 ·intro x' hx;obtain⟨x,a,b⟩:=mem x' hx;have k:=l9 a b;rw [k.2.2.2.2.1,k.2.2.2.2.2.1]
 ·intro x' hx;obtain⟨x,a,b⟩:=mem x' hx;exact (l9 a b).2.2.2.2.2.2.1
 ·intro x' hx;obtain⟨x,a,b⟩:=mem x' hx;have k:=l9 a b;rw [k.2.2.2.2.2.2.2.1];exact k.2.2.2.2.2.2.2.2.1
 ·have:es'.toList.map (·.born)=es.map (·.born):=by
   refine List.ext_getElem? fun i=>?_;rw [List.getElem?_map,List.getElem?_map];cases hx:es'.toList[i]? with
   | none=>
    have:es[i]?=none:=(by rw [List.getElem?_eq_none_iff]at hx ⊢;simp at hx;omega);rw [this]
   | some x'=>
    obtain⟨x,a,_,b⟩:=at_ i x' (by rw [←Array.getElem?_toList];exact hx);rw [a];simp [b.2.1]
  rw [this];exact wL h2
 ·intro i j x' y' hx hy hk;obtain⟨x,a1,a2,a3⟩:=at_ i x' hx;obtain⟨y,b1,b2,b3⟩:=at_ j y' hy;rw [(l9 a2 a3).2.1,(l9 b2 b3).2.1]at hk;have c1:(es.map BM)[i]?=some (BM x):=by rw [List.getElem?_map,a1];rfl
  have c2:(es.map BM)[j]?=some (BM x):=by rw [List.getElem?_map,b1,hk];rfl
  have hnd:=vV h3;have d1:=List.getElem?_eq_some_iff.1 c1;have d2:=List.getElem?_eq_some_iff.1 c2;obtain⟨i1,i2⟩:=d1;obtain⟨j1,j2⟩:=d2;exact (List.getElem_inj hnd).1 (i2.trans j2.symm)
 intro x' hx;obtain⟨x,a,b⟩:=mem x' hx;have k:=l9 a b;rw [k.2.2.2.2.2.1];exact k.2.2.2.2.2.2.2.2.2
theorem Na{α:AM}{time ev:Int}{es:List MapEntry}{cl:Nat}{es':Array MapEntry}(h:Ig time ev es cl=true)(hr:iI α ⟨es⟩ es'){i:Nat}(hi:sF es.zipIdx es.zipIdx=some i)
  {j:Nat} {y':MapEntry} (hy:es'[j]?=some y') (hmin:∀z∈es'.toList,lw y'≤lw z):j=i:=by
 obtain⟨x,h1,h2⟩:=oQ hi;have hxi:es[i]?=some x:=by simpa using List.mem_zipIdx_iff_getElem?.1 h1
 unfold Ig at h;simp only [Bool.and_eq_true,decide_eq_true_eq]at h;have hall:=h.1.1.1.1.1.1;have hj:j<es'.size:=(Array.getElem?_eq_some_iff.1 hy).1;have hlen:es.length=es'.size:=hr.1;have rel:∀(k:Nat) (h1:k<es.length) (h2:k<es'.size),lw es'[k]=lw es[k]:=by intro k k1 k2;exact (l9 (List.all_eq_true.1 hall _ (List.getElem_mem k1)) (hr.2 k k1 k2)).2.2.2.2.2.1
 obtain⟨ii,hix⟩:=List.getElem?_eq_some_iff.1 hxi;rcases h2 (es[j]'(by omega),j) (List.mem_zipIdx_iff_getElem?.2 (by simp))with h3 | h3
 ·exact h3
 have h4:=hmin (es'[i]'(by omega)) (by simp);have h5:y'=es'[j]:=(Array.getElem?_eq_some_iff.1 hy).2.symm;rw [h5,rel j (by omega) hj,rel i ii (by omega),hix]at h4;simp only at h3;omega
theorem KP{self:jX}(hs:nM Tryz.prog self): DU Tryz.prog 26 (Rw self):=by
 intro args m v m1 h α w args' hr ha;unfold Rw at h;split at h;case h_2=>cases h
 rename_i b o k t;obtain⟨ht,h⟩:=dE h;have ht:=Nat.eq_of_beq_eq_true ht;split at h;case h_2=>cases h
 rename_i m2 hrun;split at h;case h_2=>cases h
 rename_i c n e g hgb;obtain⟨hn,h⟩:=dE h;have hn:=dR.1 hn;split at h;case h_2=>cases h
 rename_i bud hc0;split at h;case h_2=>cases h
 rename_i r hc1;split at h;case h_2=>cases h
 rename_i time hc2;split at h;case h_2=>cases h
 rename_i ev hc5;split at h;case h_2=>cases h
 rename_i es cl hgr;obtain⟨y,k1,rfl,hk1⟩:=SN args' ha.1;obtain⟨y2,k2,hk2,hk3⟩:=SN (⟨k1⟩:Array Value) (a:=Value.string k) (l:=[.agg ⟨t⟩]) (by simpa using hk1.symm);cases hk2;obtain⟨y3,k3,hk4,hk5⟩:=SN (⟨k2⟩:Array Value) (a:=Value.agg ⟨t⟩) (l:=[]) (by simpa using hk3.symm);cases hk4;obtain rfl:k3=[]:=List.length_eq_zero_iff.1 hk5;have hy:VR α (.pointer (some ⟨b,o,none⟩)) y:=ha.2 0 (by simp) (by simp);have hy2:VR α (.string k) y2:=ha.2 1 (by simp) (by simp);have hy3:VR α (.agg ⟨t⟩) y3:=ha.2 2 (by simp) (by simp);cases hy2;cases hy with
 | @ptr _ _ L hb=>
 cases hy3 with
 | @agg _ T hT _=>
 have hT':T.size=256:=by rw [←hT];exact ht
 have e0:mQ w (w.alloc (.cells T 66)):=(mQ.refl w).alloc _;have facts:∀{β:AM} {w1:World},nY Tryz.prog α m (w.alloc (.cells T 66)) β m2 w1→∃Lr es',β r=some Lr∧β b=some L∧iI β ⟨es⟩ es'∧Kz L.blk (L.sh+o) Lr.blk bud time ev es' cl w1:=by
  intro β w1 hst;have hb':=hst.le b L hb;have cellOf:∀(q:Nat) (u:Value),q<n→c.get q=some u→∃u',w1.cell? ⟨L.blk,L.sh+q,none⟩=some u'∧VR β u u':=by intro q u hq hu;exact hst.rel.cell hb' (by rw [zO hgb hq];exact hu)
  obtain⟨u0,a0,b0⟩:=cellOf o _ (by omega) hc0;obtain⟨u1,a1,b1⟩:=cellOf (o+1) _ (by omega) hc1;obtain⟨u2,a2,b2⟩:=cellOf (o+2) _ (by omega) hc2;obtain⟨u5,a5,b5⟩:=cellOf (o+5) _ (by omega) hc5;cases b0;cases b2;cases b5;cases b1 with
  | @map _ Lr hr1=>
  have hfz:=(hst.rel.store hb' hgb hn (VR.bool true)).2.1;obtain⟨_,o',q1,q2⟩:=hst.rel.obj r _ Lr hgr hr1;cases q2 with
  | @map _ es' hes _=>exact⟨Lr,es',hr1,hb',hes,a0,a1,a2,a5,hfz,q1⟩
 refine (SI L.blk (L.sh+o) k T hT' w (fun w1=>∃β,nY Tryz.prog α m (w.alloc (.cells T 66)) β m2 w1) ?_ ?_).mono ?_
 ·refine (hs 55 _ m _ m2 hrun α (w.alloc (.cells T 66)) _ (hr.ext0 e0) ha).mono ?_;rintro e1 w1 ⟨β,v',rfl,hv,hst⟩;have:=VR.eq rfl hv;subst this;exact⟨rfl,β,hst⟩
 ·rintro w1 ⟨β,hst⟩;obtain⟨Lr,es',_,_,hes,hcf⟩:=facts hst;refine⟨Lr.blk,bud,time,ev,es',cl,hcf,?_⟩;have hlen:es.length=es'.size:=hes.1;by_cases hfit:(es'.size:Int)≤bud
  ·exact .inl hfit
  refine .inr ⟨hfit,?_⟩;rw [decide_eq_false (by rw [hlen];exact hfit),cond_false]at h;unfold Jl at h;obtain⟨hok,h⟩:=dE h;obtain⟨f1,f2,f3,f4,f5⟩:=IC hok hes;refine⟨_,_,_,f1,f2,f3,f4,f5,?_⟩;split at h
  ·rename_i i hi;obtain⟨x,hx,_⟩:=oQ hi;cases es with
   | nil=>simp at hx
   | cons a l=>rw [←hlen];simp
  cases h
 rintro e1 w' ⟨rfl,w1,⟨β,hst⟩,r0,bud0,time0,ev0,es0,cl0,hcf0,hpost⟩;obtain⟨Lr,es',hbr,hbb,hes,hcf⟩:=facts hst;have i1:r0=Lr.blk:=by have:=hcf0.c1.symm.trans hcf.c1;cases this;rfl
 subst i1;have i2:bud0=bud:=by have:=hcf0.c0.symm.trans hcf.c0;cases this;rfl
 have i3:ev0=ev:=by have:=hcf0.c5.symm.trans hcf.c5;cases this;rfl
 have i4:es0=es'∧cl0=cl:=by have:=hcf0.mp.symm.trans hcf.mp;cases this;exact⟨rfl,rfl⟩
 obtain⟨rfl,rfl⟩:=i4;subst i2 i3;have hlen:es.length=es0.size:=hes.1;have hst0:=hst.pre e0;rcases hpost with ⟨hfit,nd,rfl⟩ | ⟨hfit,key,used,row,hef,i,x,hix,hmin,p1,p2,p3,p4,p5,p6,p7⟩
 ·rw [decide_eq_true (by rw [hlen];exact hfit),cond_true]at h;cases h;exact⟨β,_,rfl,VR.refl rfl,hst0.drawn _⟩
 rw [decide_eq_false (by rw [hlen];exact hfit),cond_false]at h;unfold Jl at h;obtain⟨hok,h⟩:=dE h;split at h;case h_2=>cases h
 rename_i i' hi';simp only [lX,ry,dJ.put_eq,Tr.setK_eq]at h;cases h;have hbr':b≠r:=by rintro rfl;rw [hgb]at hgr;cases hgr
 have hef2:=(IC hok hes).1;have hused:∀z∈es0.toList,used z=lw z:=by
  intro z hz;have q1:=hef.la z hz;have q2:=hef2.la z hz;have q3:row z=Io z:=by have:=(hef.va z hz).symm.trans (hef2.va z hz);injection this
  rw [q3]at q1;have:=q1.symm.trans q2;injection this with this;injection this
 have hxm:x∈es0.toList:=by rw [←Array.getElem?_toList]at hix;exact List.mem_of_getElem? hix
 have hii:i=i':=Na hok hes hi' hix fun z hz=>by rw [←hused x hxm,←hused z hz];exact hmin z hz
 subst hii;have S1:=(hst.rel.setObj hbr hgr (.map (hes.erase i) cl0)).2;have hgb2:(Tr.set (r+1) m2.t r (.obj (.map ((⟨es⟩:Array MapEntry).eraseIdxIfInBounds i) cl0))).get b=some (.cells c n e g):=by rw [fA,if_neg hbr'];exact hgb
 have S2:=(S1.rel.store hbb hgb2 hn (VR.int .i64 (ev0+1))).2.2;have S:=hst0.trans (S1.trans S2);have hsame:(⟨es.eraseIdx i⟩:Array MapEntry)=(⟨es⟩:Array MapEntry).eraseIdxIfInBounds i:=by
  apply Array.toList_inj.1;simp [Array.eraseIdxIfInBounds];split
  ·simp
  rw [List.eraseIdx_of_length_le (by omega)]
 rw [hsame];have hlr:Lr.blk<w1.heap.size:=(hst.rel.dom r Lr hbr).2;have hlb:L.blk<w1.heap.size:=(hst.rel.dom b L hbb).2;have hne:L.blk≠Lr.blk:=by intro he;exact hbr' (hst.rel.inj b r _ _ L Lr hgb trivial hbb hgr trivial hbr he)
 refine⟨β,_,rfl,VR.refl rfl,S.post ?_ ?_ p5 p6 p7⟩
 ·simpa [World.setCell]using p4
 intro cb hcb;refine .inl ?_;have hcb':cb<w1.heap.size:=by simpa [World.setCell]using hcb
 by_cases h1:cb=L.blk
 ·subst h1;rw [p2];simp only [World.setCell,Array.getElem?_modify,if_true];rw [Array.getElem?_setIfInBounds,if_neg (Ne.symm hne)];rfl
 rw [Den.heap_setCell _ _ _ _ h1];by_cases h2:cb=Lr.blk
 ·subst h2;rw [p1];simp [hlr]
 rw [p3 cb hcb' h1 h2];simp [Ne.symm h2]
end Go.Proofs.YtbpklgllihhgpaaGreat
