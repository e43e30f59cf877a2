import Derived.Test.YtbpklgllihhgpaaGreatR39
set_option maxRecDepth 100000
set_option maxHeartbeats 16000000
namespace Go.Proofs.YtbpklgllihhgpaaGreat
open Tryz Go.RowKit Go.Den
theorem depth_stable(ls:List LayerM): ∀(n:Nat) (id:Int),Low ls n id→∀m,n≤m→depthM ls m id=depthM ls n id
 | 0,_,h,_,_=>by cases h
 | n+1,id,.mk h,0,hm=>absurd hm (by omega)
 | n+1,id,.mk h,m+1,hm=>by
  unfold depthM;cases ha:layerAt ls id with
  | none=>rfl
  | some l=>
   simp only;have hst:=steps_at ha;have:∀(ps:List Int),(∀p∈ps,p∈partsM l)→∀a,ps.foldl (fun q p=>max q (depthM ls m p)) a=ps.foldl (fun q p=>max q (depthM ls n p)) a:=by
    intro ps;induction ps with
    | nil=>intro _ _;rfl
    | cons p ps ih=>
     intro hp a;simp only [List.foldl_cons];rw [depth_stable ls n p (h p (hst ▸ hp p (by simp))) m (by omega)];exact ih (fun q hq=>hp q (by simp [hq])) _
   rw [this _ (fun _ h=>h)]
def nk(ids:List Int)(r:Int→Nat)(k:Nat): Nat:=(ids.filter fun x=>r x == k).length
def bk(ids:List Int)(r:Int→Nat): Nat→Nat
 | 0=>1
 | k+1=>bk ids r k*(1+nk ids r k)
theorem bk_pos(ids:List Int)(r:Int→Nat): ∀k,0<bk ids r k
 | 0=>Nat.one_pos
 | k+1=>Nat.mul_pos (bk_pos ids r k) (by omega)
theorem sum_split(f:Int→Nat)(p:Int→Bool): ∀T:List Int,(T.map f).sum=((T.filter p).map f).sum+((T.filter fun x=>!p x).map f).sum
 | []=>rfl
 | x :: T=>by have:=sum_split f p T;cases hp:p x <;> simp [hp,this] <;> omega
theorem sum_const(f:Int→Nat)(c:Nat): ∀T:List Int,(∀x∈T,f x=c)→(T.map f).sum=T.length*c
 | [],_=>by simp
 | x :: T,h=>by rw [List.map_cons,List.sum_cons,h x List.mem_cons_self,sum_const f c T fun y hy=>h y (List.mem_cons_of_mem _ hy),List.length_cons,Nat.succ_mul];omega
theorem bk_sum(ids:List Int)(r:Int→Nat): ∀(k:Nat) (T:List Int),T.Nodup→(∀x∈T,x∈ids∧r x<k)→(T.map fun x=>bk ids r (r x)).sum+1≤bk ids r k
 | 0,T,_,h=>by
  cases T with
  | nil=>simp [bk]
  | cons x T=>exact absurd (h x List.mem_cons_self).2 (Nat.not_lt_zero _)
 | k+1,T,hn,h=>by
  rw [sum_split _ (fun x=>r x == k) T];have h1:=sum_const (fun x=>bk ids r (r x)) (bk ids r k) (T.filter fun x=>r x == k) fun x hx=>by have e:=(List.mem_filter.1 hx).2;simp only [beq_iff_eq]at e;rw [e]
  have h2:=bk_sum ids r k (T.filter fun x=>!(r x == k)) (hn.filter _) fun x hx=>by obtain⟨m1,m2⟩:=List.mem_filter.1 hx;obtain⟨q1,q2⟩:=h x m1;have m2:¬r x=k:=(by simpa using m2);exact⟨q1,by omega⟩
  have h3:=nodup_len (xs:=T.filter fun x=>r x == k) (us:=ids.filter fun x=>r x == k) (hn.filter _) fun x hx=>by obtain⟨m1,m2⟩:=List.mem_filter.1 hx;exact List.mem_filter.2 ⟨(h x m1).1,m2⟩
  have h4:=Nat.mul_le_mul_right (bk ids r k) h3;rw [h1];show _≤bk ids r k*(1+(ids.filter fun x=>r x == k).length);rw [Nat.mul_add,Nat.mul_one,Nat.mul_comm (bk ids r k) (ids.filter fun x=>r x == k).length];omega
theorem lt_succ_len(r:Int→Nat)(k:Nat): ∀ids:List Int,(ids.filter fun x=>decide (r x<k+1)).length=(ids.filter fun x=>decide (r x<k)).length+(ids.filter fun x=>r x == k).length
 | []=>rfl
 | x :: ids=>by
  have:=lt_succ_len r k ids;by_cases h1:r x<k
  ·have h2:¬r x=k:=(by omega);have h3:r x<k+1:=(by omega);simp [h1,h2,h3,this];omega
  by_cases h2:r x=k
  ·have h3:r x<k+1:=(by omega);simp [h2,this];omega
  have h3:¬r x<k+1:=by omega
  simp [h1,h2,h3,this]
theorem bk_bd(ids:List Int)(r:Int→Nat): ∀k,bk ids r k≤2 ^ (ids.filter fun x=>decide (r x<k)).length
 | 0=>by simpa [bk]using Nat.one_le_two_pow
 | k+1=>by
  have h:=bk_bd ids r k;rw [lt_succ_len,Nat.pow_add];have h2:1+nk ids r k≤2 ^ (ids.filter fun x=>r x == k).length:=by have:=(ids.filter fun x=>r x == k).length.lt_two_pow_self;unfold nk;omega
  exact Nat.mul_le_mul h h2
theorem bk_le(ids:List Int)(r:Int→Nat)(k:Nat): bk ids r k≤2 ^ ids.length:=
 Nat.le_trans (bk_bd ids r k) (Nat.pow_le_pow_right (by decide) (List.length_filter_le _ _))
def DocM.rk(d:DocM)(x:Int): Nat:=(depthM d.layers 2502 x).toNat
theorem fold_max_ge(f:Int→Int): ∀(ps:List Int) (m:Int),m≤ps.foldl (fun m p=>max m (f p)) m∧∀p∈ps,f p≤ps.foldl (fun m p=>max m (f p)) m
 | [],m=>⟨Int.le_refl _,fun p hp=>by cases hp⟩
 | q :: ps,m=>by
  obtain⟨h1,h2⟩:=fold_max_ge f ps (max m (f q));rw [List.foldl_cons];refine⟨by omega,fun p hp=>?_⟩;rcases List.mem_cons.1 hp with rfl | hp
  ·omega
  exact h2 p hp
theorem steps_layer{ls:List LayerM}{x y:Int}(h:y∈stepsM ls x): ∃l,layerAt ls x=some l∧y∈partsM l:=by
 unfold stepsM at h;unfold layerAt;cases ha:atN (ls.map (·.id)) x with
 | none=>rw [ha]at h;simp at h
 | some k=>
  rw [ha]at h;simp only at h ⊢;cases hl:ls[k]? with
  | none=>rw [hl]at h;simp at h
  | some l=>rw [hl]at h;exact⟨l,rfl,h⟩
theorem rk_step{d:DocM}(ht:d.Tidy)(hs:Short d.layers)(hok:d.Ok)(hkn:∀l∈d.layers,l.kidn=l.kids.length){x y:Int}(h:y∈stepsM d.layers x): d.rk y<d.rk x:=by
 obtain⟨l,hl,hy⟩:=steps_layer h;obtain⟨k,_,hk,_⟩:=layerAt_some hl;have hm:=List.mem_of_getElem? hk;have h24:l.kind=2∨l.kind=4:=by
  by_cases h4:l.kind=4
  ·exact .inr h4
  by_cases h2:l.kind=2
  ·exact .inl h2
  have h0:=(ht.lay l hm).nokids h2;rw [hkn l hm]at h0;unfold partsM at hy;rw [if_neg h4,List.eq_nil_of_length_eq_zero h0]at hy;cases hy
 have e:depthM d.layers 2502 x=(partsM l).foldl (fun m p=>max m (depthM d.layers 2501 p)) 0+1:=by rw [show (2502:Nat)=2501+1 from rfl];unfold depthM;rw [hl];exact if_pos h24
 have h1:=(fold_max_ge (depthM d.layers 2501) (partsM l) 0).2 y hy;have h2:=depth_stable d.layers 2501 y (low_any hs hok.acy y) 2502 (by omega);have h3:=(depth_bd d.layers 2501 y).1;unfold DocM.rk;omega
theorem kids_sub(r:Rc): ∀ks:List LayerM,List.Sublist ((kidDeps ks r).map (·.layer)) (ks.map (·.id))
 | []=>List.Sublist.refl _
 | l :: ks=>by
  rw [kidDeps_cons];split
  ·exact (kids_sub r ks).cons_cons _
  exact (kids_sub r ks).cons _
theorem fm_sub(ls:List LayerM): ∀ks:List Int,List.Sublist ((ks.filterMap (layerAt ls)).map (·.id)) ks
 | []=>List.Sublist.refl _
 | a :: ks=>by
  rw [List.filterMap_cons];cases h:layerAt ls a with
  | none=>exact (fm_sub ls ks).cons _
  | some l=>
   obtain⟨_,_,_,e⟩:=layerAt_some h;simp only [List.map_cons,e];exact (fm_sub ls ks).cons_cons _
theorem at_layer{ls:List LayerM}{a:Int}(h:(atN (ls.map (·.id)) a).isSome=true): ∃l,layerAt ls a=some l:=by
 unfold layerAt;cases ha:atN (ls.map (·.id)) a with
 | none=>rw [ha]at h;cases h
 | some k=>
  unfold atN at ha;rw [List.findIdx?_eq_some_iff_getElem]at ha;obtain⟨h1,_⟩:=ha;rw [List.length_map]at h1;exact⟨ls[k],List.getElem?_eq_getElem h1⟩
theorem kid_count{d:DocM}(hok:d.Ok){k:Nat}{l:LayerM}(hk:d.layers[k]?=some l)(a:Int): l.kids.count a≤1:=by
 by_cases ha:a∈l.kids
 ·have h1:=hok.kids k l hk;unfold kidsM at h1;rw [Bool.and_eq_true,List.all_eq_true]at h1;obtain⟨m,hm⟩:=at_layer (h1.1 a ha);obtain⟨j,_,hj,e⟩:=layerAt_some hm;have h2:=hok.kids j m hj;unfold kidsM at h2;rw [Bool.and_eq_true,e]at h2;have h3:cntL d.layers a d.layers.length≤1:=by have:=h2.2;split at this <;> simp at this <;> omega
  have h4:=cntL_step (id:=a) hk;have h5:cntL d.layers a d.layers.length=cntL d.layers a (k+1)+(((d.layers.drop (k+1)).map (·.kids)).flatten).count a:=by unfold cntL;rw [List.take_length,←List.count_append,←List.flatten_append,←List.map_append,List.take_append_drop]
  omega
 rw [List.count_eq_zero_of_not_mem ha];omega
theorem levs_mem{x:LayerM×Rc}(r:Rc): ∀ks:List LayerM,x∈levs ks r→x.1∈ks
 | [],h=>by cases h
 | l :: ks,h=>by
  unfold levs at h;split at h
  ·exact List.mem_cons_of_mem _ (levs_mem r ks h)
  rcases List.mem_cons.1 h with rfl | h
  ·exact List.mem_cons_self
  exact List.mem_cons_of_mem _ (levs_mem r ks h)
theorem put_one{x y:DepM}(h:y∈putD [] x): y=x∧x.r.empty=false:=by
 unfold putD at h;cases he:x.r.empty with
 | true=>rw [he]at h;simp at h
 | false=>rw [he]at h;exact⟨by simpa using h,rfl⟩
structure DepM.Fine(d:DocM)(x:Int)(y:DepM): Prop where
 full:y.r.empty=false
 inc:y.r.InC
 at_:∃l,layerAt d.layers y.layer=some l
 step:y.below=false→y.layer∈stepsM d.layers x
theorem deps_fine{d:DocM}(hok:d.Ok){x:Int}{r:Rc}{y:DepM}(h:y∈depsOf d.layers x r): y.Fine d x:=by
 unfold depsOf at h;cases hl:layerAt d.layers x with
 | none=>rw [hl]at h;cases h
 | some l=>
  rw [hl]at h;simp only at h;obtain⟨k,_,hk,hid⟩:=layerAt_some hl;split at h
  ·cases h
  rename_i he;have hc:=Rc.can_in (by simpa using he);unfold depsM at h;split at h
  ·rename_i h4;obtain⟨rfl,hf⟩:=put_one h;obtain⟨m,hm,_⟩:=hok.clone k l hk h4;exact⟨hf,Rc.can_in hf,⟨m,hm⟩,fun _=>by rw [steps_at hl];unfold partsM;rw [if_pos h4];exact List.mem_singleton.2 rfl⟩
  rename_i h4;split at h
  ·unfold kidDeps at h;obtain⟨z,hz,rfl⟩:=List.mem_map.1 h;have hz:=(List.mem_filter.1 hz).1;have hi:=levs_in _ hc z hz;obtain⟨a,ha,hla⟩:=List.mem_filterMap.1 (levs_mem _ _ hz);obtain⟨_,_,_,e⟩:=layerAt_some hla;subst e;exact⟨hi.full,hi,⟨_,hla⟩,fun _=>by rw [steps_at hl];unfold partsM;rw [if_neg h4];exact ha⟩
  split at h
  ·obtain⟨rfl,hf⟩:=put_one h;exact⟨hf,Rc.can_in hf,⟨l,hl⟩,fun h=>by cases h⟩
  cases h
def DepM.wt(d:DocM)(x:DepM): Nat:=if x.below=true then 1 else 2*bk d.ids d.rk (d.rk x.layer)
theorem wt_pos(d:DocM)(x:DepM): 1≤x.wt d:=by have:=bk_pos d.ids d.rk (d.rk x.layer);unfold DepM.wt;split <;> omega
theorem wt_sum(d:DocM): ∀ds:List DepM,(∀y∈ds,y.below=false)→(ds.map (·.wt d)).sum=2*((ds.map (·.layer)).map fun z=>bk d.ids d.rk (d.rk z)).sum
 | [],_=>rfl
 | y :: ds,h=>by
  have e:y.wt d=2*bk d.ids d.rk (d.rk y.layer):=by unfold DepM.wt;rw [h y List.mem_cons_self];rfl
  simp only [List.map_cons,List.sum_cons,e,wt_sum d ds fun z hz=>h z (List.mem_cons_of_mem _ hz)];omega
theorem deps_wt{d:DocM}(ht:d.Tidy)(hs:Short d.layers)(hok:d.Ok)(hkn:∀l∈d.layers,l.kidn=l.kids.length)(x:Int)(r:Rc): ((depsOf d.layers x r).map (·.wt d)).sum+1≤2*bk d.ids d.rk (d.rk x):=by
 have hb:=bk_pos d.ids d.rk (d.rk x);have key:∀ds:List DepM,(∀y∈ds,y.below=false∧y∈depsOf d.layers x r)→(ds.map (·.layer)).Nodup→(ds.map (·.wt d)).sum+1≤2*bk d.ids d.rk (d.rk x):=fun ds hd hn=>by
  rw [wt_sum d ds fun y hy=>(hd y hy).1];have:=bk_sum d.ids d.rk (d.rk x) (ds.map (·.layer)) hn fun z hz=>by obtain⟨y,hy,rfl⟩:=List.mem_map.1 hz;have f:=deps_fine hok (hd y hy).2;obtain⟨l,hl⟩:=f.at_;obtain⟨k,_,hk,e⟩:=layerAt_some hl;exact⟨List.mem_map.2 ⟨l,List.mem_of_getElem? hk,e⟩,rk_step ht hs hok hkn (f.step (hd y hy).1)⟩
  omega
 by_cases hbl:∀y∈depsOf d.layers x r,y.below=false
 ·refine key _ (fun y hy=>⟨hbl y hy,hy⟩) ?_;unfold depsOf;cases hl:layerAt d.layers x with
  | none=>exact List.nodup_nil
  | some l=>
   obtain⟨k,_,hk,_⟩:=layerAt_some hl;simp only;split
   ·exact List.nodup_nil
   have h1:∀z:DepM,((putD [] z).map (·.layer)).Nodup:=fun z=>by unfold putD;split <;> simp
   unfold depsM;split
   ·exact h1 _
   split
   ·exact (List.nodup_iff_count.2 (kid_count hok hk)).sublist ((kids_sub _ _).trans (fm_sub _ _))
   split
   ·exact h1 _
   exact List.nodup_nil
 have hone:(depsOf d.layers x r).length≤1∨∀y∈depsOf d.layers x r,y.below=false:=by
  unfold depsOf;cases hl:layerAt d.layers x with
  | none=>exact .inl (Nat.zero_le _)
  | some l=>
   simp only;split
   ·exact .inl (Nat.zero_le _)
   have h1:∀z:DepM,(putD [] z).length≤1:=fun z=>by unfold putD;split <;> simp
   unfold depsM;split
   ·exact .inl (h1 _)
   split
   ·exact .inr fun y hy=>by unfold kidDeps at hy;obtain⟨z,_,rfl⟩:=List.mem_map.1 hy;rfl
   split
   ·exact .inl (h1 _)
   exact .inl (Nat.zero_le _)
 rcases hone with h1 | h1
 ·match hds:depsOf d.layers x r,h1 with
  | [],_=>simp;omega
  | [y],_=>
   have:y.below=true:=by
    cases hy:y.below with
    | true=>rfl
    | false=>exact absurd (fun z hz=>by rw [hds,List.mem_singleton]at hz;rw [hz];exact hy) hbl
   simp only [List.map_cons,List.map_nil,List.sum_cons,List.sum_nil];unfold DepM.wt;rw [if_pos this];omega
 exact absurd h1 hbl
end Go.Proofs.YtbpklgllihhgpaaGreat
namespace Go.Proofs.YtbpklgllihhgpaaGreat
open Tryz Go.RowKit Go.Den
def potD(d:DocM)(qs:List DepM)(i:Nat): Nat:=i+((qs.drop i).map (·.wt d)).sum
theorem wt_len(d:DocM): ∀qs:List DepM,qs.length≤(qs.map (·.wt d)).sum
 | []=>Nat.le_refl _
 | x :: qs=>by have h1:=wt_len d qs;have h2:=wt_pos d x;simp only [List.length_cons,List.map_cons,List.sum_cons];omega
theorem pot_len(d:DocM)(qs:List DepM)(i:Nat)(h:i≤qs.length): qs.length≤potD d qs i:=by have:=wt_len d (qs.drop i);rw [List.length_drop]at this;unfold potD;omega
theorem drop_one{qs:List DepM}{i:Nat}{x:DepM}(h:qs[i]?=some x): qs.drop i=x :: qs.drop (i+1):=by obtain⟨hi,rfl⟩:=List.getElem?_eq_some_iff.1 h;exact List.drop_eq_getElem_cons hi
theorem pot_below(d:DocM){qs:List DepM}{i:Nat}{x:DepM}(h:qs[i]?=some x): potD d qs (i+1)≤potD d qs i:=by have:=wt_pos d x;unfold potD;rw [drop_one h];simp only [List.map_cons,List.sum_cons];omega
theorem pot_step{d:DocM}(ht:d.Tidy)(hs:Short d.layers)(hok:d.Ok)(hkn:∀l∈d.layers,l.kidn=l.kids.length){qs:List DepM}{i:Nat}{x:DepM}(h:qs[i]?=some x)(hb:x.below=false)(r:Rc):
  potD d (qs ++ depsOf d.layers x.layer r) (i+1)≤potD d qs i:=by
 have hi:=(List.getElem?_eq_some_iff.1 h).1;have h1:=deps_wt ht hs hok hkn x.layer r;have h2:x.wt d=2*bk d.ids d.rk (d.rk x.layer):=by unfold DepM.wt;rw [hb];rfl
 unfold potD;rw [drop_one h,List.drop_append_of_le_length (by omega)];simp only [List.map_cons,List.sum_cons,List.map_append,List.sum_append,h2];omega
theorem pot_take(d:DocM)(qs ds:List DepM)(i k:Nat)(hi:i≤qs.length): potD d (qs ++ ds.take k) i≤potD d (qs ++ ds) i:=by
 unfold potD;rw [List.drop_append_of_le_length hi,List.drop_append_of_le_length hi];simp only [List.map_append,List.sum_append];have h:(ds.map (·.wt d)).sum=((ds.take k).map (·.wt d)).sum+((ds.drop k).map (·.wt d)).sum:=by rw [←List.sum_append,←List.map_append,List.take_append_drop]
 omega
theorem pot_root{d:DocM}(h:d.layers.length≤9)(x:DepM)(hx:x.below=false): potD d [x] 0≤1024:=by
 have h1:=bk_le d.ids d.rk (d.rk x.layer);have h2:d.ids.length≤9:=by unfold DocM.ids;rw [List.length_map];exact h
 have h3:=Nat.pow_le_pow_right (n:=2) (by decide) h2;unfold potD DepM.wt;simp [hx];omega
end Go.Proofs.YtbpklgllihhgpaaGreat
