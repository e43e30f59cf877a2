import Derived.Test.YtbpklgllihhgpaaGreatA31
set_option maxRecDepth 100000
set_option maxHeartbeats 16000000
namespace Go.Proofs.YtbpklgllihhgpaaGreat
open Tryz Go.RowKit Go.Den
def Cf:List Int→Int→Nat→Option Nat
 | [],_,_=>none
 | x :: xs,id,k=>if x=id then some k else Cf xs id (k+1)
def kE:List bI→Int→Option (Int×Nat)
 | [],_=>none
 | l :: ls,id=>if l.kind=2 then (match Cf l.kids id 0 with
  | some k=>some (l.id,k)
  | none=>kE ls id) else kE ls id
def VJ(o:Option (Int×Nat)): Int:=match o with
 | some (p,_)=>p
 | none=>0
def UY(o:Option (Int×Nat)): Int:=match o with
 | some (_,k)=>(k:Int)
 | none=>0
theorem Gh{ks:List Int}{j:Nat}(h:j<ks.length): ks.drop j=ks.getD j 0 :: ks.drop (j+1):=by rw [List.drop_eq_getElem_cons h];simp [List.getD,h]
theorem DK{ls:List bI}{k:Nat}{l:bI}(h:ls[k]?=some l)(id:Int): kE (ls.drop k) id=if l.kind=2 then (match Cf l.kids id 0 with
  | some k=>some (l.id,k)
  | none=>kE (ls.drop (k+1)) id) else kE (ls.drop (k+1)) id:=by
 obtain⟨hk,rfl⟩:=ah.1 h;rw [List.drop_eq_getElem_cons hk];rfl
theorem Gq(d:df)(id:Int)(w:World)(h:d.At w): Calls prog 96 #[d.v,id] w fun e w'=>e=.returned (.agg #[.int .i64 (VJ (kE d.layers id)),.int .i64 (UY (kE d.layers id)),.bool (kE d.layers id).isSome])∧bH [] w w':=by
 have hL:=h.layers;have hsm:=h.small;have hn:=hL.1;have hC:=fun h1=>hL.cell h1;clear h hL;obtain⟨sA,sn,sc,spaces,root,next,lA,ln,lc,layers⟩:=d;simp only [df.v]at *;have HC:=lh hC;have HN:=lh hn;clear hC hn;go_enter func96,ntmps96;go_wp2_with fail
 obtain⟨W,hW⟩:∃W,W=(w.alloc (.cells #[.slice sA sn sc,root,next,.slice lA ln lc] 29)).alloc (.cells #[(0:Int),(0:Int),.bool false] 168):=⟨_,rfl⟩;have TW:bH [] w W:=hW ▸ ((tR w).alloc _).alloc _;have w3:=kU 3 (JK hW).1 rfl;obtain⟨z0,z1,z2⟩:=WP (JK hW).2;have zf:∀i,W.frozen? ⟨w.heap.size+1,i,none⟩=false:=fun i=>by rw [hW];simp [go_sem]
 rw [←hW];go_loopw [5] (fun s5 wr=>∃k:Nat,k≤ln∧s5=k∧bH [] W wr∧kE (layers.drop k) id=kE layers id) (fun s5 _=>ln - (intOf s5).toNat);case atStart=>exact⟨0,by omega,rfl,tR W,rfl⟩
 obtain⟨k,hk,rfl,T,hpar⟩:=hrel;have HPAR:=lh hpar;clear hpar;have T1:=TW.trans T;have w3:wr.cell? ⟨w,3,none⟩=some (.slice lA ln lc):=by rw [(bY T).1 _ _ (ai w3)];exact w3
 have hb1:=ai z0;have z0:wr.cell? ⟨w.heap.size+1,0,none⟩=some (.int .i64 0):=by rw [(bY T).1 _ _ hb1];exact z0
 have z1:wr.cell? ⟨w.heap.size+1,1,none⟩=some (.int .i64 0):=by rw [(bY T).1 _ _ hb1];exact z1
 have z2:wr.cell? ⟨w.heap.size+1,2,none⟩=some (.bool false):=by rw [(bY T).1 _ _ hb1];exact z2
 have zf:∀i,wr.frozen? ⟨w.heap.size+1,i,none⟩=false:=fun i=>by rw [(bY T).2 _ _ hb1];exact zf i
 by_cases hlt:k<ln
 ·obtain⟨g,o,rfl,hA⟩:=HC.o (by omega);have hls:k<layers.length:=by have:=HN.o;omega
  obtain⟨l,hl⟩:∃l,layers[k]?=some l:=⟨layers[k],by simp [hls]⟩;obtain⟨hAt,hR⟩:=hA wr T1 k l hl;have hstep:=DK hl id;rw [HPAR.o]at hstep;have HSTEP:=lh hstep;clear hstep;have hiL:(prog.info? 89).map (·.size)=some l.row.length:=(zero_of_info rX).2;have hst:=pX l wr;have hal:=oM wr;have b0:(0:Int)≤(k:Int):=by omega
  have b1:(k:Int)<(ln:Int):=by omega
  have hp:=jg l wr 89;have p0:=kQ hp 0 l.id rfl;have p1:=kQ hp 1 l.kind rfl;have p15:=kQ hp 15 (.slice l.Xi l.Xh l.Xj) rfl;have TL:=(tR wr).alloc (.cells ⟨l.row⟩ 89);have hkids:=hAt.kids;have hkb:=hAt.Xk;clear hp hAt hA hl hls;generalize l.row=row at *;generalize l.Xi=kA at *;generalize l.Xh=kn at *;generalize l.Xj=kc at *;have HK:=lh hkids;clear hkids;go_wp2_with (first
   | (refine wpList_load_mid rfl 89 _ rfl _ _ rfl _ _ hR underlying89 rfl hiL ?_)
   | (refine bU rfl 89 _ _ rfl rfl rfl hst ?_))
  have hbw:=ai z0;have y0:(wr.alloc (.cells ⟨row⟩ 89)).cell? ⟨w.heap.size+1,0,none⟩=some (.int .i64 0):=by rw [(bY TL).1 _ _ hbw];exact z0
  have y1:(wr.alloc (.cells ⟨row⟩ 89)).cell? ⟨w.heap.size+1,1,none⟩=some (.int .i64 0):=by rw [(bY TL).1 _ _ hbw];exact z1
  have y2:(wr.alloc (.cells ⟨row⟩ 89)).cell? ⟨w.heap.size+1,2,none⟩=some (.bool false):=by rw [(bY TL).1 _ _ hbw];exact z2
  have yf:∀i,(wr.alloc (.cells ⟨row⟩ 89)).frozen? ⟨w.heap.size+1,i,none⟩=false:=fun i=>by rw [(bY TL).2 _ _ hbw];exact zf i
  have TK:bH [] W (wr.alloc (.cells ⟨row⟩ 89)):=T.trans TL;have TX:bH [] w (wr.alloc (.cells ⟨row⟩ 89)):=T1.trans TL;have HK2:Hid (dn (wr.alloc (.cells ⟨row⟩ 89)) kA kn l.kids):=lh (HK.o.turn TL);clear z0 z1 z2 zf hst hal hR hiL w3 HK;generalize wr.heap.size=b at *;generalize wr.alloc (.cells ⟨row⟩ 89)=V at *;clear TL T T1;have hkl:kn=l.kids.length:=HK2.o.1;have HKL:=lh hkl;clear hkl;go_loopw [7] (fun s7 v=>∃j:Nat,j≤kn∧s7=j∧v=V∧Cf (l.kids.drop j) id j=Cf l.kids id 0) (fun s7 _=>kn - (intOf s7).toNat);case atStart=>exact⟨0,by omega,rfl,rfl,rfl⟩
  obtain⟨j,hj,rfl,rfl,hidx⟩:=hrel;have HIDX:=lh hidx;clear hidx;by_cases hjl:j<kn
  ·obtain⟨g2,o2,rfl,hA2⟩:=HK2.o.cell (by omega);have hcell:=hA2 _ (tR _) j hjl;clear hA2;have hdr:=Gh (ks:=l.kids) (j:=j) (by have:=HKL.o;omega);generalize l.kids.getD j 0=q at *;have HDR:=lh hdr;clear hdr;have c0:(0:Int)≤(j:Int):=(by omega);have c1:(j:Int)<(kn:Int):=(by omega);by_cases hk2:l.kind=2
   ·rw [hk2]at p1;have HK2K:=lh hk2;clear hk2;by_cases hq:q=id
    ·subst hq;(go_wp2_with fail);refine ag (v:=.agg #[l.id,j,.bool true]) (by simp [results,results96,go_sem,y0,y1,y2]) rfl ⟨?_,?_⟩
     ·have h1:=HSTEP.o;have h2:=HIDX.o;rw [HDR.o]at h2;rw [show Cf (q :: l.kids.drop (j+1)) q j=some j from aG rfl]at h2;rw [aG HK2K.o,←h2]at h1;rw [h1];rfl
     exact ((TX.sc).sc).sc
    (go_wp2_with fail);go_roundw;case rel=>exact⟨j+1,by omega,by go_num,by first | rfl | trivial,by have h2:=HIDX.o;rw [HDR.o]at h2;rw [←h2];exact (aF hq).symm⟩
    simp [intOf];omega
   have HPN:=lh (show kE (layers.drop (k+1)) id=kE layers id by rw [HSTEP.o,aF hk2]);(go_wp2_with fail);exact⟨⟨k+1,by omega,by go_num,TK,HPN.o⟩,by simp [intOf];omega⟩
  obtain rfl:j=kn:=by omega
  have HPN:=lh (show kE (layers.drop (k+1)) id=kE layers id by
   have h1:=HSTEP.o;have h2:=HIDX.o;rw [List.drop_of_length_le (by have:=HKL.o;omega)]at h2;rw [←h2]at h1;rw [h1];split <;> rfl)
  go_wp2_with fail
  exact⟨⟨k+1,by omega,by go_num,TK,HPN.o⟩,by simp [intOf];omega⟩
 obtain rfl:k=ln:=by omega
 have HPN:=lh (show kE layers id=none by rw [←HPAR.o,List.drop_of_length_le (by have:=HN.o;omega)];rfl);go_wp2_with fail
 refine ag (v:=.agg #[(0:Int),(0:Int),.bool false]) (by simp [results,results96,go_sem,z0,z1,z2]) rfl ⟨by rw [HPN.o];rfl,?_⟩;exact ((T1.sc).sc).sc
def Uo(ks:List Int)(id:Int): Int:=match Cf ks id 0 with
 | some k=>(k:Int)
 | none=>-1
theorem Ji(ks:List Int)(id:Int)(A:Option Addr)(n cap:Nat)(hb:n≤50)(w:World)(h:dn w A n ks):
  Calls prog 189 #[.slice A n cap,id] w fun e w'=>e=.returned (.int .i64 (Uo ks id))∧bH [] w w':=by
 have hn:=h.1;have HI:=lh h;have HN:=lh hn;clear h hn;go_enter func189,ntmps189;go_wp2_with fail
 go_loopw [8] (fun s8 v=>∃j:Nat,j≤n∧s8=j∧v=w∧Cf (ks.drop j) id j=Cf ks id 0) (fun s8 _=>n - (intOf s8).toNat);case atStart=>exact⟨0,by omega,rfl,rfl,rfl⟩
 obtain⟨j,hj,rfl,rfl,hidx⟩:=hrel;have HIDX:=lh hidx;clear hidx;by_cases hjl:j<n
 ·obtain⟨g,o,rfl,hc⟩:=HI.o.2 j hjl;have hdr:=Gh (ks:=ks) (j:=j) (by have:=HN.o;omega);generalize ks.getD j 0=q at *;have HDR:=lh hdr;have c0:(0:Int)≤(j:Int):=by omega
  have c1:(j:Int)<(n:Int):=by omega
  clear hdr;by_cases hq:id=q
  ·subst hq;have h2:=HIDX.o;rw [HDR.o,show Cf (id :: ks.drop (j+1)) id j=some j from aG rfl]at h2;have H2:=lh h2;clear h2;(go_wp2_with fail);go_ret;exact⟨by unfold Uo;rw [←H2.o];rfl,tR _⟩
  have h2:=HIDX.o;rw [HDR.o,show Cf (q :: ks.drop (j+1)) id j=Cf (ks.drop (j+1)) id (j+1) from aF fun e=>hq e.symm]at h2;have H2:=lh h2;clear h2;go_wp2_with fail
  go_roundw;case rel=>exact⟨j+1,by omega,by go_num,by first | rfl | trivial,H2.o⟩
  simp [intOf];omega
 obtain rfl:j=n:=by omega
 have h2:=HIDX.o;rw [List.drop_of_length_le (by have:=HN.o;omega)]at h2;have H2:=lh h2;clear h2;go_wp2_with fail
 go_ret;exact⟨by unfold Uo;rw [←H2.o];rfl,tR _⟩
theorem Ef(d:df)(id:Int)(w:World)(h:d.At w): Calls prog 148 #[d.v,id] w fun e w'=>e=.returned (.tuple #[.int .i64 (VJ (kE d.layers id)),.int .i64 (UY (kE d.layers id)),.bool (kE d.layers id).isSome])∧bH [] w w':=by
 have hL:=h.layers;have hsm:=h.small;have hn:=hL.1;have hC:=fun h1=>hL.cell h1;clear h hL;obtain⟨sA,sn,sc,spaces,root,next,lA,ln,lc,layers⟩:=d;simp only [df.v]at *;have HC:=lh hC;have HN:=lh hn;clear hC hn;go_enter func148,ntmps148;go_wp2_with fail
 obtain⟨W,hW⟩:∃W,W=w.alloc (.cells #[.slice sA sn sc,root,next,.slice lA ln lc] 29):=⟨_,rfl⟩;have TW:bH [] w W:=hW ▸ (tR w).alloc _;rw [←hW];clear hW;go_loopw [13] (fun s13 wr=>∃k:Nat,k≤ln∧s13=k∧bH [] W wr∧kE (layers.drop k) id=kE layers id) (fun s13 _=>ln - (intOf s13).toNat);case atStart=>exact⟨0,by omega,rfl,tR W,rfl⟩
 obtain⟨k,hk,rfl,T,hpar⟩:=hrel;have HPAR:=lh hpar;clear hpar;have T1:=TW.trans T;by_cases hlt:k<ln
 ·obtain⟨g,o,rfl,hA⟩:=HC.o (by omega);have hls:k<layers.length:=by have:=HN.o;omega
  obtain⟨l,hl⟩:∃l,layers[k]?=some l:=⟨layers[k],by simp [hls]⟩;obtain⟨hAt,hR⟩:=hA wr T1 k l hl;have hstep:=DK hl id;rw [HPAR.o]at hstep;have HSTEP:=lh hstep;have hiL:(prog.info? 89).map (·.size)=some l.row.length:=(zero_of_info rX).2;have hst:=pX l wr;have hal:=oM wr;have b0:(0:Int)≤(k:Int):=by omega
  have b1:(k:Int)<(ln:Int):=by omega
  have TL:=(tR wr).alloc (.cells ⟨l.row⟩ 89);have hnew:(wr.alloc (.cells ⟨l.row⟩ 89)).heap[wr.heap.size]?=some (.cells ⟨l.row⟩ 89 (0,0)):=heap_alloc_new _ _;have hix:=fun u (t:bH [] (wr.alloc (.cells ⟨l.row⟩ 89)) u)=>Ji l.kids id l.Xi l.Xh l.Xj hAt.Xk u (hAt.kids.turn (TL.trans t));have HIX:=lh hix;have HT:=lh (T.trans TL);have HTW:=lh TW;clear hAt hA hl hls hstep hix T T1 TL;have p0:=bJ (i:=0) (v:=l.id) hnew rfl;have p1:=bJ (i:=1) (v:=l.kind) hnew rfl;have p15:=bJ (i:=15) (v:=.slice l.Xi l.Xh l.Xj) hnew rfl;have HNEW:=lh hnew;clear hnew;generalize hrow:l.row=row at *;clear hrow;go_upto_region 4 with (first
   | (refine wpList_load_mid rfl 89 _ rfl _ _ rfl _ _ hR underlying89 rfl hiL ?_)
   | (refine bU rfl 89 _ _ rfl rfl rfl hst ?_))
  clear hst hal hR hiL;generalize wr.alloc (.cells ⟨row⟩ 89)=V at *;generalize wr.heap.size=b at *;have hcase:(l.kind=2∧∃j:Nat,Cf l.kids id 0=some j)∨kE (layers.drop (k+1)) id=kE layers id:=by
   have h1:=HSTEP.o;by_cases hk2:l.kind=2
   ·rw [aG hk2]at h1;cases hm:Cf l.kids id 0 with
    | some j=>exact .inl ⟨hk2,j,rfl⟩
    | none=>rw [hm]at h1;exact .inr h1.symm
   rw [aF hk2]at h1;exact .inr h1.symm
  have HCASE:=lh hcase;clear hcase;have hneg:Cf l.kids id 0=none→Uo l.kids id=-1:=fun h=>by unfold Uo;rw [h]
  have HNEG:=lh hneg;clear hneg;have hfin:∀j:Nat,l.kind=2→Cf l.kids id 0=some j→kE layers id=some (l.id,j)∧Uo l.kids id=(j:Int):=fun j h1 h2=>⟨by have h3:=HSTEP.o;rw [aG h1,h2]at h3;exact h3,by unfold Uo;rw [h2]⟩;have HFIN:=lh hfin;clear hfin;go_upto_region 5 with (go_at_call 189;refine (HIX.o _ (tR V)).mono ?_;rintro e w5 ⟨rfl,ht5⟩)
  have hbl:=(ae.1 HNEW.o).1;have p0:=((bY ht5).1 b 0 hbl).trans p0;have p1:=((bY ht5).1 b 1 hbl).trans p1;have HT5:=lh (HT.o.trans ht5);clear p15 ht5 hbl HNEW HT HIX;by_cases hk2:l.kind=2
  ·cases hm:Cf l.kids id 0 with
   | some j=>
    obtain⟨e1,e2⟩:=HFIN.o j hk2 hm;rw [hk2]at p1;rw [e2];have HE1:=lh e1;clear e1 e2 hm hk2;(go_wp2_with fail);exact ag (v:=.tuple #[l.id,j,.bool true]) (by simp [results,results148]) rfl ⟨by rw [HE1.o];rfl,HTW.o.trans HT5.o⟩
   | none=>
    have e2:=HNEG.o hm;have HP2:=lh (HCASE.o.resolve_left fun h=>by obtain⟨_,j,hj⟩:=h;rw [hm]at hj;cases hj);rw [hk2]at p1;rw [e2];clear e2 hm hk2;(go_wp2_with fail);go_roundw;case rel=>exact⟨k+1,by omega,by go_num,HT5.o,HP2.o⟩
    simp [intOf];omega
  have HP2:=lh (HCASE.o.resolve_left fun h=>hk2 h.1);generalize Uo l.kids id=z at *;go_wp2_with fail
  go_roundw;case rel=>exact⟨k+1,by omega,by go_num,HT5.o,HP2.o⟩
  simp [intOf];omega
 obtain rfl:k=ln:=by omega
 have HPN:=lh (show kE layers id=none by rw [←HPAR.o,List.drop_of_length_le (by have:=HN.o;omega)];rfl);go_wp2_with fail
 exact ag (v:=.tuple #[(0:Int),(0:Int),.bool false]) (by simp [results,results148]) rfl ⟨by rw [HPN.o];rfl,T1⟩
end Go.Proofs.YtbpklgllihhgpaaGreat
