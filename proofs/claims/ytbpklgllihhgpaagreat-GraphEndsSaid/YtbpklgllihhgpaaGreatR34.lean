import Derived.Test.YtbpklgllihhgpaaGreatR21
import Derived.Test.YtbpklgllihhgpaaGreatR28
set_option maxRecDepth 100000
set_option maxHeartbeats 16000000
namespace Go.Proofs.YtbpklgllihhgpaaGreat
open Tryz Go.RowKit Go.Den
theorem lay_is(l:LayerM)(id:Int)(pb:Nat)(w:World)(hp:w.cell? ⟨pb,0,none⟩=some (.int .i64 id)):
  Calls prog 117 #[l.v,.pointer (some ⟨pb,0,none⟩)] w fun e w'=>e=.returned (.bool (l.id == id))∧Turn [] w w':=by
 have TL:=(tR w).alloc (.cells ⟨l.row⟩ 89);have p0:(w.alloc (.cells ⟨l.row⟩ 89)).cell? ⟨w,0,none⟩=some (.int .i64 l.id):=by simpa using layer_param l w 89 0 _ rfl
 have p1:(w.alloc (.cells ⟨l.row⟩ 89)).cell? ⟨pb,0,none⟩=some (.int .i64 id):=((tcell TL).1 _ _ (block_lt_of_cell hp)).trans hp;unfold LayerM.v;clear hp;generalize l.row=row at *;generalize l.id=x at *;go_enter func117,ntmps117;go_wp2_with fail
 go_ret;exact⟨rfl,TL⟩
theorem lay_index(ids:List Int)(ls:List LayerM)(hids:ids=ls.map (·.id))(A:Option Addr)(n cap:Nat)(hn:n≤50)(id:Int)(pb:Nat)(w:World)(h:LayersAt w A n ls)(hp:w.cell? ⟨pb,0,none⟩=some (.int .i64 id)):
  Calls prog 116 #[.slice A n cap,.func (.func 117) #[] #[.pointer (some ⟨pb,0,none⟩)]] w fun e w'=>e=.returned (.int .i64 (atM ids id))∧Turn [] w w':=by
 have hC:=fun h1=>h.cell h1;have hl:=h.1;have hlen:ids.length=n:=by rw [hids,hl];simp
 have HC:=lh hC;have HI:=lh hids;have HL:=lh hlen;have HP:=lh hp;clear hC hl h hids hlen hp;go_enter func116,ntmps116;go_wp2_with fail
 go_loopw [8] (fun s8 wr=>∃k:Nat,k≤n∧s8=k∧(∀i,i<k→ids[i]?≠some id)∧Turn [] w wr) (fun s8 _=>n - (intOf s8).toNat);case atStart=>exact⟨0,by omega,rfl,fun i hi=>absurd hi (Nat.not_lt_zero i),tR w⟩
 obtain⟨k,hk,rfl,hall,T⟩:=hrel;have HALL:=lh hall;clear hall;by_cases hlt:k<n
 ·obtain⟨g,o,rfl,hA⟩:=HC.out (by omega);have hls:k<ls.length:=by have:=HL.out;have:=HI.out;simp_all
  obtain⟨l,hl⟩:∃l,ls[k]?=some l:=⟨ls[k],by simp [hls]⟩;obtain⟨_,hR⟩:=hA wr T k l hl;have hz:ids[k]?=some l.id:=by rw [HI.out];simp [hl]
  have hq:=lay_is l id pb wr (((tcell T).1 _ _ (block_lt_of_cell HP.out)).trans HP.out);have hiL:(prog.info? 89).map (·.size)=some l.row.length:=(zero_of_info infoL).2;have HZ:=lh hz;have HT:=lh T;clear hA hl hls T hz;have b0:(0:Int)≤(k:Int):=by omega
  have b1:(k:Int)<(n:Int):=by omega
  unfold LayerM.v at hq;generalize l.row=row at *;cases hb:(l.id == id)with
  | true=>
   rw [hb]at hq;have HB:=lh hb;have HQ:=lh hq;clear hb hq;go_wp2_with (first
    | (refine wpList_load_mid rfl 89 _ rfl _ _ rfl _ _ hR underlying89 rfl hiL ?_)
    | (go_at_call 117;refine HQ.out.mono ?_;rintro e w1 ⟨rfl,ht⟩))
   go_ret;refine⟨?_,HT.out.trans ht⟩;rw [atM,atN_some (by rw [HZ.out];simpa using HB.out) HALL.out];rfl
  | false=>
   rw [hb]at hq;have HB:=lh hb;have HQ:=lh hq;clear hb hq;go_wp2_with (first
    | (refine wpList_load_mid rfl 89 _ rfl _ _ rfl _ _ hR underlying89 rfl hiL ?_)
    | (go_at_call 117;refine HQ.out.mono ?_;rintro e w1 ⟨rfl,ht⟩))
   go_roundw;case rel=>exact⟨k+1,by omega,by go_num,fun i hi=>by
    by_cases h:i<k
    ·exact HALL.out i h
    obtain rfl:i=k:=(by omega);rw [HZ.out];have:=HB.out;intro e;rw [Option.some.inj e]at this;simp at this,HT.out.trans ht⟩
   simp [intOf];omega
 obtain rfl:k=n:=by omega
 go_wp2_with fail
 go_ret;exact⟨by rw [atM,atN_none (fun i hi=>HALL.out i (by have:=HL.out;omega))];rfl,T⟩
theorem cell_of{w:World}{g i:Nat}{L:Array Value}{t:TypeId}(hg:w.heap[g]?=some (.cells L t (0,0))){v:Value}(hv:L[i]?=some v): w.cell? ⟨g,i,none⟩=some v:=by rw [cell_of_row _ _ _ _ _ _ hg];exact hv
theorem frozen_of{w:World}{g:Nat}{L:Array Value}{t:TypeId}(hg:w.heap[g]?=some (.cells L t (0,0)))(i:Nat): w.frozen? ⟨g,i,none⟩=false:=by simp [World.frozen?,hg]
theorem ref_wide(f:Fv)(ks cs:List Int)(r:Rc)(hr:r.bd)(w:World)(hk:IntsAt w f.kA f.kn ks)(hc:IntsAt w f.cA f.cn cs): Calls prog 84 #[f.v,r.v] w fun e w'=>e=.returned ((r.join (f.area (fltB f ks cs) r (-1))).can).v∧Turn [] w w':=by
 have hN:=fun u (t:Turn [] w u)=>ref_need f ks cs r hr u (hk.turn t) (hc.turn t);have hJ:=ref_join r (f.area (fltB f ks cs) r (-1));have hC:=ref_can (r.join (f.area (fltB f ks cs) r (-1)));generalize (r.join (f.area (fltB f ks cs) r (-1))).can=m at *;generalize r.join (f.area (fltB f ks cs) r (-1))=b at *;generalize f.area (fltB f ks cs) r (-1)=a at *;clear hk hc hr;obtain⟨k,rad,kA,kn,kc,dv,vl,cA,cn,cc⟩:=f;obtain⟨x0,x1,x2,x3⟩:=r;obtain⟨m0,m1,m2,m3⟩:=m;obtain⟨b0,b1,b2,b3⟩:=b;obtain⟨a0,a1,a2,a3⟩:=a;simp only [Rc.v,Fv.v]at *;have HN:=lh hN;have HJ:=lh hJ;have HC:=lh hC;clear hN hJ hC;obtain⟨W,hW⟩:∃W,W=(((w.alloc (.cells #[k,rad,.slice kA kn kc,dv,vl,.slice cA cn cc] 83)).alloc (.cells #[x0,x1,x2,x3] 24)).alloc (.cells #[(0:Int),(0:Int),(0:Int),(0:Int)] 24)):=⟨_,rfl⟩;have T0:Turn [] w W:=hW ▸ (((tR w).alloc _).alloc _).alloc _;have hWs:w.heap.size+3≤W.heap.size:=by rw [hW];simp
 obtain⟨q0_0,q0_1,q0_2,q0_3,q0_4,q0_5⟩:=cs6 (al3 hW).1;obtain⟨q1_0,q1_1,q1_2,q1_3⟩:=cs4 (al3 hW).2.1;obtain⟨q2_0,q2_1,q2_2,q2_3⟩:=cs4 (al3 hW).2.2;have zf:∀i,W.frozen? ⟨w.heap.size+2,i,none⟩=false:=fun i=>by rw [hW];simp [go_sem]
 go_enter func84,ntmps84;go_upto_region 1 with (fail)
 rw [←hW];clear hW;refine AnyTill.start (fun w'=>Turn [] W w') 6 (by kernel_rfl) ?_;have hS:Turn [] W W.drew:=(tR W).drawn 1;generalize W.drew=V at *;refine tk 0 9 5 (.agg #[x0,x1,x2,x3]) hS ?_ (hy:=fun w' hw=>by have e1_0:=tc hw q1_0;have e1_1:=tc hw q1_1;have e1_2:=tc hw q1_2;have e1_3:=tc hw q1_3;go_simp);try go_frame
 refine tk 1 9 6 (.agg #[k,rad,.slice kA kn kc,dv,vl,.slice cA cn cc]) hS ?_ (hy:=fun w' hw=>by have e0_0:=tc hw q0_0;have e0_1:=tc hw q0_1;have e0_2:=tc hw q0_2;have e0_3:=tc hw q0_3;have e0_4:=tc hw q0_4;have e0_5:=tc hw q0_5;go_simp);try go_frame
 refine tk 2 9 7 (.agg #[x0,x1,x2,x3]) hS ?_ (hy:=fun w' hw=>by have e1_0:=tc hw q1_0;have e1_1:=tc hw q1_1;have e1_2:=tc hw q1_2;have e1_3:=tc hw q1_3;go_simp);try go_frame
 refine tk1 3 fun K hK=>?_;go_simp;refine (HN.out _ (T0.trans hS)).mono ?_;rintro e wy ⟨rfl,ht⟩;have hS:=hS.trans ht;clear ht;refine hK _ _ (fun _=>hS) ?_;clear hK K;try go_frame
 refine tk1 4 fun K hK=>?_;go_simp;refine (HJ.out _).mono ?_;rintro e wy ⟨rfl,ht⟩;have hS:=hS.trans ht;clear ht;refine hK _ _ (fun _=>hS) ?_;clear hK K;try go_frame
 refine tk1 5 fun K hK=>?_;go_simp;refine (HC.out _).mono ?_;rintro e wy ⟨rfl,ht⟩;have hS:=hS.trans ht;clear ht;refine hK _ _ (fun _=>hS) ?_;clear hK K;try go_frame
 obtain⟨hc,hf⟩:=tcell hS;have z0:=tq hc q2_0;have z1:=tq hc q2_1;have z2:=tq hc q2_2;have z3:=tq hc q2_3;have zg:=fun i=>(hf (w.heap.size+2) i (by omega)).trans (zf i);clear hc hf;refine tk1 6 fun K hK=>?_;go_simp;refine hK _ _ (fun h=>absurd rfl h) ?_;clear hK K;try go_frame
 refine tkd ?_;go_wp2_with fail
 exact bodyPost_ret (v:=.agg #[m0,m1,m2,m3]) (by simp [results,results84,go_sem,z0,z1,z2,z3]) rfl ⟨rfl,(((((T0.trans hS).sc).sc).sc).sc)⟩
end Go.Proofs.YtbpklgllihhgpaaGreat
