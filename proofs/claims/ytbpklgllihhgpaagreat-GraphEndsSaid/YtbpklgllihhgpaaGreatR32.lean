import Derived.Test.YtbpklgllihhgpaaGreatR26
import Derived.Test.YtbpklgllihhgpaaGreatR27
import Derived.Test.YtbpklgllihhgpaaGreatR28
set_option maxRecDepth 100000
set_option maxHeartbeats 16000000
namespace Go.Proofs.YtbpklgllihhgpaaGreat
open Tryz Go.RowKit Go.Den
def layerAt(ls:List LayerM)(id:Int): Option LayerM:=match atN (ls.map (·.id)) id with | some k=>ls[k]? | none=>none
def depthM(ls:List LayerM): Nat→Int→Int
 | 0,_=>0
 | n+1,id=>match layerAt ls id with
  | none=>0
  | some l=>if l.kind=2∨l.kind=4 then (partsM l).foldl (fun m p=>max m (depthM ls n p)) 0+1 else 0
inductive Low(ls:List LayerM): Nat→Int→Prop where
 | mk {n:Nat} {id:Int} (h:∀y∈stepsM ls id,Low ls n y):Low ls (n+1) id
theorem steps_at{ls:List LayerM}{id:Int}{l:LayerM}(h:layerAt ls id=some l): stepsM ls id=partsM l:=by
 unfold layerAt at h;unfold stepsM;cases ha:atN (ls.map (·.id)) id with
 | none=>rw [ha]at h;cases h
 | some k=>rw [ha]at h;simp only at h ⊢;rw [h]
theorem low_of_free{ls:List LayerM}(hf:∀x,¬Reach ls x x): ∀(k:Nat) (id:Int) (vis:List Int),vis.Nodup→(∀v∈vis,v∈univ ls)→(∀v∈vis,v=id∨Reach ls v id)→(univ ls).length<vis.length+k→Low ls k id
 | 0,_,vis,hn,hu,_,hl=>absurd (nodup_len hn hu) (by omega)
 | k+1,id,vis,hn,hu,hr,hl=>.mk fun y hy=>by
  have hxy:Reach ls id y:=.one hy;have hry:∀v∈vis,Reach ls v y:=fun v hv=>(hr v hv).elim (fun e=>e ▸ hxy) fun h=>.tail h hy;refine low_of_free hf k y (y :: vis) (List.nodup_cons.2 ⟨fun hm=>hf y (hry y hm),hn⟩) (fun v hv=>?_) (fun v hv=>?_) (by simp only [List.length_cons];omega)
  ·rcases List.mem_cons.1 hv with rfl | hv
   ·exact reach_univ hxy
   exact hu v hv
  rcases List.mem_cons.1 hv with rfl | hv
  ·exact .inl rfl
  exact .inr (hry v hv)
theorem low_any{ls:List LayerM}(hs:Short ls)(hf:∀x,¬Reach ls x x)(id:Int): Low ls 2501 id:=
 low_of_free hf 2501 id [] List.nodup_nil (by simp) (by simp) (by have:=univ_len hs;simp;omega)
theorem fold_max_bd(f:Int→Int)(N:Int): ∀(ps:List Int) (m:Int),0≤m→m≤N→(∀p∈ps,0≤f p∧f p≤N)→0≤ps.foldl (fun m p=>max m (f p)) m∧ps.foldl (fun m p=>max m (f p)) m≤N
 | [],m,h0,h1,_=>⟨h0,h1⟩
 | p :: ps,m,h0,h1,h=>by have:=h p (by simp);exact fold_max_bd f N ps (max m (f p)) (by omega) (by omega) fun q hq=>h q (by simp [hq])
theorem depth_bd(ls:List LayerM): ∀(n:Nat) (id:Int),0≤depthM ls n id∧depthM ls n id≤n
 | 0,_=>⟨Int.le_refl _,Int.le_refl _⟩
 | n+1,id=>by
  unfold depthM;cases layerAt ls id with
  | none=>simp only;omega
  | some l=>
   simp only;split
   ·have:=fold_max_bd (depthM ls n) n (partsM l) 0 (by omega) (by omega) fun p _=>depth_bd ls n p;omega
   omega
theorem ref_depth(d:DocM)(hsh:Short d.layers): ∀(n:Nat) (id:Int),Low d.layers n id→n≤3000→∀(w:World),d.At w→Calls prog 75 #[d.v,id] w fun e w'=>e=.returned (.int .i64 (depthM d.layers n id))∧Turn [] w w'
 | 0,_,h,_,_,_=>by cases h
 | n+1,id,.mk hlow,hn3,w,h=>by
  have ih:=fun p (hp:p∈stepsM d.layers id) u (hu:d.At u)=>ref_depth d hsh n p (hlow p hp) (by omega) u hu;have hA:=ref_at d id;have hC:=fun h1=>h.layers.cell h1;have hn:=h.layers.1;have hlen:d.ids.length=d.ln:=by rw [h.layers.1];simp [DocM.ids]
  have HAt:=lh h;have hsm:=h.small;have hid:d.ids=d.layers.map (·.id):=rfl;have hbd:=depth_bd d.layers n;clear h hlow;generalize d.ids=ids at *;obtain⟨sA,sn,sc,spaces,root,next,lA,ln,lc,layers⟩:=d;simp only [DocM.v]at *;have T0:=(tR w).alloc (.cells #[.slice sA sn sc,root,next,.slice lA ln lc] 29);have HIH:=lh ih;have HA:=lh hA;have HC:=lh hC;have HN:=lh hn;have HID:=lh hid;have HBD:=lh hbd;clear hA hC hn hid ih hbd;obtain⟨W,hW⟩:∃W,W=w.alloc (.cells #[.slice sA sn sc,root,next,.slice lA ln lc] 29):=⟨_,rfl⟩;obtain⟨q0,q1,q2,q3⟩:=cs4 (al1 hW);have hWs:W.heap.size=w.heap.size+1:=by rw [hW];simp
  rw [←hW]at T0;cases hat:atN ids id with
  | none=>
   have hs:depthM layers (n+1) id=0:=(by unfold depthM layerAt;rw [←HID.out,hat]);have ham:atM ids id=-1:=(by unfold atM;rw [hat]);rw [hs];rw [ham]at HA;go_enter func75,ntmps75;(go_upto_region 1 with (fail));rw [←hW];clear hW;(go_wp2_with (go_at_call 20;refine (HA.out _ (HAt.out.turn T0)).mono ?_;rintro e w1 ⟨rfl,ht1⟩));go_ret;exact⟨rfl,T0.trans ht1⟩
  | some k=>
   have hk:k<ln:=(by have:=(List.findIdx?_eq_some_iff_getElem.1 hat).1;omega);have hls:k<layers.length:=(by have:=HN.out;omega);obtain⟨l,hl⟩:∃l,layers[k]?=some l:=⟨layers[k],by simp [hls]⟩;have hla:layerAt layers id=some l:=(by unfold layerAt;rw [←HID.out,hat];exact hl);have hst:=steps_at hla;have hs:depthM layers (n+1) id=if l.kind=2∨l.kind=4 then (partsM l).foldl (fun m p=>max m (depthM layers n p)) 0+1 else 0:=by rw [depthM,hla]
   have ham:atM ids id=(k:Int):=(by unfold atM;rw [hat]);rw [ham]at HA;rw [hst]at HIH;generalize depthM layers (n+1) id=D at *;have HD:=lh hs;obtain⟨g,o,rfl,hR⟩:=HC.out (by omega);have HR:Hid (∀w',Turn [] w w'→l.At w'∧w'.rangeAt g (o+k*31) l.row):=lh fun w' T=>hR w' T k l hl;have hiL:(prog.info? 89).map (·.size)=some l.row.length:=(zero_of_info infoL).2;have b0:(0:Int)≤(k:Int):=(by omega);have b1:(k:Int)<(ln:Int):=(by omega);have HPA:=lh (ref_parts_ints l);clear hR hs ham hat hl hls hla hst;go_enter func75,ntmps75;(go_upto_region 1 with (fail));rw [←hW];clear hW;(go_upto_region 4 with (go_at_call 20;refine (HA.out _ (HAt.out.turn T0)).mono ?_;rintro e w1 ⟨rfl,ht1⟩));obtain⟨hLA,hRR⟩:=HR.out _ (T0.trans ht1);have hal:=layer_alloc w1;have hsto:=layer_copy l w1;have hp:=layer_param l w1 89;have p1:=atk hp 1 l.kind rfl;obtain⟨hc,hf⟩:=tcell ht1;have TL:=(tR w1).alloc (.cells ⟨l.row⟩ 89);have hLA:=hLA.turn TL;have hPA:=HPA.out _ hLA;unfold LayerM.v at hPA;generalize l.row=row at *;go_upto_region 5 with (first
    | (refine wpList_load_mid rfl 89 _ rfl _ _ rfl _ _ hRR underlying89 rfl hiL ?_)
    | (refine wpList_store_run rfl 89 _ _ rfl rfl rfl hsto ?_))
   have TW:Turn [] W (w1.alloc (.cells ⟨row⟩ 89)):=ht1.trans TL;have hpR:(w1.alloc (.cells ⟨row⟩ 89)).rangeAt w1.heap.size 0 row:=hp;clear hal hsto hp hRR hc hf;have hsz:(w1.alloc (.cells ⟨row⟩ 89)).heap.size=w1.heap.size+1:=(by simp);have hw1:=ht1.size;generalize w1.heap.size=b at *;generalize w1.alloc (.cells ⟨row⟩ 89)=V at *;clear TL ht1;by_cases hg:l.kind=2∨l.kind=4
   ·have HD2:Hid (D=(partsM l).foldl (fun m p=>max m (depthM layers n p)) 0+1):=lh (by rw [HD.out,if_pos hg]);clear HD;rcases hg with hg | hg;all_goals
     rw [hg]at p1;clear hg;go_upto_region 9 with (first
      | (go_at_call 113;refine hPA.mono ?_;rintro e w2 ⟨A2,n2,c2,rfl,hI2,hn2,ht2⟩)
      | (refine wpList_load_mid rfl 89 _ rfl _ _ rfl _ _ hpR underlying89 rfl hiL ?_))
     have TX:=TW.trans ht2;have hnp:=hI2.1;have HI:=lh hI2;generalize partsM l=ps at *;clear hI2 hPA p1 hpR hLA;(go_wp2_with fail);go_loopw [7,9] (fun s7 s9 wr=>∃j:Nat,j≤n2∧s9=j∧s7=.int .i64 ((ps.take j).foldl (fun m p=>max m (depthM layers n p)) 0)∧Turn [] w2 wr) (fun _ s9 _=>n2 - (intOf s9).toNat);case atStart=>exact⟨0,by omega,rfl,rfl,tR _⟩
     case round=>
      obtain⟨j,hj,rfl,rfl,T⟩:=hrel
      have hfb:=fold_max_bd (depthM layers n) n (ps.take j) 0 (by omega) (by omega) fun p _=>HBD.out p
      by_cases hjl:j<n2
      ·obtain⟨g2,o2,rfl,hA2⟩:=HI.out.cell (by omega);have hkc:=hA2 _ T j hjl;have hpl:j<ps.length:=(by omega);have hx:ps.getD j 0=ps[j]:=(by simp [List.getD,hpl]);have hxm:ps.getD j 0∈ps:=(by rw [hx];exact List.getElem_mem hpl);have htk:(ps.take (j+1)).foldl (fun m p=>max m (depthM layers n p)) 0=max ((ps.take j).foldl (fun m p=>max m (depthM layers n p)) 0) (depthM layers n (ps.getD j 0)):=(by rw [List.take_succ_eq_append_getElem hpl,List.foldl_append,hx];rfl);have hxb:=HBD.out (ps.getD j 0);have HTK:=lh htk;have hcall:=fun u hu=>HIH.out (ps.getD j 0) hxm u hu;clear htk hA2 hx hxm hpl;generalize ps.getD j 0=x at *;generalize (ps.take j).foldl (fun m p=>max m (depthM layers n p)) 0=M at *;have c0:(0:Int)≤(j:Int):=(by omega);have c1:(j:Int)<(n2:Int):=(by omega);have TA:=T0.trans (TX.trans T);have mv:∀{b i:Nat} {v:Value},W.cell? ⟨b,i,none⟩=some v→wr.cell? ⟨b,i,none⟩=some v:=fun h=>by rw [(tcell (TX.trans T)).1 _ _ (block_lt_of_cell h)];exact h
       have e0:=mv q0;have e1:=mv q1;have e2:=mv q2;have e3:=mv q3;have mvr:∀{b i:Nat} {v:Value},wr.cell? ⟨b,i,none⟩=some v→∀w',Turn [] wr w'→w'.cell? ⟨b,i,none⟩=some v:=fun h w' T=>by rw [(tcell T).1 _ _ (block_lt_of_cell h)];exact h
       have HS:Hid (∀w',Turn [] wr w'→(w'.cell? ⟨w,0,none⟩=some (.slice sA sn sc)∧w'.cell? ⟨w,1,none⟩=some (.int .i64 root)∧w'.cell? ⟨w,2,none⟩=some (.int .i64 next)∧w'.cell? ⟨w,3,none⟩=some (.slice (some ⟨g,o,none⟩) ln lc)∧w'.cell? ⟨g2,o2+j,none⟩=some (.int .i64 x))):=
        lh fun w' T=>⟨mvr e0 w' T,mvr e1 w' T,mvr e2 w' T,mvr e3 w' T,mvr hkc w' T⟩
       clear mvr;have TR:=(tR wr).drawn 1;have HAT:=lh (hcall wr.drew (HAt.out.turn (TA.drawn 1)));clear hcall;(go_upto_region 12 with (fail));clear mv e0 e1 e2 e3 q0 q1 q2 q3 hkc;generalize depthM layers n x=dx at *;go_region_held3 (fun w'=>w'.cell? ⟨w,0,none⟩=some (.slice sA sn sc)∧w'.cell? ⟨w,1,none⟩=some (.int .i64 root)∧w'.cell? ⟨w,2,none⟩=some (.int .i64 next)∧w'.cell? ⟨w,3,none⟩=some (.slice (some ⟨g,o,none⟩) ln lc)∧w'.cell? ⟨g2,o2+j,none⟩=some (.int .i64 x)) (first | exact HS.out _ TR | exact HS.out _ (TR.trans ht1)) (first
        | (go_at_call 75;refine HAT.out.mono ?_;rintro e w1 ⟨rfl,ht1⟩))
       (go_wp2_with fail);all_goals exact⟨⟨j+1,by omega,by go_num,by first | (rw [HTK.out];omega) | (congr 1;rw [HTK.out];omega),T.trans (TR.trans ht1)⟩,by simp [intOf];omega⟩
      ·obtain rfl:j=n2:=(by omega);have htk:ps.take j=ps:=List.take_of_length_le (by omega);rw [htk]at hfb;(go_wp2_with fail);go_ret;exact⟨by rw [HD2.out,htk];rfl,T0.trans (TX.trans T)⟩
   have HD2:Hid (D=0):=lh (by rw [HD.out,if_neg hg]);clear HD;have hg1:¬l.kind=2:=fun e=>hg (.inl e);have hg2:¬l.kind=4:=fun e=>hg (.inr e);have x1:(l.kind != 2)=true:=(by simp [hg1]);have x2:(l.kind != 4)=true:=(by simp [hg2]);(go_wp2_with fail);go_ret;exact⟨by rw [HD2.out];rfl,T0.trans TW⟩
structure DocM.Tidy(d:DocM): Prop where
 spc:∀s∈d.spaces,s.Good
 sn:d.sn≤8
 ln:d.ln≤40
 next:1≤d.next∧d.next≤1048576
 inc:d.ids.Pairwise (· < ·)
 pos:∀x∈d.ids,1≤x∧x<d.next
 root:∃l,layerAt d.layers d.root=some l∧l.kind=2
 lay:∀l∈d.layers,l.Tidy d.sn
theorem SpacesAt.cell{w:World}{A:Option Addr}{n:Nat}{ss:List SpaceM}(h:SpacesAt w A n ss)(h1:1≤n): ∃g o,A=some ⟨g,o,none⟩∧∀w',Turn [] w w'→∀j s,ss[j]?=some s→s.At w'∧w'.rangeAt g (o+j*21) s.row:=by
 have hl:0<ss.length:=by have:=h.1;omega
 obtain⟨_,g,o,rfl,_⟩:=h.2 0 ss[0] (by simp [hl]);refine⟨g,o,rfl,fun w' T j l hj=>?_⟩;obtain⟨a,g',o',e,b⟩:=h.2 j l hj;injection e with e;injection e with e1 e2 e3;subst e1;subst e2;exact⟨a.turn T,range_turn T b⟩
theorem SpaceM.row_len(s:SpaceM)(h1:s.mTo.length=9)(h2:s.mFr.length=9): s.row.length=21:=by simp [SpaceM.row,h1,h2]
theorem infoSp:(prog.info? 99).map (·.size)=some 21:=by kernel_rfl
theorem ref_whole(d:DocM)(w:World)(h:d.At w)(ht:d.Tidy): Calls prog 70 #[d.v] w fun e w'=>e=.returned (.agg #[(0:Int),(0:Int)])∧Turn [] w w':=by
 have hA:=ref_at d d.root;have hSp:=fun s hs u hu=>ref_space s (ht.spc s hs) u hu;have hC:=fun h1=>h.layers.cell h1;have hSC:=fun h1=>h.spaces.cell h1;have hIC:=fun h1=>DocM.ids_cell h h1;have hlen:d.ids.length=d.ln:=by rw [h.layers.1];simp [DocM.ids]
 have hn:=h.layers.1;have hsn:=h.spaces.1;have hs8:=ht.sn;have hl40:=ht.ln;obtain⟨hx1,hx2⟩:=ht.next;have hinc:=ht.inc;have hpos:=ht.pos;obtain⟨lr,hlr,hlk⟩:=ht.root;have HAt:=lh h;clear h ht;have hid:d.ids=d.layers.map (·.id):=rfl;generalize d.ids=ids at *;obtain⟨sA,sn,sc,spaces,root,next,lA,ln,lc,layers⟩:=d;simp only [DocM.v]at *;obtain⟨W,hW⟩:∃W,W=(w.alloc (.cells #[.slice sA sn sc,root,next,.slice lA ln lc] 29)).alloc (.cells #[(0:Int),(0:Int)] 104):=⟨_,rfl⟩;have T0:Turn [] w W:=hW ▸ ((tR w).alloc _).alloc _;obtain⟨q0,q1,q2,q3⟩:=cs4 (al2 hW).1;obtain⟨z0,z1⟩:=cs2 (al2 hW).2;have zf:∀i,W.frozen? ⟨w.heap.size+1,i,none⟩=false:=fun i=>by rw [hW];simp [go_sem]
 have hWs:W.heap.size=w.heap.size+2:=by rw [hW];simp
 have k1:decide (8<(sn:Int))=false:=decide_eq_false (by omega);have k2:decide (40<(ln:Int))=false:=decide_eq_false (by omega);have k3:decide (next<1)=false:=decide_eq_false (by omega);have k4:decide (1048576<next)=false:=decide_eq_false (by omega);have HA:=lh hA;have HSp:=lh hSp;have HC:=lh hC;have HSC:=lh hSC;have HIC:=lh hIC;have HL:=lh hlen;have HN:=lh hn;have HSN:=lh hsn;have HINC:=lh hinc;have HPOS:=lh hpos;have HLR:=lh hlr;have HLK:=lh hlk;have HID:=lh hid;clear hA hSp hC hSC hIC hlen hn hsn hinc hpos hlr hlk hid;go_enter func70,ntmps70;go_upto_region 1 with (fail)
 rw [←hW];clear hW;go_wp2_with fail
 go_loopw [3] (fun s3 wr=>∃k:Nat,k≤sn∧s3=k∧Turn [] W wr) (fun s3 _=>sn - (intOf s3).toNat);case atStart=>exact⟨0,by omega,rfl,tR W⟩
 obtain⟨k,hk,rfl,TT⟩:=hrel;obtain⟨hc,hf⟩:=tcell TT;by_cases hlt:k<sn
 ·obtain⟨g,o,rfl,hR⟩:=HSC.out (by omega);have hls:k<spaces.length:=by have:=HSN.out;omega
  obtain⟨s,hs⟩:∃s,spaces[k]?=some s:=⟨spaces[k],by simp [hls]⟩;have hsm:s∈spaces:=List.mem_of_getElem? hs;obtain⟨hsA,hRR⟩:=hR _ (T0.trans TT) k s hs;have hiS:(prog.info? 99).map (·.size)=some s.row.length:=by rw [s.row_len hsA.h1 hsA.h2];exact infoSp
  have hcall:=lh (HSp.out s hsm wr hsA);have b0:(0:Int)≤(k:Int):=by omega
  have b1:(k:Int)<(sn:Int):=by omega
  clear hsA hR hs hls hsm;generalize s.row=row at *;go_upto_region 6 with (fail)
  go_upto_region 7 with (first
   | (refine wpList_load_mid rfl 99 _ rfl _ _ rfl _ _ hRR underlying99 rfl hiS ?_)
   | (go_at_call 106;refine hcall.out.mono ?_;rintro e w1 ⟨rfl,ht1⟩))
  clear hRR;go_wp2_with fail
  go_roundw;case rel=>exact⟨k+1,by omega,by go_num,TT.trans ht1⟩
  simp [intOf];omega
 obtain rfl:k=sn:=by omega
 go_wp2_with fail
 go_loopw [5,6] (fun s5 s6 wr=>∃k:Nat,k≤ln∧s6=k∧(∃z:Int,s5=z∧∀j y,k≤j→ids[j]?=some y→z<y)∧Turn [] W wr) (fun _ s6 _=>ln - (intOf s6).toNat);case atStart=>exact⟨0,by omega,rfl,⟨0,rfl,fun j y _ hy=>by have:=HPOS.out y (List.mem_of_getElem? hy);omega⟩,TT⟩
 obtain⟨k,hk,rfl,⟨z,rfl,hz⟩,TT⟩:=hrel;obtain⟨hc,hf⟩:=tcell TT;by_cases hlt:k<ln
 ·obtain⟨g,o,rfl,hR⟩:=HIC.out (by omega);obtain⟨y,hy,hcy⟩:=hR k hlt;have hcell:=hcy _ (T0.trans TT);have h1:=hz k y (Nat.le_refl _) hy;have h2:=(HPOS.out y (List.mem_of_getElem? hy)).2;have HY:=lh hy;clear hR hcy hz hy;have b0:(0:Int)≤(k:Int):=by omega
  have b1:(k:Int)<(ln:Int):=by omega
  have e1:decide (y≤z)=false:=decide_eq_false (by omega);have e2:decide (next≤y)=false:=decide_eq_false (by omega);go_wp2_with fail
  go_roundw;case rel=>exact⟨k+1,by omega,by go_num,⟨y,rfl,fun j x hj hx=>by
   have hp:=List.pairwise_iff_getElem.1 HINC.out;obtain⟨i1,e1⟩:=List.getElem?_eq_some_iff.1 HY.out;obtain⟨i2,e2⟩:=List.getElem?_eq_some_iff.1 hx;have:=hp k j i1 i2 (by omega);rw [e1,e2]at this;exact this⟩,TT⟩
  simp [intOf];omega
 obtain rfl:k=ln:=by omega
 obtain⟨r,hr⟩:∃r,atN ids root=some r∧layers[r]?=some lr:=by
  have:=HLR.out;unfold layerAt at this;rw [←HID.out]at this;cases ha:atN ids root with
  | none=>rw [ha]at this;cases this
  | some r=>rw [ha]at this;exact⟨r,rfl,this⟩
 have ham:atM ids root=(r:Int):=by unfold atM;rw [hr.1]
 have hrl:r<layers.length:=(List.getElem?_eq_some_iff.1 hr.2).1;have hrn:r<k:=by have:=HN.out;omega
 obtain⟨g,o,rfl,hR⟩:=HC.out (by omega);have hcK:∀u,Turn [] w u→u.cell? ⟨g,o+r*31+1,none⟩=some (.int .i64 2):=fun u T=>by have:=(hR u T r lr hr.2).2 1 _ rfl;rw [HLK.out]at this;exact this
 have HK:=lh hcK;rw [ham]at HA;have b0:(0:Int)≤(r:Int):=by omega
 have b1:(r:Int)<(k:Int):=by omega
 clear hcK hR hz ham hr hrl;go_upto_region 18 with (go_at_call 20;refine (HA.out _ (HAt.out.turn (T0.trans TT))).mono ?_;rintro e w1 ⟨rfl,ht1⟩)
 have TX:=TT.trans ht1;clear hc hf;obtain⟨hc,hf⟩:=tcell TX;have hcell:=HK.out _ (T0.trans TX);go_wp2_with fail
 have y0:w1.cell? ⟨w.heap.size+1,0,none⟩=some (.int .i64 0):=(hc _ _ (by omega)).trans z0;have y1:w1.cell? ⟨w.heap.size+1,1,none⟩=some (.int .i64 0):=(hc _ _ (by omega)).trans z1;refine bodyPost_ret (v:=.agg #[(0:Int),(0:Int)]) (by simp [results,results70,go_sem,y0,y1]) rfl ⟨rfl,?_⟩;exact ((T0.trans TX).sc).sc
def cloneOK(ls:List LayerM)(l:LayerM): Prop:=l.kind=4→∃m,layerAt ls l.of=some m∧m.kind≠3
structure DocM.Ok(d:DocM): Prop where
 good:∀(k:Nat) (l:LayerM),d.layers[k]?=some l→l.good=true
 kids:∀(k:Nat) (l:LayerM),d.layers[k]?=some l→kidsM d.layers d.root l=true
 clone:∀(k:Nat) (l:LayerM),d.layers[k]?=some l→cloneOK d.layers l
 free:∀(k:Nat) (y:Int),d.ids[k]?=some y→¬Reach d.layers y y
 depth:depthM d.layers 2501 d.root≤6
inductive IsDef(P:Prop): Ending→Prop where
 | mk (e i:Int) (h:e=0↔P):IsDef P (.returned (.agg #[e,i]))
theorem steps_some{ls:List LayerM}{x y:Int}(h:y∈stepsM ls x): ∃k:Nat,(ls.map (·.id))[k]?=some x:=by
 unfold stepsM at h;cases ha:atN (ls.map (·.id)) x with
 | none=>rw [ha]at h;simp at h
 | some k=>
  unfold atN at ha;rw [List.findIdx?_eq_some_iff_getElem]at ha;obtain⟨h1,h2,_⟩:=ha;exact⟨k,by rw [List.getElem?_eq_getElem h1];simpa using h2⟩
theorem reach_some{ls:List LayerM}{x y:Int}(h:Reach ls x y): ∃k:Nat,(ls.map (·.id))[k]?=some x:=by
 induction h with
 | one h=>exact steps_some h
 | tail _ _ ih=>exact ih
theorem DocM.Ok.acy{d:DocM}(h:d.Ok)(x:Int): ¬Reach d.layers x x:=fun hr=>by obtain⟨k,hk⟩:=reach_some hr;exact h.free k x hk hr
theorem LayersAt.short{w:World}{A:Option Addr}{n:Nat}{ls:List LayerM}(h:LayersAt w A n ls)(hn:n≤50): Short ls:=by refine⟨by rw [←h.1];exact hn,fun l hl=>?_⟩;obtain⟨j,hj,rfl⟩:=List.getElem_of_mem hl;have hA:=(h.2 j ls[j] (by simp [hj])).1;have:=hA.kidb;rw [hA.kids.1]at this;exact this
theorem ref_check(d:DocM)(w:World)(h:d.At w)(ht:d.Tidy): Calls prog 37 #[d.v] w fun e w'=>IsDef d.Ok e∧Turn [] w w':=by
 have hsh:Short d.layers:=h.layers.short h.small;have hWh:=fun u (t:Turn [] w u)=>ref_whole d u (h.turn t) ht;have hFi:=fun l u (hl:l.At u) (hm:l∈d.layers)=>ref_fields d l u hl (ht.lay l hm);have hKi:=fun l u (t:Turn [] w u) (hl:l.At u)=>ref_kids d l u (h.turn t) hl;have hA:=fun x u (t:Turn [] w u)=>ref_at d x u (h.turn t);have hRe:=fun x u (t:Turn [] w u)=>ref_reached d x u (h.turn t) hsh;have hDe:=fun (ha:∀x,¬Reach d.layers x x) u (t:Turn [] w u)=>ref_depth d hsh 2501 d.root (low_any hsh ha _) (by omega) u (h.turn t);have hC:=fun h1=>h.layers.cell h1;have hn:=h.layers.1;have hsm:=h.small;have hlen:d.ids.length=d.ln:=by rw [h.layers.1];simp [DocM.ids]
 have hid:d.ids=d.layers.map (·.id):=rfl;have ok1:d.Ok→_:=fun o=>o.good;have ok2:d.Ok→_:=fun o=>o.kids;have ok3:d.Ok→_:=fun o=>o.clone;have ok4:d.Ok→_:=fun o=>o.free;have ok5:d.Ok→_:=fun o=>o.depth;have ok6:_→_→_→_→_→d.Ok:=fun a b c e f=>⟨a,b,c,e,f⟩;clear h ht;generalize d.Ok=OKP at *;generalize d.ids=ids at *;obtain⟨sA,sn,sc,spaces,root,next,lA,ln,lc,layers⟩:=d;simp only [DocM.v,LayerM.v]at *;obtain⟨W,hW⟩:∃W,W=(w.alloc (.cells #[.slice sA sn sc,root,next,.slice lA ln lc] 29)).alloc (.cells #[(0:Int),(0:Int)] 104):=⟨_,rfl⟩;have T0:Turn [] w W:=hW ▸ ((tR w).alloc _).alloc _;obtain⟨q0,q1,q2,q3⟩:=cs4 (al2 hW).1;obtain⟨z0,z1⟩:=cs2 (al2 hW).2;have zf:∀i,W.frozen? ⟨w.heap.size+1,i,none⟩=false:=fun i=>by rw [hW];simp [go_sem]
 have hWs:W.heap.size=w.heap.size+2:=by rw [hW];simp
 have HWh:=lh hWh;have HFi:=lh hFi;have HKi:=lh hKi;have HA:=lh hA;have HRe:=lh hRe;have HDe:=lh hDe;have HC:=lh hC;have HN:=lh hn;have HL:=lh hlen;have HID:=lh hid;have K1:=lh ok1;have K2:=lh ok2;have K3:=lh ok3;have K4:=lh ok4;have K5:=lh ok5;have K6:=lh ok6;clear hWh hFi hKi hA hRe hDe hC hn hlen hid ok1 ok2 ok3 ok4 ok5 ok6 hsh;go_enter func37,ntmps37;go_upto_region 1 with (fail)
 rw [←hW];clear hW;go_upto_region 4 with (go_at_call 70;refine (HWh.out _ T0).mono ?_;rintro e w1 ⟨rfl,ht1⟩)
 obtain⟨hc,hf⟩:=tcell ht1;have TV:=ht1.alloc (.cells #[(0:Int),(0:Int)] 104);have hiL:(prog.info? 89).map (·.size)=some 31:=(zero_of_info infoL).2;go_wp2_with fail
 go_loopw [4] (fun s4 wr=>∃k:Nat,k≤ln∧s4=k∧(∀j (l:LayerM),j<k→layers[j]?=some l→l.good=true)∧Turn [] W wr) (fun s4 _=>ln - (intOf s4).toNat);case atStart=>exact⟨0,by omega,rfl,fun _ _ h=>absurd h (Nat.not_lt_zero _),TV⟩
 obtain⟨k,hk,rfl,hall,TT⟩:=hrel;have HALL4:=lh hall;clear hall;by_cases hlt:k<ln
 ·obtain⟨g,o,rfl,hR⟩:=HC.out (by omega);have hls:k<layers.length:=by have:=HN.out;omega
  obtain⟨l,hl⟩:∃l,layers[k]?=some l:=⟨layers[k],by simp [hls]⟩;have hlm:l∈layers:=List.mem_of_getElem? hl;have HR:=lh fun w' T=>hR w' T k l hl;have HLK:=lh hl;have HI0:Hid (∀w',Turn [] w w'→w'.cell? ⟨g,o+k*31,none⟩=some (.int .i64 l.id)):=lh fun w' T=>by simpa using (hR w' T k l hl).2 0 _ rfl
  have b0:(0:Int)≤(k:Int):=by omega
  have b1:(k:Int)<(ln:Int):=by omega
  clear hR hl;obtain⟨q,hq⟩:∃q,l.good=q:=⟨_,rfl⟩;have HQ:=lh hq;have hFi:=fun u hu=>HFi.out l u hu hlm;rw [hq]at hFi;have HF:=lh hFi;clear hq hFi hlm hls;obtain⟨hc,hf⟩:=tcell TT;go_upto_region 7 with (fail)
  clear hc hf;have TW:=T0.trans TT;have HLD:Hid (∀w',Turn [] wr w'→(Instr.loadAt 89 (.pointer (some ⟨g,o+k*31,none⟩))).run prog w'=.ok (.agg ⟨l.row⟩) w'):=lh fun w' T=>run_loadAt_mid w' _ _ 89 _ _ (HR.out _ (TW.trans T)).2 underlying89 rfl hiL;have D0:Hid (∀w',Turn [] wr w'→w'.cell? ⟨w,0,none⟩=some (.slice sA sn sc)):=lh fun w' T=>by rw [(tcell (TT.trans T)).1 _ _ (block_lt_of_cell q0)];exact q0
  have D1:Hid (∀w',Turn [] wr w'→w'.cell? ⟨w,1,none⟩=some (.int .i64 root)):=lh fun w' T=>by rw [(tcell (TT.trans T)).1 _ _ (block_lt_of_cell q1)];exact q1
  have D2:Hid (∀w',Turn [] wr w'→w'.cell? ⟨w,2,none⟩=some (.int .i64 next)):=lh fun w' T=>by rw [(tcell (TT.trans T)).1 _ _ (block_lt_of_cell q2)];exact q2
  have D3:Hid (∀w',Turn [] wr w'→w'.cell? ⟨w,3,none⟩=some (.slice (some ⟨g,o,none⟩) ln lc)):=lh fun w' T=>by rw [(tcell (TT.trans T)).1 _ _ (block_lt_of_cell q3)];exact q3
  have HCL:=lh fun u (T:Turn [] wr u)=>HF.out u (HR.out _ (TW.trans T)).1;have hS:=tR wr;unfold LayerM.v at HCL;generalize l.row=row at *;refine AnyTill.start (fun w'=>Turn [] wr w') 7 (by kernel_rfl) ?_;have hS:=hS.drawn 1;change Turn [] wr wr.drew at hS;generalize wr.drew=Y at *;refine tk 0 8 24 (.agg #[.slice sA sn sc,root,next,.slice (some ⟨g,o,none⟩) ln lc]) hS ?_ (hy:=fun w' hw=>by have e0:=D0.out _ hw;have e1:=D1.out _ hw;have e2:=D2.out _ hw;have e3:=D3.out _ hw;go_simp);try go_frame
  refine tk 1 8 25 (.pointer (some ⟨w,3,none⟩)) hS ?_;try go_frame
  refine tk 2 8 26 (.slice (some ⟨g,o,none⟩) ln lc) hS ?_ (hy:=fun w' hw=>by have e3:=D3.out _ hw;go_simp);try go_frame
  refine tk 3 8 27 k hS ?_;try go_frame
  refine tk 4 8 28 (.pointer (some ⟨g,o+k*31,none⟩)) hS ?_;try go_frame
  refine tk 5 8 29 (.agg ⟨row⟩) hS ?_ rfl (hy:=fun w' hw=>exec_load rfl rfl (HLD.out w' hw));try go_frame
  refine tk1 6 fun K hK=>?_;go_simp;refine (HCL.out _ hS).mono ?_;rintro e w5 ⟨rfl,ht5⟩;have hS:=hS.trans ht5;clear ht5;refine hK _ _ (fun _=>hS) ?_;clear hK K;try go_frame
  refine tk1 7 fun K hK=>?_;go_simp;refine hK _ _ (fun h=>absurd rfl h) ?_;clear hK K;try go_frame
  refine tkd ?_;have TX:=TT.trans hS;obtain⟨hc,hf⟩:=tcell TX;clear HLD D0 D1 D2 D3 HCL;have hidc:=HI0.out _ (T0.trans TX);cases q with
  | true=>
   (go_wp2_with fail);go_roundw;case rel=>exact⟨k+1,by omega,by go_num,fun j l' hj hl'=>by
    by_cases h:j<k
    ·exact HALL4.out j l' h hl'
    obtain rfl:j=k:=(by omega);have hl':=HLK.out.symm.trans hl';injection hl' with hl';subst hl';exact HQ.out,TX⟩
   simp [intOf];omega
  | false=>
   (go_wp2_with fail);have y0:_:=(hc _ _ (by omega:w.heap.size+1<W.heap.size)).trans z0;have y1:_:=(hc _ _ (by omega:w.heap.size+1<W.heap.size)).trans z1;refine bodyPost_ret (v:=.agg #[(1:Int),l.id]) (by simp [results,results37,go_sem,y0,y1]) rfl ⟨.mk _ _ ⟨fun e=>?_,fun h=>?_⟩,?_⟩
   ·cases e
   ·have:=K1.out h k l HLK.out;rw [HQ.out]at this;cases this
   exact ((T0.trans TX).sc).sc
 obtain rfl:ln=k:=by omega
 obtain⟨hc,hf⟩:=tcell TT;go_wp2_with fail
 go_loopw [6] (fun s6 wr=>∃k:Nat,k≤ln∧s6=k∧(∀j (l:LayerM),j<k→layers[j]?=some l→kidsM layers root l=true)∧Turn [] W wr) (fun s6 _=>ln - (intOf s6).toNat);case atStart=>exact⟨0,by omega,rfl,fun _ _ h=>absurd h (Nat.not_lt_zero _),TT⟩
 obtain⟨k,hk,rfl,hall,TT⟩:=hrel;have HALL6:=lh hall;clear hall;by_cases hlt:k<ln
 ·obtain⟨g,o,rfl,hR⟩:=HC.out (by omega);have hls:k<layers.length:=by have:=HN.out;omega
  obtain⟨l,hl⟩:∃l,layers[k]?=some l:=⟨layers[k],by simp [hls]⟩;have hlm:l∈layers:=List.mem_of_getElem? hl;have HR:=lh fun w' T=>hR w' T k l hl;have HLK:=lh hl;have HI0:Hid (∀w',Turn [] w w'→w'.cell? ⟨g,o+k*31,none⟩=some (.int .i64 l.id)):=lh fun w' T=>by simpa using (hR w' T k l hl).2 0 _ rfl
  have b0:(0:Int)≤(k:Int):=by omega
  have b1:(k:Int)<(ln:Int):=by omega
  clear hR hl;obtain⟨q,hq⟩:∃q,kidsM layers root l=q:=⟨_,rfl⟩;have HQ:=lh hq;have hKi:=fun u (t:Turn [] w u) (hu:l.At u)=>HKi.out l u t hu;rw [hq]at hKi;have HF:=lh hKi;clear hq hKi hlm hls;obtain⟨hc,hf⟩:=tcell TT;go_upto_region 13 with (fail)
  clear hc hf;have TW:=T0.trans TT;have HLD:Hid (∀w',Turn [] wr w'→(Instr.loadAt 89 (.pointer (some ⟨g,o+k*31,none⟩))).run prog w'=.ok (.agg ⟨l.row⟩) w'):=lh fun w' T=>run_loadAt_mid w' _ _ 89 _ _ (HR.out _ (TW.trans T)).2 underlying89 rfl hiL;have D0:Hid (∀w',Turn [] wr w'→w'.cell? ⟨w,0,none⟩=some (.slice sA sn sc)):=lh fun w' T=>by rw [(tcell (TT.trans T)).1 _ _ (block_lt_of_cell q0)];exact q0
  have D1:Hid (∀w',Turn [] wr w'→w'.cell? ⟨w,1,none⟩=some (.int .i64 root)):=lh fun w' T=>by rw [(tcell (TT.trans T)).1 _ _ (block_lt_of_cell q1)];exact q1
  have D2:Hid (∀w',Turn [] wr w'→w'.cell? ⟨w,2,none⟩=some (.int .i64 next)):=lh fun w' T=>by rw [(tcell (TT.trans T)).1 _ _ (block_lt_of_cell q2)];exact q2
  have D3:Hid (∀w',Turn [] wr w'→w'.cell? ⟨w,3,none⟩=some (.slice (some ⟨g,o,none⟩) ln lc)):=lh fun w' T=>by rw [(tcell (TT.trans T)).1 _ _ (block_lt_of_cell q3)];exact q3
  have HCL:=lh fun u (T:Turn [] wr u)=>HF.out u (TW.trans T) (HR.out _ (TW.trans T)).1;have hS:=tR wr;unfold LayerM.v at HCL;generalize l.row=row at *;refine AnyTill.start (fun w'=>Turn [] wr w') 7 (by kernel_rfl) ?_;have hS:=hS.drawn 1;change Turn [] wr wr.drew at hS;generalize wr.drew=Y at *;refine tk 0 8 48 (.agg #[.slice sA sn sc,root,next,.slice (some ⟨g,o,none⟩) ln lc]) hS ?_ (hy:=fun w' hw=>by have e0:=D0.out _ hw;have e1:=D1.out _ hw;have e2:=D2.out _ hw;have e3:=D3.out _ hw;go_simp);try go_frame
  refine tk 1 8 49 (.pointer (some ⟨w,3,none⟩)) hS ?_;try go_frame
  refine tk 2 8 50 (.slice (some ⟨g,o,none⟩) ln lc) hS ?_ (hy:=fun w' hw=>by have e3:=D3.out _ hw;go_simp);try go_frame
  refine tk 3 8 51 k hS ?_;try go_frame
  refine tk 4 8 52 (.pointer (some ⟨g,o+k*31,none⟩)) hS ?_;try go_frame
  refine tk 5 8 53 (.agg ⟨row⟩) hS ?_ rfl (hy:=fun w' hw=>exec_load rfl rfl (HLD.out w' hw));try go_frame
  refine tk1 6 fun K hK=>?_;go_simp;refine (HCL.out _ hS).mono ?_;rintro e w5 ⟨rfl,ht5⟩;have hS:=hS.trans ht5;clear ht5;refine hK _ _ (fun _=>hS) ?_;clear hK K;try go_frame
  refine tk1 7 fun K hK=>?_;go_simp;refine hK _ _ (fun h=>absurd rfl h) ?_;clear hK K;try go_frame
  refine tkd ?_;have TX:=TT.trans hS;obtain⟨hc,hf⟩:=tcell TX;clear HLD D0 D1 D2 D3 HCL;have hidc:=HI0.out _ (T0.trans TX);cases q with
  | true=>
   (go_wp2_with fail);go_roundw;case rel=>exact⟨k+1,by omega,by go_num,fun j l' hj hl'=>by
    by_cases h:j<k
    ·exact HALL6.out j l' h hl'
    obtain rfl:j=k:=(by omega);have hl':=HLK.out.symm.trans hl';injection hl' with hl';subst hl';exact HQ.out,TX⟩
   simp [intOf];omega
  | false=>
   (go_wp2_with fail);have y0:_:=(hc _ _ (by omega:w.heap.size+1<W.heap.size)).trans z0;have y1:_:=(hc _ _ (by omega:w.heap.size+1<W.heap.size)).trans z1;refine bodyPost_ret (v:=.agg #[(40:Int),l.id]) (by simp [results,results37,go_sem,y0,y1]) rfl ⟨.mk _ _ ⟨fun e=>?_,fun h=>?_⟩,?_⟩
   ·cases e
   ·have:=K2.out h k l HLK.out;rw [HQ.out]at this;cases this
   exact ((T0.trans TX).sc).sc
 obtain rfl:ln=k:=by omega
 obtain⟨hc,hf⟩:=tcell TT;go_wp2_with fail
 go_loopw [7] (fun s7 wr=>∃k:Nat,k≤ln∧s7=k∧(∀j (l:LayerM),j<k→layers[j]?=some l→cloneOK layers l)∧Turn [] W wr) (fun s7 _=>ln - (intOf s7).toNat);case atStart=>exact⟨0,by omega,rfl,fun _ _ h=>absurd h (Nat.not_lt_zero _),TT⟩
 obtain⟨k,hk,rfl,hall,TT⟩:=hrel;have HALL7:=lh hall;clear hall;by_cases hlt:k<ln
 ·obtain⟨g,o,rfl,hR⟩:=HC.out (by omega);have hls:k<layers.length:=by have:=HN.out;omega
  obtain⟨l,hl⟩:∃l,layers[k]?=some l:=⟨layers[k],by simp [hls]⟩;have hlm:l∈layers:=List.mem_of_getElem? hl;have HR:=lh fun w' T=>hR w' T k l hl;have HLK:=lh hl;have HI0:Hid (∀w',Turn [] w w'→w'.cell? ⟨g,o+k*31,none⟩=some (.int .i64 l.id)):=lh fun w' T=>by simpa using (hR w' T k l hl).2 0 _ rfl
  have b0:(0:Int)≤(k:Int):=by omega
  have b1:(k:Int)<(ln:Int):=by omega
  clear hR hl;have HI1:Hid (∀w',Turn [] w w'→w'.cell? ⟨g,o+k*31+1,none⟩=some (.int .i64 l.kind)):=lh fun w' T=>(HR.out w' T).2 1 _ rfl;have HI10:Hid (∀w',Turn [] w w'→w'.cell? ⟨g,o+k*31+16,none⟩=some (.int .i64 l.of)):=lh fun w' T=>(HR.out w' T).2 16 _ rfl;have hkc:=HI1.out _ (T0.trans TT);clear hlm hls;by_cases hkd:l.kind=4
  ·have HKD:=lh hkd;rw [hkd]at hkc;clear hkd;obtain⟨hc,hf⟩:=tcell TT;(go_upto_region 19 with (fail));clear hc hf;have TW:=T0.trans TT;have D0:Hid (∀w',Turn [] wr w'→w'.cell? ⟨w,0,none⟩=some (.slice sA sn sc)):=lh fun w' T=>by rw [(tcell (TT.trans T)).1 _ _ (block_lt_of_cell q0)];exact q0
   have D1:Hid (∀w',Turn [] wr w'→w'.cell? ⟨w,1,none⟩=some (.int .i64 root)):=lh fun w' T=>by rw [(tcell (TT.trans T)).1 _ _ (block_lt_of_cell q1)];exact q1
   have D2:Hid (∀w',Turn [] wr w'→w'.cell? ⟨w,2,none⟩=some (.int .i64 next)):=lh fun w' T=>by rw [(tcell (TT.trans T)).1 _ _ (block_lt_of_cell q2)];exact q2
   have D3:Hid (∀w',Turn [] wr w'→w'.cell? ⟨w,3,none⟩=some (.slice (some ⟨g,o,none⟩) ln lc)):=lh fun w' T=>by rw [(tcell (TT.trans T)).1 _ _ (block_lt_of_cell q3)];exact q3
   have D4:Hid (∀w',Turn [] wr w'→w'.cell? ⟨g,o+k*31+16,none⟩=some (.int .i64 l.of)):=lh fun w' T=>HI10.out _ (TW.trans T);have HOF:Hid (∃a,atM ids l.of=a):=lh ⟨_,rfl⟩;have HCL:=lh fun u (T:Turn [] wr u)=>HA.out l.of u (TW.trans T);have HIN:Hid (∀r,atN ids l.of=some r→r<ln):=lh fun r hr=>by have:=(List.findIdx?_eq_some_iff_getElem.1 hr).1;have:=HL.out;omega
   have HNO:Hid (atN ids l.of=none→¬cloneOK layers l):=lh fun hr hcl=>by obtain⟨x,hx,_⟩:=hcl HKD.out;unfold layerAt at hx;rw [←HID.out,hr]at hx;cases hx
   have HYES:Hid (∀r lr,atN ids l.of=some r→layers[r]?=some lr→(cloneOK layers l↔lr.kind≠3)):=lh fun r lr hr hlr=>by
    have hla:layerAt layers l.of=some lr:=(by unfold layerAt;rw [←HID.out,hr];exact hlr);constructor
    ·intro hcl;obtain⟨x,hx,hx2⟩:=hcl HKD.out;rw [hla]at hx;injection hx with hx;subst hx;exact hx2
    exact fun h _=>⟨lr,hla,h⟩
   have hS:=tR wr;refine AnyTill.start (fun w'=>Turn [] wr w') 8 (by kernel_rfl) ?_;have hS:=hS.drawn 1;change Turn [] wr wr.drew at hS;generalize wr.drew=Y at *;refine tk 0 9 77 (.agg #[.slice sA sn sc,root,next,.slice (some ⟨g,o,none⟩) ln lc]) hS ?_ (hy:=fun w' hw=>by have e0:=D0.out _ hw;have e1:=D1.out _ hw;have e2:=D2.out _ hw;have e3:=D3.out _ hw;go_simp);(try go_frame);refine tk 1 9 78 (.pointer (some ⟨w,3,none⟩)) hS ?_;(try go_frame);refine tk 2 9 79 (.slice (some ⟨g,o,none⟩) ln lc) hS ?_ (hy:=fun w' hw=>by have e3:=D3.out _ hw;go_simp);(try go_frame);refine tk 3 9 80 k hS ?_;(try go_frame);refine tk 4 9 81 (.pointer (some ⟨g,o+k*31,none⟩)) hS ?_;(try go_frame);refine tk 5 9 82 (.pointer (some ⟨g,o+k*31+16,none⟩)) hS ?_;(try go_frame);refine tk 6 9 83 l.of hS ?_ (hy:=fun w' hw=>by have e4:=D4.out _ hw;go_simp);(try go_frame);refine tk1 7 fun K hK=>?_;go_simp;refine (HCL.out _ hS).mono ?_;rintro e w5 ⟨rfl,ht5⟩;have hS:=hS.trans ht5;clear ht5;refine hK _ _ (fun _=>hS) ?_;clear hK K;(try go_frame);refine tk1 8 fun K hK=>?_;go_simp;refine hK _ _ (fun h=>absurd rfl h) ?_;clear hK K;(try go_frame);refine tkd ?_;have TX:=TT.trans hS;obtain⟨hc,hf⟩:=tcell TX;clear D0 D1 D2 D3 D4 HCL;have hidc:=HI0.out _ (T0.trans TX);cases hat:atN ids l.of with
   | none=>
    have ham:atM ids l.of=-1:=(by unfold atM;rw [hat]);have HB:=lh (HNO.out hat);rw [ham];clear ham hat;(go_wp2_with fail);have y0:_:=(hc _ _ (by omega:w.heap.size+1<W.heap.size)).trans z0;have y1:_:=(hc _ _ (by omega:w.heap.size+1<W.heap.size)).trans z1;refine bodyPost_ret (v:=.agg #[(40:Int),l.id]) (by simp [results,results37,go_sem,y0,y1]) rfl ⟨.mk _ _ ⟨fun e=>?_,fun h=>?_⟩,?_⟩
    ·cases e
    ·exact (HB.out (K3.out h k l HLK.out)).elim
    exact ((T0.trans TX).sc).sc
   | some r=>
    have ham:atM ids l.of=(r:Int):=(by unfold atM;rw [hat]);have hrn:=HIN.out r hat;have hrl:r<layers.length:=(by have:=HN.out;omega);obtain⟨lr,hlr⟩:∃lr,layers[r]?=some lr:=⟨layers[r],by simp [hrl]⟩;have HB:=lh (HYES.out r lr hat hlr);obtain⟨g',o',e',hR2⟩:=HC.out (by omega);injection e' with e';injection e' with e1 e2 e3;subst e1;subst e2;clear e3;have hrk:w5.cell? ⟨g,o+r*31+1,none⟩=some (.int .i64 lr.kind):=(hR2 _ (T0.trans TX) r lr hlr).2 1 _ rfl;rw [ham];have c0:(0:Int)≤(r:Int):=(by omega);have c1:(r:Int)<(ln:Int):=(by omega);clear ham hat hR2 hlr hrl;by_cases h3:lr.kind=3
    ·rw [h3]at hrk;(go_wp2_with fail);have y0:_:=(hc _ _ (by omega:w.heap.size+1<W.heap.size)).trans z0;have y1:_:=(hc _ _ (by omega:w.heap.size+1<W.heap.size)).trans z1;refine bodyPost_ret (v:=.agg #[(40:Int),l.id]) (by simp [results,results37,go_sem,y0,y1]) rfl ⟨.mk _ _ ⟨fun e=>?_,fun h=>?_⟩,?_⟩
     ·cases e
     ·exact ((HB.out.1 (K3.out h k l HLK.out)) h3).elim
     exact ((T0.trans TX).sc).sc
    have h3':(lr.kind == 3)=false:=(by simpa using h3);(go_wp2_with fail);go_roundw;case rel=>exact⟨k+1,by omega,by go_num,fun j l' hj hl'=>by
     by_cases h:j<k
     ·exact HALL7.out j l' h hl'
     obtain rfl:j=k:=(by omega);have hl':=HLK.out.symm.trans hl';injection hl' with hl';subst hl';exact HB.out.2 h3,TX⟩
    simp [intOf];omega
  have hkd':(l.kind == 4)=false:=by simpa using hkd
  obtain⟨hc,hf⟩:=tcell TT;go_wp2_with fail
  go_roundw;case rel=>exact⟨k+1,by omega,by go_num,fun j l' hj hl'=>by
   by_cases h:j<k
   ·exact HALL7.out j l' h hl'
   obtain rfl:j=k:=(by omega);have hl':=HLK.out.symm.trans hl';injection hl' with hl';subst hl';exact fun e=>absurd e hkd,TT⟩
  simp [intOf];omega
 obtain rfl:ln=k:=by omega
 obtain⟨hc,hf⟩:=tcell TT;go_wp2_with fail
 go_loopw [9] (fun s9 wr=>∃k:Nat,k≤ln∧s9=k∧(∀j (y:Int),j<k→ids[j]?=some y→¬Reach layers y y)∧Turn [] W wr) (fun s9 _=>ln - (intOf s9).toNat);case atStart=>exact⟨0,by omega,rfl,fun _ _ h=>absurd h (Nat.not_lt_zero _),TT⟩
 obtain⟨k,hk,rfl,hall,TT⟩:=hrel;have HALL9:=lh hall;clear hall;by_cases hlt:k<ln
 ·obtain⟨g,o,rfl,hR⟩:=HC.out (by omega);have hls:k<layers.length:=by have:=HN.out;omega
  obtain⟨l,hl⟩:∃l,layers[k]?=some l:=⟨layers[k],by simp [hls]⟩;have hlm:l∈layers:=List.mem_of_getElem? hl;have HR:=lh fun w' T=>hR w' T k l hl;have HLK:=lh hl;have HI0:Hid (∀w',Turn [] w w'→w'.cell? ⟨g,o+k*31,none⟩=some (.int .i64 l.id)):=lh fun w' T=>by simpa using (hR w' T k l hl).2 0 _ rfl
  have b0:(0:Int)≤(k:Int):=by omega
  have b1:(k:Int)<(ln:Int):=by omega
  clear hR hl;have hidc:=HI0.out _ (T0.trans TT);have HY:Hid (ids[k]?=some l.id):=lh (by rw [HID.out,List.getElem?_map,HLK.out];rfl);clear hlm hls;generalize l.id=y at *;obtain⟨hc,hf⟩:=tcell TT;go_upto_region 26 with (fail)
  go_wp2_with (first
   | (go_at_call 74;refine (HRe.out _ _ (T0.trans TT)).mono ?_;rintro e w1 ⟨v1,xs,rfl,hV1,hmem,hlen,ht1⟩;obtain⟨A7,n7,c7,rfl,hI7⟩:=hV1.ints;have TX:=TT.trans ht1;obtain⟨hc1,hf1⟩:=tcell TX;have hn7:=lh hI7.1;have hI:=lh hI7;clear hI7;have HM:=lh hmem;clear hmem;have HLN:=lh hlen;clear hlen hV1)
   | (go_at_call 73;refine (ref_has xs y A7 n7 c7 (by have:=hn7.out;have:=HLN.out;omega) w1 hI.out).mono ?_;rintro e w2 ⟨rfl,hw⟩;rw [hw];clear hw;have HQ:=lh (HM.out y);generalize hq:decide (y∈xs)=q;have HQ2:=lh hq;clear hq;cases q))
  ·go_roundw;case rel=>exact⟨k+1,by omega,by go_num,fun j l' hj hl'=>by
    by_cases h:j<k
    ·exact HALL9.out j l' h hl'
    obtain rfl:j=k:=(by omega);have hl':=HY.out.symm.trans hl';injection hl' with hl';subst hl';exact fun hr=>absurd (HQ.out.2 hr) (of_decide_eq_false HQ2.out),TX⟩
   simp [intOf];omega
  have hc:=hc1;have y0:_:=(hc _ _ (by omega:w.heap.size+1<W.heap.size)).trans z0;have y1:_:=(hc _ _ (by omega:w.heap.size+1<W.heap.size)).trans z1;refine bodyPost_ret (v:=.agg #[(42:Int),y]) (by simp [results,results37,go_sem,y0,y1]) rfl ⟨.mk _ _ ⟨fun e=>?_,fun h=>?_⟩,?_⟩
  ·cases e
  ·exact (K4.out h k y HY.out (HQ.out.1 (of_decide_eq_true HQ2.out))).elim
  exact ((T0.trans TX).sc).sc
 obtain rfl:ln=k:=by omega
 obtain⟨hc,hf⟩:=tcell TT;go_wp2_with fail
 have hacy:∀x,¬Reach layers x x:=fun x hr=>by obtain⟨j,hj⟩:=reach_some hr;rw [←HID.out]at hj;exact HALL9.out j x (by have:=(List.getElem?_eq_some_iff.1 hj).1;have:=HL.out;omega) hj hr
 have hD:=fun u (T:Turn [] W u)=>HDe.out hacy u (T0.trans T);generalize hdm:depthM layers 2501 root=D at *;have HDM:=lh hdm;have HAC:=lh hacy;have HDC:=lh hD;clear hdm hacy hD;go_wp2_with (go_at_call 75;refine (HDC.out _ TT).mono ?_;rintro e w2 ⟨rfl,ht2⟩;have TX:=TT.trans ht2;obtain⟨hc1,hf1⟩:=tcell TX;have HQ:Hid (∃q,decide (6<D)=q):=lh ⟨_,rfl⟩;obtain⟨q,hq⟩:=HQ.out;have HQ2:=lh hq;cases q)
 ·have hc:=hc1;have y0:_:=(hc _ _ (by omega:w.heap.size+1<W.heap.size)).trans z0;have y1:_:=(hc _ _ (by omega:w.heap.size+1<W.heap.size)).trans z1;refine bodyPost_ret (v:=.agg #[(0:Int),(0:Int)]) (by simp [results,results37,go_sem,y0,y1]) rfl ⟨.mk _ _ ⟨fun e=>?_,fun h=>?_⟩,?_⟩
  ·exact K6.out (fun j l hj=>HALL4.out j l (by have:=(List.getElem?_eq_some_iff.1 hj).1;have:=HN.out;omega) hj) (fun j l hj=>HALL6.out j l (by have:=(List.getElem?_eq_some_iff.1 hj).1;have:=HN.out;omega) hj) (fun j l hj=>HALL7.out j l (by have:=(List.getElem?_eq_some_iff.1 hj).1;have:=HN.out;omega) hj) (fun j y hj hr=>HAC.out y hr) (by have:=of_decide_eq_false HQ2.out;omega)
  ·rfl
  exact ((T0.trans TX).sc).sc
 have hc:=hc1;have y0:_:=(hc _ _ (by omega:w.heap.size+1<W.heap.size)).trans z0;have y1:_:=(hc _ _ (by omega:w.heap.size+1<W.heap.size)).trans z1;refine bodyPost_ret (v:=.agg #[(43:Int),root]) (by simp [results,results37,go_sem,y0,y1]) rfl ⟨.mk _ _ ⟨fun e=>?_,fun h=>?_⟩,?_⟩
 ·cases e
 ·have:=K5.out h;have:=of_decide_eq_true HQ2.out;omega
 exact ((T0.trans TX).sc).sc
def LayerM.nd(l:LayerM)(r:Rc): Rc:=l.filt.area (fltB l.filt l.ks l.cs) r (-1)
def LayerM.wide(l:LayerM)(r:Rc): Rc:=(r.join (l.nd r)).can
theorem LayerM.wide_in(l:LayerM){r:Rc}(h:r.InC): (l.wide r).InC:=Rc.can_join h
def LayerM.step(l:LayerM)(r:Rc): Rc:=if l.hidden=false∧l.kind=3 then l.wide r else r
def lowR(ks:List LayerM)(r:Rc): Rc:=ks.foldr LayerM.step r
theorem lowR_in(ks:List LayerM){r:Rc}(h:r.InC): (lowR ks r).InC:=by
 induction ks with
 | nil=>exact h
 | cons l ks ih=>
  show (l.step (lowR ks r)).InC;unfold LayerM.step;split
  ·exact l.wide_in ih
  exact ih
structure DepM where
 layer:Int
 below:Bool
 r:Rc
def DepM.row(x:DepM): List Value:=[x.layer,.bool x.below,x.r.x0,x.r.y0,x.r.x1,x.r.y1]
def DepM.v(x:DepM): Value:=.agg ⟨x.row⟩
def putD(out:List DepM)(x:DepM): List DepM:=if x.r.empty=true then out else out ++ [x]
def levs(ks:List LayerM)(r:Rc): List (LayerM×Rc):=match ks with
 | []=>[]
 | l :: ks=>if l.hidden=true then levs ks r else (l,lowR ks r) :: levs ks r
def kidDeps(ks:List LayerM)(r:Rc): List DepM:=((levs ks r).filter (fun x=>x.1.kind≠3)).map fun x=>⟨x.1.id,false,x.2⟩
theorem levs_len(ks:List LayerM)(r:Rc): (levs ks r).length≤ks.length:=by
 induction ks with
 | nil=>exact Nat.le_refl _
 | cons l ks ih=>
  unfold levs;split
  ·simp;omega
  simp;exact ih
theorem levs_in(ks:List LayerM){r:Rc}(h:r.InC): ∀x∈levs ks r,x.2.InC:=by
 induction ks with
 | nil=>intro x hx;simp [levs]at hx
 | cons l ks ih=>
  intro x hx;unfold levs at hx;split at hx
  ·exact ih x hx
  rcases List.mem_cons.1 hx with rfl | hx
  ·exact lowR_in ks h
  exact ih x hx
theorem kidDeps_cons(l:LayerM)(ks:List LayerM)(r:Rc): kidDeps (l :: ks) r=if l.hidden=false∧l.kind≠3 then ⟨l.id,false,lowR ks r⟩ :: kidDeps ks r else kidDeps ks r:=by
 have e:levs (l :: ks) r=if l.hidden=true then levs ks r else (l,lowR ks r) :: levs ks r:=rfl
 unfold kidDeps;rw [e];cases l.hidden with
 | true=>simp
 | false=>by_cases h:l.kind=3 <;> simp [h]
def firstDeps(ks:List LayerM)(r:Rc): Nat→List DepM
 | 0=>[]
 | k+1=>match ks[k]? with
  | none=>firstDeps ks r k
  | some l=>if l.hidden=false∧l.kind≠3 then firstDeps ks r k ++ [⟨l.id,false,lowR (ks.drop (k+1)) r⟩] else firstDeps ks r k
theorem firstDeps_drop(ks:List LayerM)(r:Rc): ∀k,k≤ks.length→firstDeps ks r k ++ kidDeps (ks.drop k) r=kidDeps ks r
 | 0,_=>by simp [firstDeps]
 | k+1,h=>by
  rw [←firstDeps_drop ks r k (by omega)];have hk:k<ks.length:=by omega
  rw [List.drop_eq_getElem_cons hk,kidDeps_cons];have e:firstDeps ks r (k+1)=match ks[k]? with
   | none=>firstDeps ks r k
   | some l=>if l.hidden=false∧l.kind≠3 then firstDeps ks r k ++ [⟨l.id,false,lowR (ks.drop (k+1)) r⟩] else firstDeps ks r k:=rfl
  rw [e,List.getElem?_eq_getElem hk];simp only;split <;> simp
theorem firstDeps_all(ks:List LayerM)(r:Rc): firstDeps ks r ks.length=kidDeps ks r:=by have:=firstDeps_drop ks r ks.length (Nat.le_refl _);rw [List.drop_length]at this;simpa [kidDeps,levs]using this
theorem firstDeps_len(ks:List LayerM)(r:Rc): ∀k,(firstDeps ks r k).length≤k
 | 0=>Nat.le_refl _
 | k+1=>by
  have:=firstDeps_len ks r k;unfold firstDeps;split
  ·omega
  split
  ·simp;omega
  omega
def depsM(ls:List LayerM)(l:LayerM)(id:Int)(r:Rc): List DepM:=
 if l.kind=4 then putD [] ⟨l.of,false,(l.place.need r).can⟩
 else if l.kind=2 then kidDeps (l.kids.filterMap (layerAt ls)) r
 else if l.kind=3 then putD [] ⟨id,true,(l.nd r).can⟩ else []
end Go.Proofs.YtbpklgllihhgpaaGreat
