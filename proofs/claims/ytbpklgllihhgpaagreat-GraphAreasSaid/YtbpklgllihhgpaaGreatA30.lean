import Derived.Test.YtbpklgllihhgpaaGreatA27
set_option maxRecDepth 100000
set_option maxHeartbeats 16000000
namespace Go.Proofs.YtbpklgllihhgpaaGreat
open Tryz Go.RowKit Go.Den
def dh(ls:List bI)(id:Int): Option bI:=match mW (ls.map (·.id)) id with | some k=>ls[k]? | none=>none
def dP(ls:List bI): Nat→Int→Int
 | 0,_=>0
 | n+1,id=>match dh ls id with
  | none=>0
  | some l=>if l.kind=2∨l.kind=4 then (fZ l).foldl (fun m p=>max m (dP ls n p)) 0+1 else 0
inductive UL(ls:List bI): Nat→Int→Prop where
 | mk {n:Nat} {id:Int} (h:∀y∈eP ls id,UL ls n y):UL ls (n+1) id
theorem rE{ls:List bI}{id:Int}{l:bI}(h:dh ls id=some l): eP ls id=fZ l:=by
 unfold dh at h;unfold eP;cases ha:mW (ls.map (·.id)) id with
 | none=>rw [ha]at h;cases h
 | some k=>rw [ha]at h;simp only at h ⊢;rw [h]
theorem yg{ls:List bI}(hf:∀x,¬iY ls x x): ∀(k:Nat) (id:Int) (vis:List Int),vis.Nodup→(∀v∈vis,v∈Me ls)→(∀v∈vis,v=id∨iY ls v id)→(Me ls).length<vis.length+k→UL ls k id
 | 0,_,vis,hn,hu,_,hl=>absurd (xC hn hu) (by omega)
 | k+1,id,vis,hn,hu,hr,hl=>.mk fun y hy=>by
  have hxy:iY ls id y:=.one hy;have hry:∀v∈vis,iY ls v y:=fun v hv=>(hr v hv).elim (fun e=>e ▸ hxy) fun h=>.tail h hy;refine yg hf k y (y :: vis) (List.nodup_cons.2 ⟨fun hm=>hf y (hry y hm),hn⟩) (fun v hv=>?_) (fun v hv=>?_) (by simp only [List.length_cons];omega)
  ·rcases aS.1 hv with rfl | hv
   ·exact BJ hxy
   exact hu v hv
  rcases aS.1 hv with rfl | hv
  ·exact .inl rfl
  exact .inr (hry v hv)
theorem zk{ls:List bI}(hs:oP ls)(hf:∀x,¬iY ls x x)(id:Int): UL ls 2501 id:=
 yg hf 2501 id [] List.nodup_nil (by simp) (by simp) (by have:=Ia hs;simp;omega)
theorem oh(f:Int→Int)(N:Int): ∀(ps:List Int) (m:Int),0≤m→m≤N→(∀p∈ps,0≤f p∧f p≤N)→0≤ps.foldl (fun m p=>max m (f p)) m∧ps.foldl (fun m p=>max m (f p)) m≤N
 | [],m,h0,h1,_=>⟨h0,h1⟩
 | p :: ps,m,h0,h1,h=>by have:=h p (by simp);exact oh f N ps (max m (f p)) (by omega) (by omega) fun q hq=>h q (by simp [hq])
theorem qN(ls:List bI): ∀(n:Nat) (id:Int),0≤dP ls n id∧dP ls n id≤n
 | 0,_=>⟨Int.le_refl _,Int.le_refl _⟩
 | n+1,id=>by
  unfold dP;cases dh ls id with
  | none=>simp only;omega
  | some l=>
   simp only;split
   ·have:=oh (dP ls n) n (fZ l) 0 (by omega) (by omega) fun p _=>qN ls n p;omega
   omega
theorem uZ(ls:List bI): ∀(n:Nat) (id:Int),UL ls n id→∀m,n≤m→dP ls m id=dP ls n id
 | 0,_,h,_,_=>by cases h
 | n+1,id,.mk h,0,hm=>absurd hm (by omega)
 | n+1,id,.mk h,m+1,hm=>by
  unfold dP;cases ha:dh ls id with
  | none=>rfl
  | some l=>
   simp only;have hst:=rE ha;have:∀(ps:List Int),(∀p∈ps,p∈fZ l)→∀a,ps.foldl (fun q p=>max q (dP ls m p)) a=ps.foldl (fun q p=>max q (dP ls n p)) a:=by
    intro ps;induction ps with
    | nil=>intro _ _;rfl
    | cons p ps ih=>
     intro hp a;simp only [List.foldl_cons];rw [uZ ls n p (h p (hst ▸ hp p (by simp))) m (by omega)];exact ih (fun q hq=>hp q (by simp [hq])) _
   rw [this _ (fun _ h=>h)]
theorem DW(d:df)(hsh:oP d.layers): ∀(n:Nat) (id:Int),UL d.layers n id→n≤3000→∀(w:World),d.At w→Calls prog 75 #[d.v,id] w fun e w'=>e=.returned (.int .i64 (dP d.layers n id))∧bH [] w w'
 | 0,_,h,_,_,_=>by cases h
 | n+1,id,.mk hlow,hn3,w,h=>by
  have ih:=fun p (hp:p∈eP d.layers id) u (hu:d.At u)=>DW d hsh n p (hlow p hp) (by omega) u hu;have hA:=uD d id;have hC:=fun h1=>h.layers.cell h1;have hn:=h.layers.1;have hlen:d.ids.length=d.ln:=by rw [h.layers.1];simp [df.ids]
  have HAt:=lh h;have hsm:=h.small;have hid:d.ids=d.layers.map (·.id):=rfl;have hbd:=qN d.layers n;clear h hlow;generalize d.ids=ids at *;obtain⟨sA,sn,sc,spaces,root,next,lA,ln,lc,layers⟩:=d;simp only [df.v]at *;have T0:=(tR w).alloc (.cells #[.slice sA sn sc,root,next,.slice lA ln lc] 29);have HIH:=lh ih;have HA:=lh hA;have HC:=lh hC;have HN:=lh hn;have HID:=lh hid;have HBD:=lh hbd;clear hA hC hn hid ih hbd;obtain⟨W,hW⟩:∃W,W=w.alloc (.cells #[.slice sA sn sc,root,next,.slice lA ln lc] 29):=⟨_,rfl⟩;obtain⟨q0,q1,q2,q3⟩:=GX (Rf hW);have hWs:W.heap.size=w.heap.size+1:=by rw [hW];simp
  rw [←hW]at T0;cases hat:mW ids id with
  | none=>
   have hs:dP layers (n+1) id=0:=(by unfold dP dh;rw [←HID.o,hat]);have ham:sQ ids id=-1:=(by unfold sQ;rw [hat]);rw [hs];rw [ham]at HA;go_enter func75,ntmps75;(go_upto_region 1 with (fail));rw [←hW];clear hW;(go_wp2_with (go_at_call 20;refine (HA.o _ (HAt.o.turn T0)).mono ?_;rintro e w1 ⟨rfl,ht1⟩));go_ret;exact⟨rfl,T0.trans ht1⟩
  | some k=>
   have hk:k<ln:=(by have:=(bi.1 hat).1;omega);have hls:k<layers.length:=(by have:=HN.o;omega);obtain⟨l,hl⟩:∃l,layers[k]?=some l:=⟨layers[k],by simp [hls]⟩;have hla:dh layers id=some l:=(by unfold dh;rw [←HID.o,hat];exact hl);have hst:=rE hla;have hs:dP layers (n+1) id=if l.kind=2∨l.kind=4 then (fZ l).foldl (fun m p=>max m (dP layers n p)) 0+1 else 0:=by rw [dP,hla]
   have ham:sQ ids id=(k:Int):=(by unfold sQ;rw [hat]);rw [ham]at HA;rw [hst]at HIH;generalize dP layers (n+1) id=D at *;have HD:=lh hs;obtain⟨g,o,rfl,hR⟩:=HC.o (by omega);have HR:Hid (∀w',bH [] w w'→l.At w'∧w'.rangeAt g (o+k*31) l.row):=lh fun w' T=>hR w' T k l hl;have hiL:(prog.info? 89).map (·.size)=some l.row.length:=(zero_of_info rX).2;have b0:(0:Int)≤(k:Int):=(by omega);have b1:(k:Int)<(ln:Int):=(by omega);have HPA:=lh (rV l);clear hR hs ham hat hl hls hla hst;go_enter func75,ntmps75;(go_upto_region 1 with (fail));rw [←hW];clear hW;(go_upto_region 4 with (go_at_call 20;refine (HA.o _ (HAt.o.turn T0)).mono ?_;rintro e w1 ⟨rfl,ht1⟩));obtain⟨hLA,hRR⟩:=HR.o _ (T0.trans ht1);have hal:=oM w1;have hsto:=pX l w1;have hp:=jg l w1 89;have p1:=kQ hp 1 l.kind rfl;obtain⟨hc,hf⟩:=bY ht1;have TL:=(tR w1).alloc (.cells ⟨l.row⟩ 89);have hLA:=hLA.turn TL;have hPA:=HPA.o _ hLA;unfold bI.v at hPA;generalize l.row=row at *;go_upto_region 5 with (first
    | (refine wpList_load_mid rfl 89 _ rfl _ _ rfl _ _ hRR underlying89 rfl hiL ?_)
    | (refine bU rfl 89 _ _ rfl rfl rfl hsto ?_))
   have TW:bH [] W (w1.alloc (.cells ⟨row⟩ 89)):=ht1.trans TL;have hpR:(w1.alloc (.cells ⟨row⟩ 89)).rangeAt w1.heap.size 0 row:=hp;clear hal hsto hp hRR hc hf;have hsz:(w1.alloc (.cells ⟨row⟩ 89)).heap.size=w1.heap.size+1:=(by simp);have hw1:=ht1.size;generalize w1.heap.size=b at *;generalize w1.alloc (.cells ⟨row⟩ 89)=V at *;clear TL ht1;by_cases hg:l.kind=2∨l.kind=4
   ·have HD2:Hid (D=(fZ l).foldl (fun m p=>max m (dP layers n p)) 0+1):=lh (by rw [HD.o,aG hg]);clear HD;rcases hg with hg | hg;all_goals
     rw [hg]at p1;clear hg;go_upto_region 9 with (first
      | (go_at_call 113;refine hPA.mono ?_;rintro e w2 ⟨A2,n2,c2,rfl,hI2,hn2,ht2⟩)
      | (refine wpList_load_mid rfl 89 _ rfl _ _ rfl _ _ hpR underlying89 rfl hiL ?_))
     have TX:=TW.trans ht2;have hnp:=hI2.1;have HI:=lh hI2;generalize fZ l=ps at *;clear hI2 hPA p1 hpR hLA;(go_wp2_with fail);go_loopw [7,9] (fun s7 s9 wr=>∃j:Nat,j≤n2∧s9=j∧s7=.int .i64 ((ps.take j).foldl (fun m p=>max m (dP layers n p)) 0)∧bH [] w2 wr) (fun _ s9 _=>n2 - (intOf s9).toNat);case atStart=>exact⟨0,by omega,rfl,rfl,tR _⟩
     case round=>
      obtain⟨j,hj,rfl,rfl,T⟩:=hrel
      have hfb:=oh (dP layers n) n (ps.take j) 0 (by omega) (by omega) fun p _=>HBD.o p
      by_cases hjl:j<n2
      ·obtain⟨g2,o2,rfl,hA2⟩:=HI.o.cell (by omega);have hkc:=hA2 _ T j hjl;have hpl:j<ps.length:=(by omega);have hx:ps.getD j 0=ps[j]:=(by simp [List.getD,hpl]);have hxm:ps.getD j 0∈ps:=(by rw [hx];exact List.getElem_mem hpl);have htk:(ps.take (j+1)).foldl (fun m p=>max m (dP layers n p)) 0=max ((ps.take j).foldl (fun m p=>max m (dP layers n p)) 0) (dP layers n (ps.getD j 0)):=(by rw [aT hpl,List.foldl_append,hx];rfl);have hxb:=HBD.o (ps.getD j 0);have HTK:=lh htk;have hcall:=fun u hu=>HIH.o (ps.getD j 0) hxm u hu;clear htk hA2 hx hxm hpl;generalize ps.getD j 0=x at *;generalize (ps.take j).foldl (fun m p=>max m (dP layers n p)) 0=M at *;have c0:(0:Int)≤(j:Int):=(by omega);have c1:(j:Int)<(n2:Int):=(by omega);have TA:=T0.trans (TX.trans T);have mv:∀{b i:Nat} {v:Value},W.cell? ⟨b,i,none⟩=some v→wr.cell? ⟨b,i,none⟩=some v:=fun h=>by rw [(bY (TX.trans T)).1 _ _ (ai h)];exact h
       have e0:=mv q0;have e1:=mv q1;have e2:=mv q2;have e3:=mv q3;have mvr:∀{b i:Nat} {v:Value},wr.cell? ⟨b,i,none⟩=some v→∀w',bH [] wr w'→w'.cell? ⟨b,i,none⟩=some v:=fun h w' T=>by rw [(bY T).1 _ _ (ai h)];exact h
       have HS:Hid (∀w',bH [] wr w'→(w'.cell? ⟨w,0,none⟩=some (.slice sA sn sc)∧w'.cell? ⟨w,1,none⟩=some (.int .i64 root)∧w'.cell? ⟨w,2,none⟩=some (.int .i64 next)∧w'.cell? ⟨w,3,none⟩=some (.slice (some ⟨g,o,none⟩) ln lc)∧w'.cell? ⟨g2,o2+j,none⟩=some (.int .i64 x))):=
        lh fun w' T=>⟨mvr e0 w' T,mvr e1 w' T,mvr e2 w' T,mvr e3 w' T,mvr hkc w' T⟩
       clear mvr;have TR:=(tR wr).drawn 1;have HAT:=lh (hcall wr.drew (HAt.o.turn (TA.drawn 1)));clear hcall;(go_upto_region 12 with (fail));clear mv e0 e1 e2 e3 q0 q1 q2 q3 hkc;generalize dP layers n x=dx at *;go_region_held3 (fun w'=>w'.cell? ⟨w,0,none⟩=some (.slice sA sn sc)∧w'.cell? ⟨w,1,none⟩=some (.int .i64 root)∧w'.cell? ⟨w,2,none⟩=some (.int .i64 next)∧w'.cell? ⟨w,3,none⟩=some (.slice (some ⟨g,o,none⟩) ln lc)∧w'.cell? ⟨g2,o2+j,none⟩=some (.int .i64 x)) (first | exact HS.o _ TR | exact HS.o _ (TR.trans ht1)) (first
        | (go_at_call 75;refine HAT.o.mono ?_;rintro e w1 ⟨rfl,ht1⟩))
       (go_wp2_with fail);all_goals exact⟨⟨j+1,by omega,by go_num,by first | (rw [HTK.o];omega) | (congr 1;rw [HTK.o];omega),T.trans (TR.trans ht1)⟩,by simp [intOf];omega⟩
      ·obtain rfl:j=n2:=(by omega);have htk:ps.take j=ps:=aY (by omega);rw [htk]at hfb;(go_wp2_with fail);go_ret;exact⟨by rw [HD2.o,htk];rfl,T0.trans (TX.trans T)⟩
   have HD2:Hid (D=0):=lh (by rw [HD.o,aF hg]);clear HD;have hg1:¬l.kind=2:=fun e=>hg (.inl e);have hg2:¬l.kind=4:=fun e=>hg (.inr e);have x1:(l.kind != 2)=true:=(by simp [hg1]);have x2:(l.kind != 4)=true:=(by simp [hg2]);(go_wp2_with fail);go_ret;exact⟨by rw [HD2.o];rfl,T0.trans TW⟩
structure df.Tidy(d:df): Prop where
 spc:∀s∈d.spaces,s.Good
 sn:d.sn≤8
 ln:d.ln≤40
 next:1≤d.next∧d.next≤1048576
 inc:d.ids.Pairwise (· < ·)
 pos:∀x∈d.ids,1≤x∧x<d.next
 root:∃l,dh d.layers d.root=some l∧l.kind=2
 lay:∀l∈d.layers,l.Tidy d.sn
theorem mD.cell{w:World}{A:Option Addr}{n:Nat}{ss:List eF}(h:mD w A n ss)(h1:1≤n): ∃g o,A=some ⟨g,o,none⟩∧∀w',bH [] w w'→∀j s,ss[j]?=some s→s.At w'∧w'.rangeAt g (o+j*21) s.row:=by
 have hl:0<ss.length:=by have:=h.1;omega
 obtain⟨_,g,o,rfl,_⟩:=h.2 0 ss[0] (by simp [hl]);refine⟨g,o,rfl,fun w' T j l hj=>?_⟩;obtain⟨a,g',o',e,b⟩:=h.2 j l hj;injection e with e;injection e with e1 e2 e3;subst e1;subst e2;exact⟨a.turn T,fJ T b⟩
theorem eF.row_len(s:eF)(h1:s.mTo.length=9)(h2:s.mFr.length=9): s.row.length=21:=by simp [eF.row,h1,h2]
theorem UV:(prog.info? 99).map (·.size)=some 21:=by kernel_rfl
theorem NH(d:df)(w:World)(h:d.At w)(ht:d.Tidy): Calls prog 70 #[d.v] w fun e w'=>e=.returned (.agg #[(0:Int),(0:Int)])∧bH [] w w':=by
 have hA:=uD d d.root;have hSp:=fun s hs u hu=>LQ s (ht.spc s hs) u hu;have hC:=fun h1=>h.layers.cell h1;have hSC:=fun h1=>h.spaces.cell h1;have hIC:=fun h1=>df.ids_cell h h1;have hlen:d.ids.length=d.ln:=by rw [h.layers.1];simp [df.ids]
 have hn:=h.layers.1;have hsn:=h.spaces.1;have hs8:=ht.sn;have hl40:=ht.ln;obtain⟨hx1,hx2⟩:=ht.next;have hinc:=ht.inc;have hpos:=ht.pos;obtain⟨lr,hlr,hlk⟩:=ht.root;have HAt:=lh h;clear h ht;have hid:d.ids=d.layers.map (·.id):=rfl;generalize d.ids=ids at *;obtain⟨sA,sn,sc,spaces,root,next,lA,ln,lc,layers⟩:=d;simp only [df.v]at *;obtain⟨W,hW⟩:∃W,W=(w.alloc (.cells #[.slice sA sn sc,root,next,.slice lA ln lc] 29)).alloc (.cells #[(0:Int),(0:Int)] 104):=⟨_,rfl⟩;have T0:bH [] w W:=hW ▸ ((tR w).alloc _).alloc _;obtain⟨q0,q1,q2,q3⟩:=GX (JK hW).1;obtain⟨z0,z1⟩:=WE (JK hW).2;have zf:∀i,W.frozen? ⟨w.heap.size+1,i,none⟩=false:=fun i=>by rw [hW];simp [go_sem]
 have hWs:W.heap.size=w.heap.size+2:=by rw [hW];simp
 have k1:decide (8<(sn:Int))=false:=ak (by omega);have k2:decide (40<(ln:Int))=false:=ak (by omega);have k3:decide (next<1)=false:=ak (by omega);have k4:decide (1048576<next)=false:=ak (by omega);have HA:=lh hA;have HSp:=lh hSp;have HC:=lh hC;have HSC:=lh hSC;have HIC:=lh hIC;have HL:=lh hlen;have HN:=lh hn;have HSN:=lh hsn;have HINC:=lh hinc;have HPOS:=lh hpos;have HLR:=lh hlr;have HLK:=lh hlk;have HID:=lh hid;clear hA hSp hC hSC hIC hlen hn hsn hinc hpos hlr hlk hid;go_enter func70,ntmps70;go_upto_region 1 with (fail)
 rw [←hW];clear hW;go_wp2_with fail
 go_loopw [3] (fun s3 wr=>∃k:Nat,k≤sn∧s3=k∧bH [] W wr) (fun s3 _=>sn - (intOf s3).toNat);case atStart=>exact⟨0,by omega,rfl,tR W⟩
 obtain⟨k,hk,rfl,TT⟩:=hrel;obtain⟨hc,hf⟩:=bY TT;by_cases hlt:k<sn
 ·obtain⟨g,o,rfl,hR⟩:=HSC.o (by omega);have hls:k<spaces.length:=by have:=HSN.o;omega
  obtain⟨s,hs⟩:∃s,spaces[k]?=some s:=⟨spaces[k],by simp [hls]⟩;have hsm:s∈spaces:=aH hs;obtain⟨hsA,hRR⟩:=hR _ (T0.trans TT) k s hs;have hiS:(prog.info? 99).map (·.size)=some s.row.length:=by rw [s.row_len hsA.h1 hsA.h2];exact UV
  have hcall:=lh (HSp.o s hsm wr hsA);have b0:(0:Int)≤(k:Int):=by omega
  have b1:(k:Int)<(sn:Int):=by omega
  clear hsA hR hs hls hsm;generalize s.row=row at *;go_upto_region 6 with (fail)
  go_upto_region 7 with (first
   | (refine wpList_load_mid rfl 99 _ rfl _ _ rfl _ _ hRR underlying99 rfl hiS ?_)
   | (go_at_call 106;refine hcall.out.mono ?_;rintro e w1 ⟨rfl,ht1⟩))
  clear hRR;go_wp2_with fail
  go_roundw;case rel=>exact⟨k+1,by omega,by go_num,TT.trans ht1⟩
  simp [intOf];omega
 obtain rfl:k=sn:=by omega
 go_wp2_with fail
 go_loopw [5,6] (fun s5 s6 wr=>∃k:Nat,k≤ln∧s6=k∧(∃z:Int,s5=z∧∀j y,k≤j→ids[j]?=some y→z<y)∧bH [] W wr) (fun _ s6 _=>ln - (intOf s6).toNat);case atStart=>exact⟨0,by omega,rfl,⟨0,rfl,fun j y _ hy=>by have:=HPOS.o y (aH hy);omega⟩,TT⟩
 obtain⟨k,hk,rfl,⟨z,rfl,hz⟩,TT⟩:=hrel;obtain⟨hc,hf⟩:=bY TT;by_cases hlt:k<ln
 ·obtain⟨g,o,rfl,hR⟩:=HIC.o (by omega);obtain⟨y,hy,hcy⟩:=hR k hlt;have hcell:=hcy _ (T0.trans TT);have h1:=hz k y (aQ _) hy;have h2:=(HPOS.o y (aH hy)).2;have HY:=lh hy;clear hR hcy hz hy;have b0:(0:Int)≤(k:Int):=by omega
  have b1:(k:Int)<(ln:Int):=by omega
  have e1:decide (y≤z)=false:=ak (by omega);have e2:decide (next≤y)=false:=ak (by omega);go_wp2_with fail
  go_roundw;case rel=>exact⟨k+1,by omega,by go_num,⟨y,rfl,fun j x hj hx=>by
   have hp:=List.pairwise_iff_getElem.1 HINC.o;obtain⟨i1,e1⟩:=ah.1 HY.o;obtain⟨i2,e2⟩:=ah.1 hx;have:=hp k j i1 i2 (by omega);rw [e1,e2]at this;exact this⟩,TT⟩
  simp [intOf];omega
 obtain rfl:k=ln:=by omega
 obtain⟨r,hr⟩:∃r,mW ids root=some r∧layers[r]?=some lr:=by
  have:=HLR.o;unfold dh at this;rw [←HID.o]at this;cases ha:mW ids root with
  | none=>rw [ha]at this;cases this
  | some r=>rw [ha]at this;exact⟨r,rfl,this⟩
 have ham:sQ ids root=(r:Int):=by unfold sQ;rw [hr.1]
 have hrl:r<layers.length:=(ah.1 hr.2).1;have hrn:r<k:=by have:=HN.o;omega
 obtain⟨g,o,rfl,hR⟩:=HC.o (by omega);have hcK:∀u,bH [] w u→u.cell? ⟨g,o+r*31+1,none⟩=some (.int .i64 2):=fun u T=>by have:=(hR u T r lr hr.2).2 1 _ rfl;rw [HLK.o]at this;exact this
 have HK:=lh hcK;rw [ham]at HA;have b0:(0:Int)≤(r:Int):=by omega
 have b1:(r:Int)<(k:Int):=by omega
 clear hcK hR hz ham hr hrl;go_upto_region 18 with (go_at_call 20;refine (HA.o _ (HAt.o.turn (T0.trans TT))).mono ?_;rintro e w1 ⟨rfl,ht1⟩)
 have TX:=TT.trans ht1;clear hc hf;obtain⟨hc,hf⟩:=bY TX;have hcell:=HK.o _ (T0.trans TX);go_wp2_with fail
 have y0:w1.cell? ⟨w.heap.size+1,0,none⟩=some (.int .i64 0):=(hc _ _ (by omega)).trans z0;have y1:w1.cell? ⟨w.heap.size+1,1,none⟩=some (.int .i64 0):=(hc _ _ (by omega)).trans z1;refine ag (v:=.agg #[(0:Int),(0:Int)]) (by simp [results,results70,go_sem,y0,y1]) rfl ⟨rfl,?_⟩;exact ((T0.trans TX).sc).sc
def tK(ls:List bI)(l:bI): Prop:=l.kind=4→∃m,dh ls l.of=some m∧m.kind≠3
structure df.Ok(d:df): Prop where
 good:∀(k:Nat) (l:bI),d.layers[k]?=some l→l.good=true
 kids:∀(k:Nat) (l:bI),d.layers[k]?=some l→pM d.layers d.root l=true
 clone:∀(k:Nat) (l:bI),d.layers[k]?=some l→tK d.layers l
 free:∀(k:Nat) (y:Int),d.ids[k]?=some y→¬iY d.layers y y
 depth:dP d.layers 2501 d.root≤6
inductive Uy(P:Prop): Ending→Prop where
 | mk (e i:Int) (h:e=0↔P):Uy P (.returned (.agg #[e,i]))
theorem zV{ls:List bI}{x y:Int}(h:y∈eP ls x): ∃k:Nat,(ls.map (·.id))[k]?=some x:=by
 unfold eP at h;cases ha:mW (ls.map (·.id)) x with
 | none=>rw [ha]at h;simp at h
 | some k=>
  unfold mW at ha;rw [bi]at ha;obtain⟨h1,h2,_⟩:=ha;exact⟨k,by rw [aB h1];simpa using h2⟩
theorem zL{ls:List bI}{x y:Int}(h:iY ls x y): ∃k:Nat,(ls.map (·.id))[k]?=some x:=by
 induction h with
 | one h=>exact zV h
 | tail _ _ ih=>exact ih
theorem df.Ok.acy{d:df}(h:d.Ok)(x:Int): ¬iY d.layers x x:=fun hr=>by obtain⟨k,hk⟩:=zL hr;exact h.free k x hk hr
theorem kG.short{w:World}{A:Option Addr}{n:Nat}{ls:List bI}(h:kG w A n ls)(hn:n≤50): oP ls:=by refine⟨by rw [←h.1];exact hn,fun l hl=>?_⟩;obtain⟨j,hj,rfl⟩:=List.getElem_of_mem hl;have hA:=(h.2 j ls[j] (by simp [hj])).1;have:=hA.Xk;rw [hA.kids.1]at this;exact this
theorem Df(d:df)(w:World)(h:d.At w)(ht:d.Tidy): Calls prog 37 #[d.v] w fun e w'=>Uy d.Ok e∧bH [] w w':=by
 have hsh:oP d.layers:=h.layers.short h.small;have hWh:=fun u (t:bH [] w u)=>NH d u (h.turn t) ht;have hFi:=fun l u (hl:l.At u) (hm:l∈d.layers)=>Je d l u hl (ht.lay l hm);have hKi:=fun l u (t:bH [] w u) (hl:l.At u)=>PS d l u (h.turn t) hl;have hA:=fun x u (t:bH [] w u)=>uD d x u (h.turn t);have hRe:=fun x u (t:bH [] w u)=>G6 d x u (h.turn t) hsh;have hDe:=fun (ha:∀x,¬iY d.layers x x) u (t:bH [] w u)=>DW d hsh 2501 d.root (zk hsh ha _) (by omega) u (h.turn t);have hC:=fun h1=>h.layers.cell h1;have hn:=h.layers.1;have hsm:=h.small;have hlen:d.ids.length=d.ln:=by rw [h.layers.1];simp [df.ids]
 have hid:d.ids=d.layers.map (·.id):=rfl;have ok1:d.Ok→_:=fun o=>o.good;have ok2:d.Ok→_:=fun o=>o.kids;have ok3:d.Ok→_:=fun o=>o.clone;have ok4:d.Ok→_:=fun o=>o.free;have ok5:d.Ok→_:=fun o=>o.depth;have ok6:_→_→_→_→_→d.Ok:=fun a b c e f=>⟨a,b,c,e,f⟩;clear h ht;generalize d.Ok=OKP at *;generalize d.ids=ids at *;obtain⟨sA,sn,sc,spaces,root,next,lA,ln,lc,layers⟩:=d;simp only [df.v,bI.v]at *;obtain⟨W,hW⟩:∃W,W=(w.alloc (.cells #[.slice sA sn sc,root,next,.slice lA ln lc] 29)).alloc (.cells #[(0:Int),(0:Int)] 104):=⟨_,rfl⟩;have T0:bH [] w W:=hW ▸ ((tR w).alloc _).alloc _;obtain⟨q0,q1,q2,q3⟩:=GX (JK hW).1;obtain⟨z0,z1⟩:=WE (JK hW).2;have zf:∀i,W.frozen? ⟨w.heap.size+1,i,none⟩=false:=fun i=>by rw [hW];simp [go_sem]
 have hWs:W.heap.size=w.heap.size+2:=by rw [hW];simp
 have HWh:=lh hWh;have HFi:=lh hFi;have HKi:=lh hKi;have HA:=lh hA;have HRe:=lh hRe;have HDe:=lh hDe;have HC:=lh hC;have HN:=lh hn;have HL:=lh hlen;have HID:=lh hid;have K1:=lh ok1;have K2:=lh ok2;have K3:=lh ok3;have K4:=lh ok4;have K5:=lh ok5;have K6:=lh ok6;clear hWh hFi hKi hA hRe hDe hC hn hlen hid ok1 ok2 ok3 ok4 ok5 ok6 hsh;go_enter func37,ntmps37;go_upto_region 1 with (fail)
 rw [←hW];clear hW;go_upto_region 4 with (go_at_call 70;refine (HWh.o _ T0).mono ?_;rintro e w1 ⟨rfl,ht1⟩)
 obtain⟨hc,hf⟩:=bY ht1;have TV:=ht1.alloc (.cells #[(0:Int),(0:Int)] 104);have hiL:(prog.info? 89).map (·.size)=some 31:=(zero_of_info rX).2;go_wp2_with fail
 go_loopw [4] (fun s4 wr=>∃k:Nat,k≤ln∧s4=k∧(∀j (l:bI),j<k→layers[j]?=some l→l.good=true)∧bH [] W wr) (fun s4 _=>ln - (intOf s4).toNat);case atStart=>exact⟨0,by omega,rfl,fun _ _ h=>absurd h (aU _),TV⟩
 obtain⟨k,hk,rfl,hall,TT⟩:=hrel;have HALL4:=lh hall;clear hall;by_cases hlt:k<ln
 ·obtain⟨g,o,rfl,hR⟩:=HC.o (by omega);have hls:k<layers.length:=by have:=HN.o;omega
  obtain⟨l,hl⟩:∃l,layers[k]?=some l:=⟨layers[k],by simp [hls]⟩;have hlm:l∈layers:=aH hl;have HR:=lh fun w' T=>hR w' T k l hl;have HLK:=lh hl;have HI0:Hid (∀w',bH [] w w'→w'.cell? ⟨g,o+k*31,none⟩=some (.int .i64 l.id)):=lh fun w' T=>by simpa using (hR w' T k l hl).2 0 _ rfl
  have b0:(0:Int)≤(k:Int):=by omega
  have b1:(k:Int)<(ln:Int):=by omega
  clear hR hl;obtain⟨q,hq⟩:∃q,l.good=q:=⟨_,rfl⟩;have HQ:=lh hq;have hFi:=fun u hu=>HFi.o l u hu hlm;rw [hq]at hFi;have HF:=lh hFi;clear hq hFi hlm hls;obtain⟨hc,hf⟩:=bY TT;go_upto_region 7 with (fail)
  clear hc hf;have TW:=T0.trans TT;have HLD:Hid (∀w',bH [] wr w'→(Instr.loadAt 89 (.pointer (some ⟨g,o+k*31,none⟩))).run prog w'=.ok (.agg ⟨l.row⟩) w'):=lh fun w' T=>run_loadAt_mid w' _ _ 89 _ _ (HR.o _ (TW.trans T)).2 underlying89 rfl hiL;have D0:Hid (∀w',bH [] wr w'→w'.cell? ⟨w,0,none⟩=some (.slice sA sn sc)):=lh fun w' T=>by rw [(bY (TT.trans T)).1 _ _ (ai q0)];exact q0
  have D1:Hid (∀w',bH [] wr w'→w'.cell? ⟨w,1,none⟩=some (.int .i64 root)):=lh fun w' T=>by rw [(bY (TT.trans T)).1 _ _ (ai q1)];exact q1
  have D2:Hid (∀w',bH [] wr w'→w'.cell? ⟨w,2,none⟩=some (.int .i64 next)):=lh fun w' T=>by rw [(bY (TT.trans T)).1 _ _ (ai q2)];exact q2
  have D3:Hid (∀w',bH [] wr w'→w'.cell? ⟨w,3,none⟩=some (.slice (some ⟨g,o,none⟩) ln lc)):=lh fun w' T=>by rw [(bY (TT.trans T)).1 _ _ (ai q3)];exact q3
  have HCL:=lh fun u (T:bH [] wr u)=>HF.o u (HR.o _ (TW.trans T)).1;have hS:=tR wr;unfold bI.v at HCL;generalize l.row=row at *;refine cu.start (fun w'=>bH [] wr w') 7 (by kernel_rfl) ?_;have hS:=hS.drawn 1;change bH [] wr wr.drew at hS;generalize wr.drew=Y at *;refine tk 0 (.agg #[.slice sA sn sc,root,next,.slice (some ⟨g,o,none⟩) ln lc]) ?_ (hy:=fun w' hw=>by have e0:=D0.out _ hw;have e1:=D1.out _ hw;have e2:=D2.out _ hw;have e3:=D3.out _ hw;go_simp);go_frame;refine tk 1 (.pointer (some ⟨w,3,none⟩)) ?_;go_frame;refine tk 2 (.slice (some ⟨g,o,none⟩) ln lc) ?_ (hy:=fun w' hw=>by have e3:=D3.out _ hw;go_simp);go_frame;refine tk 3 k ?_;go_frame;refine tk 4 (.pointer (some ⟨g,o+k*31,none⟩)) ?_;go_frame;refine tk 5 (.agg ⟨row⟩) ?_ rfl (hy:=fun w' hw=>dw rfl rfl (HLD.o w' hw));go_frame;refine eH 6 fun K hK=>?_;go_simp;refine (HCL.o _ hS).mono ?_;rintro e w5 ⟨rfl,ht5⟩;have hS:=hS.trans ht5;clear ht5;refine hK _ _ (fun _=>hS) ?_;clear hK K;try go_frame
  refine iZ fun K hK=>?_;go_simp;refine hK _ _ ?_;clear hK K;try go_frame
  have TX:=TT.trans hS;obtain⟨hc,hf⟩:=bY TX;clear HLD D0 D1 D2 D3 HCL;have hidc:=HI0.o _ (T0.trans TX);cases q with
  | true=>
   (go_wp2_with fail);go_roundw;case rel=>exact⟨k+1,by omega,by go_num,fun j l' hj hl'=>by
    by_cases h:j<k
    ·exact HALL4.o j l' h hl'
    obtain rfl:j=k:=(by omega);have hl':=HLK.o.symm.trans hl';injection hl' with hl';subst hl';exact HQ.o,TX⟩
   simp [intOf];omega
  | false=>
   (go_wp2_with fail);have y0:_:=(hc _ _ (by omega:w.heap.size+1<W.heap.size)).trans z0;have y1:_:=(hc _ _ (by omega:w.heap.size+1<W.heap.size)).trans z1;refine ag (v:=.agg #[(1:Int),l.id]) (by simp [results,results37,go_sem,y0,y1]) rfl ⟨.mk _ _ ⟨fun e=>?_,fun h=>?_⟩,?_⟩
   ·cases e
   ·have:=K1.out h k l HLK.o;rw [HQ.o]at this;cases this
   exact ((T0.trans TX).sc).sc
 obtain rfl:ln=k:=by omega
 obtain⟨hc,hf⟩:=bY TT;go_wp2_with fail
 go_loopw [6] (fun s6 wr=>∃k:Nat,k≤ln∧s6=k∧(∀j (l:bI),j<k→layers[j]?=some l→pM layers root l=true)∧bH [] W wr) (fun s6 _=>ln - (intOf s6).toNat);case atStart=>exact⟨0,by omega,rfl,fun _ _ h=>absurd h (aU _),TT⟩
 obtain⟨k,hk,rfl,hall,TT⟩:=hrel;have HALL6:=lh hall;clear hall;by_cases hlt:k<ln
 ·obtain⟨g,o,rfl,hR⟩:=HC.o (by omega);have hls:k<layers.length:=by have:=HN.o;omega
  obtain⟨l,hl⟩:∃l,layers[k]?=some l:=⟨layers[k],by simp [hls]⟩;have hlm:l∈layers:=aH hl;have HR:=lh fun w' T=>hR w' T k l hl;have HLK:=lh hl;have HI0:Hid (∀w',bH [] w w'→w'.cell? ⟨g,o+k*31,none⟩=some (.int .i64 l.id)):=lh fun w' T=>by simpa using (hR w' T k l hl).2 0 _ rfl
  have b0:(0:Int)≤(k:Int):=by omega
  have b1:(k:Int)<(ln:Int):=by omega
  clear hR hl;obtain⟨q,hq⟩:∃q,pM layers root l=q:=⟨_,rfl⟩;have HQ:=lh hq;have hKi:=fun u (t:bH [] w u) (hu:l.At u)=>HKi.o l u t hu;rw [hq]at hKi;have HF:=lh hKi;clear hq hKi hlm hls;obtain⟨hc,hf⟩:=bY TT;go_upto_region 13 with (fail)
  clear hc hf;have TW:=T0.trans TT;have HLD:Hid (∀w',bH [] wr w'→(Instr.loadAt 89 (.pointer (some ⟨g,o+k*31,none⟩))).run prog w'=.ok (.agg ⟨l.row⟩) w'):=lh fun w' T=>run_loadAt_mid w' _ _ 89 _ _ (HR.o _ (TW.trans T)).2 underlying89 rfl hiL;have D0:Hid (∀w',bH [] wr w'→w'.cell? ⟨w,0,none⟩=some (.slice sA sn sc)):=lh fun w' T=>by rw [(bY (TT.trans T)).1 _ _ (ai q0)];exact q0
  have D1:Hid (∀w',bH [] wr w'→w'.cell? ⟨w,1,none⟩=some (.int .i64 root)):=lh fun w' T=>by rw [(bY (TT.trans T)).1 _ _ (ai q1)];exact q1
  have D2:Hid (∀w',bH [] wr w'→w'.cell? ⟨w,2,none⟩=some (.int .i64 next)):=lh fun w' T=>by rw [(bY (TT.trans T)).1 _ _ (ai q2)];exact q2
  have D3:Hid (∀w',bH [] wr w'→w'.cell? ⟨w,3,none⟩=some (.slice (some ⟨g,o,none⟩) ln lc)):=lh fun w' T=>by rw [(bY (TT.trans T)).1 _ _ (ai q3)];exact q3
  have HCL:=lh fun u (T:bH [] wr u)=>HF.o u (TW.trans T) (HR.o _ (TW.trans T)).1;have hS:=tR wr;unfold bI.v at HCL;generalize l.row=row at *;refine cu.start (fun w'=>bH [] wr w') 7 (by kernel_rfl) ?_;have hS:=hS.drawn 1;change bH [] wr wr.drew at hS;generalize wr.drew=Y at *;refine tk 0 (.agg #[.slice sA sn sc,root,next,.slice (some ⟨g,o,none⟩) ln lc]) ?_ (hy:=fun w' hw=>by have e0:=D0.out _ hw;have e1:=D1.out _ hw;have e2:=D2.out _ hw;have e3:=D3.out _ hw;go_simp);go_frame;refine tk 1 (.pointer (some ⟨w,3,none⟩)) ?_;go_frame;refine tk 2 (.slice (some ⟨g,o,none⟩) ln lc) ?_ (hy:=fun w' hw=>by have e3:=D3.out _ hw;go_simp);go_frame;refine tk 3 k ?_;go_frame;refine tk 4 (.pointer (some ⟨g,o+k*31,none⟩)) ?_;go_frame;refine tk 5 (.agg ⟨row⟩) ?_ rfl (hy:=fun w' hw=>dw rfl rfl (HLD.o w' hw));go_frame;refine eH 6 fun K hK=>?_;go_simp;refine (HCL.o _ hS).mono ?_;rintro e w5 ⟨rfl,ht5⟩;have hS:=hS.trans ht5;clear ht5;refine hK _ _ (fun _=>hS) ?_;clear hK K;try go_frame
  refine iZ fun K hK=>?_;go_simp;refine hK _ _ ?_;clear hK K;try go_frame
  have TX:=TT.trans hS;obtain⟨hc,hf⟩:=bY TX;clear HLD D0 D1 D2 D3 HCL;have hidc:=HI0.o _ (T0.trans TX);cases q with
  | true=>
   (go_wp2_with fail);go_roundw;case rel=>exact⟨k+1,by omega,by go_num,fun j l' hj hl'=>by
    by_cases h:j<k
    ·exact HALL6.o j l' h hl'
    obtain rfl:j=k:=(by omega);have hl':=HLK.o.symm.trans hl';injection hl' with hl';subst hl';exact HQ.o,TX⟩
   simp [intOf];omega
  | false=>
   (go_wp2_with fail);have y0:_:=(hc _ _ (by omega:w.heap.size+1<W.heap.size)).trans z0;have y1:_:=(hc _ _ (by omega:w.heap.size+1<W.heap.size)).trans z1;refine ag (v:=.agg #[(40:Int),l.id]) (by simp [results,results37,go_sem,y0,y1]) rfl ⟨.mk _ _ ⟨fun e=>?_,fun h=>?_⟩,?_⟩
   ·cases e
   ·have:=K2.out h k l HLK.o;rw [HQ.o]at this;cases this
   exact ((T0.trans TX).sc).sc
 obtain rfl:ln=k:=by omega
 obtain⟨hc,hf⟩:=bY TT;go_wp2_with fail
 go_loopw [7] (fun s7 wr=>∃k:Nat,k≤ln∧s7=k∧(∀j (l:bI),j<k→layers[j]?=some l→tK layers l)∧bH [] W wr) (fun s7 _=>ln - (intOf s7).toNat);case atStart=>exact⟨0,by omega,rfl,fun _ _ h=>absurd h (aU _),TT⟩
 obtain⟨k,hk,rfl,hall,TT⟩:=hrel;have HALL7:=lh hall;clear hall;by_cases hlt:k<ln
 ·obtain⟨g,o,rfl,hR⟩:=HC.o (by omega);have hls:k<layers.length:=by have:=HN.o;omega
  obtain⟨l,hl⟩:∃l,layers[k]?=some l:=⟨layers[k],by simp [hls]⟩;have hlm:l∈layers:=aH hl;have HR:=lh fun w' T=>hR w' T k l hl;have HLK:=lh hl;have HI0:Hid (∀w',bH [] w w'→w'.cell? ⟨g,o+k*31,none⟩=some (.int .i64 l.id)):=lh fun w' T=>by simpa using (hR w' T k l hl).2 0 _ rfl
  have b0:(0:Int)≤(k:Int):=by omega
  have b1:(k:Int)<(ln:Int):=by omega
  clear hR hl;have HI1:Hid (∀w',bH [] w w'→w'.cell? ⟨g,o+k*31+1,none⟩=some (.int .i64 l.kind)):=lh fun w' T=>(HR.o w' T).2 1 _ rfl;have HI10:Hid (∀w',bH [] w w'→w'.cell? ⟨g,o+k*31+16,none⟩=some (.int .i64 l.of)):=lh fun w' T=>(HR.o w' T).2 16 _ rfl;have hkc:=HI1.o _ (T0.trans TT);clear hlm hls;by_cases hkd:l.kind=4
  ·have HKD:=lh hkd;rw [hkd]at hkc;clear hkd;obtain⟨hc,hf⟩:=bY TT;(go_upto_region 19 with (fail));clear hc hf;have TW:=T0.trans TT;have D0:Hid (∀w',bH [] wr w'→w'.cell? ⟨w,0,none⟩=some (.slice sA sn sc)):=lh fun w' T=>by rw [(bY (TT.trans T)).1 _ _ (ai q0)];exact q0
   have D1:Hid (∀w',bH [] wr w'→w'.cell? ⟨w,1,none⟩=some (.int .i64 root)):=lh fun w' T=>by rw [(bY (TT.trans T)).1 _ _ (ai q1)];exact q1
   have D2:Hid (∀w',bH [] wr w'→w'.cell? ⟨w,2,none⟩=some (.int .i64 next)):=lh fun w' T=>by rw [(bY (TT.trans T)).1 _ _ (ai q2)];exact q2
   have D3:Hid (∀w',bH [] wr w'→w'.cell? ⟨w,3,none⟩=some (.slice (some ⟨g,o,none⟩) ln lc)):=lh fun w' T=>by rw [(bY (TT.trans T)).1 _ _ (ai q3)];exact q3
   have D4:Hid (∀w',bH [] wr w'→w'.cell? ⟨g,o+k*31+16,none⟩=some (.int .i64 l.of)):=lh fun w' T=>HI10.o _ (TW.trans T);have HOF:Hid (∃a,sQ ids l.of=a):=lh ⟨_,rfl⟩;have HCL:=lh fun u (T:bH [] wr u)=>HA.o l.of u (TW.trans T);have HIN:Hid (∀r,mW ids l.of=some r→r<ln):=lh fun r hr=>by have:=(bi.1 hr).1;have:=HL.o;omega
   have HNO:Hid (mW ids l.of=none→¬tK layers l):=lh fun hr hcl=>by obtain⟨x,hx,_⟩:=hcl HKD.o;unfold dh at hx;rw [←HID.o,hr]at hx;cases hx
   have HYES:Hid (∀r lr,mW ids l.of=some r→layers[r]?=some lr→(tK layers l↔lr.kind≠3)):=lh fun r lr hr hlr=>by
    have hla:dh layers l.of=some lr:=(by unfold dh;rw [←HID.o,hr];exact hlr);constructor
    ·intro hcl;obtain⟨x,hx,hx2⟩:=hcl HKD.o;rw [hla]at hx;injection hx with hx;subst hx;exact hx2
    exact fun h _=>⟨lr,hla,h⟩
   have hS:=tR wr;refine cu.start (fun w'=>bH [] wr w') 8 (by kernel_rfl) ?_;have hS:=hS.drawn 1;change bH [] wr wr.drew at hS;generalize wr.drew=Y at *;refine tk 0 (.agg #[.slice sA sn sc,root,next,.slice (some ⟨g,o,none⟩) ln lc]) ?_ (hy:=fun w' hw=>by have e0:=D0.out _ hw;have e1:=D1.out _ hw;have e2:=D2.out _ hw;have e3:=D3.out _ hw;go_simp);go_frame;refine tk 1 (.pointer (some ⟨w,3,none⟩)) ?_;go_frame;refine tk 2 (.slice (some ⟨g,o,none⟩) ln lc) ?_ (hy:=fun w' hw=>by have e3:=D3.out _ hw;go_simp);go_frame;refine tk 3 k ?_;go_frame;refine tk 4 (.pointer (some ⟨g,o+k*31,none⟩)) ?_;go_frame;refine tk 5 (.pointer (some ⟨g,o+k*31+16,none⟩)) ?_;go_frame;refine tk 6 l.of ?_ (hy:=fun w' hw=>by have e4:=D4.out _ hw;go_simp);go_frame;refine eH 7 fun K hK=>?_;go_simp;refine (HCL.o _ hS).mono ?_;rintro e w5 ⟨rfl,ht5⟩;have hS:=hS.trans ht5;clear ht5;refine hK _ _ (fun _=>hS) ?_;clear hK K;(try go_frame);refine iZ fun K hK=>?_;go_simp;refine hK _ _ ?_;clear hK K;(try go_frame);have TX:=TT.trans hS;obtain⟨hc,hf⟩:=bY TX;clear D0 D1 D2 D3 D4 HCL;have hidc:=HI0.o _ (T0.trans TX);cases hat:mW ids l.of with
   | none=>
    have ham:sQ ids l.of=-1:=(by unfold sQ;rw [hat]);have HB:=lh (HNO.o hat);rw [ham];clear ham hat;(go_wp2_with fail);have y0:_:=(hc _ _ (by omega:w.heap.size+1<W.heap.size)).trans z0;have y1:_:=(hc _ _ (by omega:w.heap.size+1<W.heap.size)).trans z1;refine ag (v:=.agg #[(40:Int),l.id]) (by simp [results,results37,go_sem,y0,y1]) rfl ⟨.mk _ _ ⟨fun e=>?_,fun h=>?_⟩,?_⟩
    ·cases e
    ·exact (HB.o (K3.out h k l HLK.o)).elim
    exact ((T0.trans TX).sc).sc
   | some r=>
    have ham:sQ ids l.of=(r:Int):=(by unfold sQ;rw [hat]);have hrn:=HIN.o r hat;have hrl:r<layers.length:=(by have:=HN.o;omega);obtain⟨lr,hlr⟩:∃lr,layers[r]?=some lr:=⟨layers[r],by simp [hrl]⟩;have HB:=lh (HYES.o r lr hat hlr);obtain⟨g',o',e',hR2⟩:=HC.o (by omega);injection e' with e';injection e' with e1 e2 e3;subst e1;subst e2;clear e3;have hrk:w5.cell? ⟨g,o+r*31+1,none⟩=some (.int .i64 lr.kind):=(hR2 _ (T0.trans TX) r lr hlr).2 1 _ rfl;rw [ham];have c0:(0:Int)≤(r:Int):=(by omega);have c1:(r:Int)<(ln:Int):=(by omega);clear ham hat hR2 hlr hrl;by_cases h3:lr.kind=3
    ·rw [h3]at hrk;(go_wp2_with fail);have y0:_:=(hc _ _ (by omega:w.heap.size+1<W.heap.size)).trans z0;have y1:_:=(hc _ _ (by omega:w.heap.size+1<W.heap.size)).trans z1;refine ag (v:=.agg #[(40:Int),l.id]) (by simp [results,results37,go_sem,y0,y1]) rfl ⟨.mk _ _ ⟨fun e=>?_,fun h=>?_⟩,?_⟩
     ·cases e
     ·exact ((HB.o.1 (K3.out h k l HLK.o)) h3).elim
     exact ((T0.trans TX).sc).sc
    have h3':(lr.kind == 3)=false:=(by simpa using h3);(go_wp2_with fail);go_roundw;case rel=>exact⟨k+1,by omega,by go_num,fun j l' hj hl'=>by
     by_cases h:j<k
     ·exact HALL7.o j l' h hl'
     obtain rfl:j=k:=(by omega);have hl':=HLK.o.symm.trans hl';injection hl' with hl';subst hl';exact HB.o.2 h3,TX⟩
    simp [intOf];omega
  have hkd':(l.kind == 4)=false:=by simpa using hkd
  obtain⟨hc,hf⟩:=bY TT;go_wp2_with fail
  go_roundw;case rel=>exact⟨k+1,by omega,by go_num,fun j l' hj hl'=>by
   by_cases h:j<k
   ·exact HALL7.o j l' h hl'
   obtain rfl:j=k:=(by omega);have hl':=HLK.o.symm.trans hl';injection hl' with hl';subst hl';exact fun e=>absurd e hkd,TT⟩
  simp [intOf];omega
 obtain rfl:ln=k:=by omega
 obtain⟨hc,hf⟩:=bY TT;go_wp2_with fail
 go_loopw [9] (fun s9 wr=>∃k:Nat,k≤ln∧s9=k∧(∀j (y:Int),j<k→ids[j]?=some y→¬iY layers y y)∧bH [] W wr) (fun s9 _=>ln - (intOf s9).toNat);case atStart=>exact⟨0,by omega,rfl,fun _ _ h=>absurd h (aU _),TT⟩
 obtain⟨k,hk,rfl,hall,TT⟩:=hrel;have HALL9:=lh hall;clear hall;by_cases hlt:k<ln
 ·obtain⟨g,o,rfl,hR⟩:=HC.o (by omega);have hls:k<layers.length:=by have:=HN.o;omega
  obtain⟨l,hl⟩:∃l,layers[k]?=some l:=⟨layers[k],by simp [hls]⟩;have hlm:l∈layers:=aH hl;have HR:=lh fun w' T=>hR w' T k l hl;have HLK:=lh hl;have HI0:Hid (∀w',bH [] w w'→w'.cell? ⟨g,o+k*31,none⟩=some (.int .i64 l.id)):=lh fun w' T=>by simpa using (hR w' T k l hl).2 0 _ rfl
  have b0:(0:Int)≤(k:Int):=by omega
  have b1:(k:Int)<(ln:Int):=by omega
  clear hR hl;have hidc:=HI0.o _ (T0.trans TT);have HY:Hid (ids[k]?=some l.id):=lh (by rw [HID.o,aP,HLK.o];rfl);clear hlm hls;generalize l.id=y at *;obtain⟨hc,hf⟩:=bY TT;go_upto_region 26 with (fail)
  go_wp2_with (first
   | (go_at_call 74;refine (HRe.o _ _ (T0.trans TT)).mono ?_;rintro e w1 ⟨v1,xs,rfl,hV1,hmem,hlen,ht1⟩;obtain⟨A7,n7,c7,rfl,hI7⟩:=hV1.ints;have TX:=TT.trans ht1;obtain⟨hc1,hf1⟩:=bY TX;have hn7:=lh hI7.1;have hI:=lh hI7;clear hI7;have HM:=lh hmem;clear hmem;have HLN:=lh hlen;clear hlen hV1)
   | (go_at_call 73;refine (KG xs y A7 n7 c7 (by have:=hn7.out;have:=HLN.o;omega) w1 hI.out).mono ?_;rintro e w2 ⟨rfl,hw⟩;rw [hw];clear hw;have HQ:=lh (HM.o y);generalize hq:decide (y∈xs)=q;have HQ2:=lh hq;clear hq;cases q))
  ·go_roundw;case rel=>exact⟨k+1,by omega,by go_num,fun j l' hj hl'=>by
    by_cases h:j<k
    ·exact HALL9.o j l' h hl'
    obtain rfl:j=k:=(by omega);have hl':=HY.o.symm.trans hl';injection hl' with hl';subst hl';exact fun hr=>absurd (HQ.o.2 hr) (of_decide_eq_false HQ2.o),TX⟩
   simp [intOf];omega
  have hc:=hc1;have y0:_:=(hc _ _ (by omega:w.heap.size+1<W.heap.size)).trans z0;have y1:_:=(hc _ _ (by omega:w.heap.size+1<W.heap.size)).trans z1;refine ag (v:=.agg #[(42:Int),y]) (by simp [results,results37,go_sem,y0,y1]) rfl ⟨.mk _ _ ⟨fun e=>?_,fun h=>?_⟩,?_⟩
  ·cases e
  ·exact (K4.out h k y HY.o (HQ.o.1 (of_decide_eq_true HQ2.o))).elim
  exact ((T0.trans TX).sc).sc
 obtain rfl:ln=k:=by omega
 obtain⟨hc,hf⟩:=bY TT;go_wp2_with fail
 have hacy:∀x,¬iY layers x x:=fun x hr=>by obtain⟨j,hj⟩:=zL hr;rw [←HID.o]at hj;exact HALL9.o j x (by have:=(ah.1 hj).1;have:=HL.o;omega) hj hr
 have hD:=fun u (T:bH [] W u)=>HDe.o hacy u (T0.trans T);generalize hdm:dP layers 2501 root=D at *;have HDM:=lh hdm;have HAC:=lh hacy;have HDC:=lh hD;clear hdm hacy hD;go_wp2_with (go_at_call 75;refine (HDC.o _ TT).mono ?_;rintro e w2 ⟨rfl,ht2⟩;have TX:=TT.trans ht2;obtain⟨hc1,hf1⟩:=bY TX;have HQ:Hid (∃q,decide (6<D)=q):=lh ⟨_,rfl⟩;obtain⟨q,hq⟩:=HQ.o;have HQ2:=lh hq;cases q)
 ·have hc:=hc1;have y0:_:=(hc _ _ (by omega:w.heap.size+1<W.heap.size)).trans z0;have y1:_:=(hc _ _ (by omega:w.heap.size+1<W.heap.size)).trans z1;refine ag (v:=.agg #[(0:Int),(0:Int)]) (by simp [results,results37,go_sem,y0,y1]) rfl ⟨.mk _ _ ⟨fun e=>?_,fun h=>?_⟩,?_⟩
  ·exact K6.out (fun j l hj=>HALL4.o j l (by have:=(ah.1 hj).1;have:=HN.o;omega) hj) (fun j l hj=>HALL6.o j l (by have:=(ah.1 hj).1;have:=HN.o;omega) hj) (fun j l hj=>HALL7.o j l (by have:=(ah.1 hj).1;have:=HN.o;omega) hj) (fun j y hj hr=>HAC.o y hr) (by have:=of_decide_eq_false HQ2.o;omega)
  ·rfl
  exact ((T0.trans TX).sc).sc
 have hc:=hc1;have y0:_:=(hc _ _ (by omega:w.heap.size+1<W.heap.size)).trans z0;have y1:_:=(hc _ _ (by omega:w.heap.size+1<W.heap.size)).trans z1;refine ag (v:=.agg #[(43:Int),root]) (by simp [results,results37,go_sem,y0,y1]) rfl ⟨.mk _ _ ⟨fun e=>?_,fun h=>?_⟩,?_⟩
 ·cases e
 ·have:=K5.out h;have:=of_decide_eq_true HQ2.o;omega
 exact ((T0.trans TX).sc).sc
def bI.nd(l:bI)(r:Rc): Rc:=l.Xg.area (jC l.Xg l.ks l.cs) r (-1)
def bI.wide(l:bI)(r:Rc): Rc:=(r.join (l.nd r)).can
def bI.step(l:bI)(r:Rc): Rc:=if l.hidden=false∧l.kind=3 then l.wide r else r
structure ug where
 layer:Int
 below:Bool
 r:Rc
def ug.row(x:ug): List Value:=[x.layer,.bool x.below,x.r.x0,x.r.y0,x.r.x1,x.r.y1]
def ug.v(x:ug): Value:=.agg ⟨x.row⟩
end Go.Proofs.YtbpklgllihhgpaaGreat
