import Derived.Test.YtbpklgllihhgpaaGreatA25
set_option maxRecDepth 100000
set_option maxHeartbeats 16000000
namespace Go.Proofs.YtbpklgllihhgpaaGreat
open Tryz Go.RowKit Go.Den
structure IW(w wr:World)(A:Option Addr)(n cap:Nat)(ts:List dC): Prop where
 t:bH [] w wr
 h0:wr.heap[w.heap.size]?=some (.cells #[.slice none 0 0] 87 (0,0))
 h1:wr.heap[w.heap.size+1]?=some (.cells #[.slice A n cap] 87 (0,0))
 ti:dB wr A n ts
theorem IW.lt{w wr:World}{A:Option Addr}{n cap:Nat}{ts:List dC}(h:IW w wr A n cap ts): w.heap.size+2≤wr.heap.size:=(ae.1 h.h1).1
theorem IW.cells{w wr:World}{A:Option Addr}{n cap:Nat}{ts:List dC}(h:IW w wr A n cap ts): wr.cell? ⟨w,0,none⟩=some (.slice none 0 0)∧wr.cell? ⟨w.heap.size+1,0,none⟩=some (.slice A n cap)∧wr.frozen? ⟨w,0,none⟩=false∧wr.frozen? ⟨w.heap.size+1,0,none⟩=false:=
 ⟨by rw [aA _ _ _ _ _ _ h.h0];rfl,by rw [aA _ _ _ _ _ _ h.h1];rfl,by simp [World.frozen?,h.h0],by simp [World.frozen?,h.h1]⟩
theorem IW.turn{w wr w':World}{A:Option Addr}{n cap:Nat}{ts:List dC}(h:IW w wr A n cap ts)(T:bH [] wr w'): IW w w' A n cap ts:=by have hl:=h.lt;exact⟨h.t.trans T,(T.old _ (by omega) (by simp)).trans h.h0,(T.old _ (by omega) (by simp)).trans h.h1,h.ti.turn T⟩
theorem IW.thin{w wr:World}{A:Option Addr}{n cap:Nat}{ts:List dC}(h:IW w wr A n cap ts)(i:Nat)(hi:i≤1): Thin wr (w.heap.size+i):=by
 rcases Nat.le_one_iff_eq_zero_or_eq_one.1 hi with rfl | rfl
 ·exact⟨_,_,_,h.h0,by simp⟩
 exact⟨_,_,_,h.h1,by simp⟩
theorem IW.set{w wr:World}{A A':Option Addr}{n cap n' cap':Nat}{ts ts':List dC}(h:IW w wr A n cap ts)(ht:dB wr A' n' ts'): IW w (wr.setCell ⟨w.heap.size+1,0,none⟩ (.slice A' n' cap')) A' n' cap' ts':=by
 have hl:=h.lt;refine⟨h.t.sc,?_,?_,ht.thin (h.thin 1 (by omega)) _ _⟩
 ·simp only [World.setCell,au];rw [aF (by omega)];exact h.h0
 simp only [World.setCell,au,if_true,h.h1];rfl
theorem dB.thinR{w:World}{A:Option Addr}{n:Nat}{ts:List dC}(h:dB w A n ts){c:Nat}(hc:Thin w c)(cs:Array Value): dB (w.setRow c cs) A n ts:=by
 refine⟨h.1,fun j t ht=>?_⟩;obtain⟨h1,g,o,h2,h3⟩:=h.2 j t ht;refine⟨h1,g,o,h2,?_⟩;have hg:g≠c:=by
  rintro rfl;obtain⟨arr,ty,fz,e1,e2⟩:=hc;have hl:2<t.row.length:=by simp [dC.row,h1.1]
  have:=h3 2 _ (aB hl);rw [aA _ _ _ _ _ _ e1,Array.getElem?_eq_none (by omega)]at this;cases this
 intro k u hu;rw [←h3 k u hu];have e:(w.setRow c cs).heap[g]?=w.heap[g]?:=by simp only [World.setRow,au];rw [aF (Ne.symm hg)]
 simp only [World.cell?,e]
theorem Pz:(prog.info? 93).map (fun i=>(i.zero,i.size))=some (some (.agg #[.slice none 0 0,(0:Int)]),2):=by kernel_rfl
theorem DL(u:World): (Instr.alloc 93 true (.tuple #[])).run prog u=.ok (.pointer (some ⟨u,0,none⟩)) (u.alloc (.cells #[.slice none 0 0,(0:Int)] 93)):=by unfold Instr.alloc;rw [Sem.run_bind,(zero_of_info Pz).1];rfl
theorem Dp{u:World}{c:Nat}(h:u.heap[c]?=some (.cells #[.slice none 0 0,(0:Int)] 93 (0,0)))(A:Option Addr)(n cap:Nat)(E:Int):
  (Instr.storeAt 93 (.pointer (some ⟨c,0,none⟩)) (.agg #[.slice A n cap,E])).run prog u=.ok () (u.setRow c #[.slice A n cap,E])∧(u.setRow c #[.slice A n cap,E]).heap[c]?=some (.cells #[.slice A n cap,E] 93 (0,0))∧Thin u c:=by
 refine⟨jV (ty:=93) (cells:=#[.slice A n cap,E]) h (zero_of_info Pz).2 rfl (by simp [Value.oneCell']),?_,⟨_,_,_,h,by simp⟩⟩;simp only [World.setRow,au,if_true,h];rfl
theorem ku(z:Int): IntKind.i64.wrap z=wrap64 z:=by unfold wrap64;simp [IntKind.wrap,IntKind.bits,IntKind.signed];omega
theorem Wj(x y:Int): 0≤bits BinOp.or IntKind.u8 x y∧bits BinOp.or IntKind.u8 x y≤255:=by
 have:∀z,0≤IntKind.u8.wrap z∧IntKind.u8.wrap z≤255:=fun z=>by simp [IntKind.wrap,IntKind.bits,IntKind.signed];omega
 exact this _
theorem DI(ss:List Int)(A:Option Addr)(n cap:Nat)(hn:n≤100)(w:World)(h:dn w A n ss):
  Calls prog 65 #[.slice A n cap] w fun e w'=>(∃A' n' cap' ts',e=.returned (.agg #[.slice A' n' cap'])∧dB w' A' n' ts')∧bH [] w w':=by
 have hC:=fun h1=>h.cell h1;have hl:=h.1;have hSet:=fun (ts:List dC) A' n' cap' (x y r g b a:Int) (h1:(-100≤x∧x≤100)∧-100≤y∧y≤100) (h2:(0≤r∧r≤255)∧(0≤g∧g≤255)∧(0≤b∧b≤255)∧0≤a∧a≤255) u (hT:dB u A' n' ts)=>Qi ts A' n' cap' x y r g b a (by omega) (by omega) h2.1 h2.2.1 h2.2.2.1 h2.2.2.2 u hT;obtain⟨W,hW⟩:∃W,W=(w.alloc (.cells #[.slice none 0 0] 87)).alloc (.cells #[.slice none 0 0] 87):=⟨_,rfl⟩;have hP:IW w W none 0 0 []:=by
  refine⟨hW ▸ (((tR w).alloc _).alloc _),?_,?_,nX _⟩
  ·rw [hW];simp only [yV,aI];rw [aF (by omega),aG (by first | trivial | omega)]
  rw [hW];simp only [yV,aI];rw [aG (by first | trivial | omega)]
 have HC:=lh hC;have HS:=lh hSet;have HL:=lh hl;clear hC hSet hl h;go_enter func65,ntmps65;go_upto_region 2 with (fail)
 rw [←hW];clear hW;go_wp2_with fail
 go_loopw [4] (fun s4 wr=>∃(k:Nat) (A':Option Addr) (n' cap':Nat) (ts':List dC),k≤n∧s4=k∧IW w wr A' n' cap' ts') (fun s4 _=>n - (intOf s4).toNat);case atStart=>exact⟨0,_,_,_,_,by omega,rfl,hP⟩
 clear hP;obtain⟨k,A1,n1,cp1,ts1,hk,rfl,P⟩:=hrel;by_cases hlt:k<n
 ·obtain⟨g,o,rfl,hR⟩:=HC.o (by omega);have HR:=lh (fun w' T=>hR w' T k hlt);have hcell:=HR.o _ P.t;clear hR;generalize ss.getD k 0=s at *;have b0:(0:Int)≤(k:Int):=by omega
  have b1:(k:Int)<(n:Int):=by omega
  have HP:=lh P;clear P;go_upto_region 5 with (fail)
  have hcell:wr.drew.cell? ⟨g,o+k,none⟩=some (.int .i64 s):=hcell;have hcell2:((wr.alloc (.cells #[.int .u8 0,.int .u8 0,.int .u8 0,.int .u8 0] 64)).drew).cell? ⟨g,o+k,none⟩=some (.int .i64 s):=HR.o _ ((HP.o.t.alloc _).drawn 1);go_region;obtain⟨r,er⟩:∃r,s % 256=r:=⟨_,rfl⟩;obtain⟨gg,eg⟩:∃gg,s / 32 % 256=gg:=⟨_,rfl⟩;obtain⟨bb,eb⟩:∃bb,s / 512 % 256=bb:=⟨_,rfl⟩;obtain⟨aa,ea⟩:∃aa,bits BinOp.or IntKind.u8 (s / 8 % 256) 15=aa:=⟨_,rfl⟩;have HCO:Hid ((0≤r∧r≤255)∧(0≤gg∧gg≤255)∧(0≤bb∧bb≤255)∧0≤aa∧aa≤255):=lh ⟨by omega,by omega,by omega,by rw [←ea];exact Wj _ _⟩;rw [er,eg,eb,ea];obtain⟨V,hV⟩:∃V,V=(wr.alloc (.cells #[.int .u8 r,.int .u8 gg,.int .u8 bb,.int .u8 aa] 64)).drew:=⟨_,rfl⟩;have PV:IW w V A1 n1 cp1 ts1:=hV ▸ HP.o.turn (((tR wr).alloc _).drawn 1);have hc5:V.heap[wr.heap.size]?=some (.cells #[.int .u8 r,.int .u8 gg,.int .u8 bb,.int .u8 aa] 64 (0,0)):=by rw [hV];exact heap_alloc_new wr _
  have hs5:w.heap.size+2≤wr.heap.size:=HP.o.lt;rw [←hV];obtain⟨c7,e7⟩:∃c,bits BinOp.and IntKind.i64 s 7=c:=⟨_,rfl⟩;obtain⟨c1,e1⟩:∃c,bits BinOp.and IntKind.i64 (s / 16) 15=c:=⟨_,rfl⟩;obtain⟨c2,e2⟩:∃c,bits BinOp.and IntKind.i64 (s / 256) 15=c:=⟨_,rfl⟩;obtain⟨c3,e3⟩:∃c,bits BinOp.and IntKind.i64 s 1=c:=⟨_,rfl⟩;have d7:=dM s 7 (by omega);have d1:=dM (s / 16) 15 (by omega);have d2:=dM (s / 256) 15 (by omega);have d3:=dM s 1 (by omega);rw [show ((7:Nat):Int)=7 from rfl,e7]at d7;rw [show ((15:Nat):Int)=15 from rfl,e1]at d1;rw [show ((15:Nat):Int)=15 from rfl,e2]at d2;rw [show ((1:Nat):Int)=1 from rfl,e3]at d3;have f7:wrap64 (1+c7)=1+c7:=fC _ (by omega) (by omega);have f1:wrap64 (c1 - 4)=c1 - 4:=fC _ (by omega) (by omega);have f2:wrap64 (c2 - 4)=c2 - 4:=fC _ (by omega) (by omega);have HD:Hid ((0≤c7∧c7≤7)∧(0≤c1∧c1≤15)∧(0≤c2∧c2≤15)∧0≤c3∧c3≤1):=lh ⟨d7,d1,d2,d3⟩;clear hcell hcell2 hV er eg eb ea HP d7 d1 d2 d3;generalize wr.heap.size=c5 at *;go_wp2_with fail
  go_loopw [6] (fun s6 wr=>∃(j:Nat) (A':Option Addr) (n' cap':Nat) (ts':List dC),(j:Int)≤1+c7∧s6=j∧IW w wr A' n' cap' ts'∧wr.heap[c5]?=some (.cells #[.int .u8 r,.int .u8 gg,.int .u8 bb,.int .u8 aa] 64 (0,0))) (fun s6 _=>8 - (intOf s6).toNat);case atStart=>exact⟨0,_,_,_,_,by have:=HD.o;omega,rfl,PV,hc5⟩
  clear PV hc5;obtain⟨j,A2,n2,cp2,ts2,hj,rfl,P,hc5⟩:=hrel;obtain⟨y0,y1,yf0,yf1⟩:=P.cells;have hcell:=HR.o _ P.t;by_cases hlj:(j:Int)<1+c7
  ·have hD:=HD.o;have hj8:(j:Int)≤7:=(by omega);have g1:wrap64 (c1 - 4+j)=c1 - 4+j:=fC _ (by omega) (by omega);obtain⟨m,em⟩:∃m,wrap64 ((j:Int)*c3)=m:=⟨_,rfl⟩;have hm:0≤m∧m≤7:=by
    have h3:c3=0∨c3=1:=(by omega);rcases h3 with rfl | rfl
    ·rw [Int.mul_zero]at em;rw [←em];exact⟨by simp [wrap64],by simp [wrap64]⟩
    rw [Int.mul_one,fC _ (by omega) (by omega)]at em;omega
   have g2:wrap64 (c2 - 4+m)=c2 - 4+m:=fC _ (by omega) (by omega);have k1:=(ku _).trans f1;have k2:=(ku _).trans f2;have k3:=(ku _).trans g1;have k4:=(ku _).trans g2;have k5:=(ku _).trans em;have HM:Hid ((-100≤c1 - 4+j∧c1 - 4+j≤100)∧-100≤c2 - 4+m∧c2 - 4+m≤100):=lh (by omega);have HP:=lh P;have H5:=lh hc5;have D0:Hid (∀u,bH [] wr u→u.cell? ⟨w.heap.size+1,0,none⟩=some (.slice A2 n2 cp2)):=lh fun u T=>(HP.o.turn T).cells.2.1;have D1:Hid (∀u,bH [] wr u→u.cell? ⟨g,o+k,none⟩=some (.int .i64 s)):=lh fun u T=>HR.o _ (HP.o.t.trans T);have D5:Hid (∀u,bH [] wr u→u.cell? ⟨c5,0,none⟩=some (.int .u8 r)∧u.cell? ⟨c5,1,none⟩=some (.int .u8 gg)∧u.cell? ⟨c5,2,none⟩=some (.int .u8 bb)∧u.cell? ⟨c5,3,none⟩=some (.int .u8 aa)):=lh fun u T=>by have e:=(T.old c5 (ae.1 H5.o).1 (by simp)).trans H5.o;refine⟨?_,?_,?_,?_⟩ <;> (rw [aA _ _ _ _ _ _ e];rfl)
   clear P hc5 hD hm;(go_upto_region 9 with (fail));clear hcell y0 y1 yf0 yf1;go_cut [7] (fun s7 wx=>∃(c:Nat) (E:Int) (A3:Option Addr) (n3 cp3:Nat) (ts3:List dC),s7=.pointer (some ⟨c,0,none⟩)∧wr.heap.size≤c∧wx.heap[c]?=some (.cells #[.slice A3 n3 cp3,E] 93 (0,0))∧dB wx A3 n3 ts3∧bH [] wr wx);case first=>
    refine cu.start (fun u=>bH [] wr u) 28 (by kernel_rfl) ?_;have hS:=(tR wr).drawn 1;change bH [] wr wr.drew at hS;generalize wr.drew=Y at *;refine tk 0 (.agg #[.slice A2 n2 cp2]) ?_ (hy:=fun w' hw=>by have e0:=D0.out _ hw;go_simp);go_frame;refine tk 1 (.slice (some ⟨g,o,none⟩) n cap) ?_;go_frame;refine tk 2 k ?_;go_frame;refine tk 3 (.pointer (some ⟨g,o+k,none⟩)) ?_;go_frame;refine tk 4 s ?_ (hy:=fun w' hw=>by have e0:=D1.out _ hw;go_simp);go_frame;refine tk 5 (.int .i64 (s / 16)) ?_;go_frame;refine tk 6 c1 ?_;go_frame;refine tk 7 (.int .i64 (c1 - 4)) ?_;go_frame;refine tk 8 j ?_;go_frame;refine tk 9 (.int .i64 (c1 - 4+j)) ?_;go_frame;refine tk 10 (.slice (some ⟨g,o,none⟩) n cap) ?_;go_frame;refine tk 11 k ?_;go_frame;refine tk 12 (.pointer (some ⟨g,o+k,none⟩)) ?_;go_frame;refine tk 13 s ?_ (hy:=fun w' hw=>by have e0:=D1.out _ hw;go_simp);go_frame;refine tk 14 (.int .i64 (s / 256)) ?_;go_frame;refine tk 15 c2 ?_;go_frame;refine tk 16 (.int .i64 (c2 - 4)) ?_;go_frame;refine tk 17 j ?_;go_frame;refine tk 18 (.slice (some ⟨g,o,none⟩) n cap) ?_;go_frame;refine tk 19 k ?_;go_frame;refine tk 20 (.pointer (some ⟨g,o+k,none⟩)) ?_;go_frame;refine tk 21 s ?_ (hy:=fun w' hw=>by have e0:=D1.out _ hw;go_simp);go_frame;refine tk 22 c3 ?_;go_frame;refine tk 23 m ?_;go_frame;refine tk 24 (.int .i64 (c2 - 4+m)) ?_;go_frame;refine tk 25 (.agg #[.int .u8 r,.int .u8 gg,.int .u8 bb,.int .u8 aa]) ?_ (hy:=fun w' hw=>by obtain⟨f0,f1,f2,f3⟩:=D5.out _ hw;go_simp);go_frame;refine cu.two (i:=26) (j:=27) rfl rfl (by kernel_rfl) rfl rfl (fun K hK=>?_) (fun K hK=>?_)
    ·go_simp;refine (HS.o ts2 A2 n2 cp2 _ _ r gg bb aa HM.o HCO.o _ (HP.o.turn hS).ti).mono ?_;rintro e w3 ⟨hG,ht3⟩;obtain⟨A3,n3,cp3,ts3,E,hT3⟩:=hG;have hS3:=hS.trans ht3;refine hK _ _ (fun _=>hS3) ?_;clear hK K;(try go_frame);refine eH 27 fun K hK=>?_;refine bZ (d:=some 7) rfl (di rfl (DL w3)) ?_;have hc:=heap_alloc_new w3 (.cells #[.slice none 0 0,(0:Int)] 93);have hSz:=hS3.size;have tz:=(tR w3).alloc (.cells #[.slice none 0 0,(0:Int)] 93);have hS2:=hS3.alloc (.cells #[.slice none 0 0,(0:Int)] 93);have hgc:w3.heap.size<(w3.alloc (.cells #[.slice none 0 0,(0:Int)] 93)).heap.size:=(by simp);generalize w3.alloc (.cells #[.slice none 0 0,(0:Int)] 93)=Z at *;generalize w3.heap.size=c at *;refine hK _ _ (fun _=>hS2) ?_;clear hK K;(try go_frame);refine iZ fun K hK=>?_;obtain⟨hst,hcx,hth⟩:=Dp hc A3 n3 cp3 E;refine fO (d:=none) rfl 93 (.tmp 7) (.tmp 76) rfl rfl rfl hst ?_;refine hK _ _ ?_;clear hK K;(try go_frame);have hSF:=hS2.setRow (g:=c) #[.slice A3 n3 cp3,E] (.inr hSz);have hTF:=(hT3.turn tz).thinR hth #[.slice A3 n3 cp3,E];(go_wp2_with fail);go_meet;exact⟨c,E,A3,n3,cp3,ts3,rfl,hSz,hcx,hTF,hSF⟩
    refine bZ (d:=some 7) rfl (di rfl (DL Y)) ?_;have hc:=heap_alloc_new Y (.cells #[.slice none 0 0,(0:Int)] 93);have hSz:=hS.size;have tz:=(tR Y).alloc (.cells #[.slice none 0 0,(0:Int)] 93);have hS2:=hS.alloc (.cells #[.slice none 0 0,(0:Int)] 93);have hgc:Y.heap.size<(Y.alloc (.cells #[.slice none 0 0,(0:Int)] 93)).heap.size:=(by simp);generalize Y.alloc (.cells #[.slice none 0 0,(0:Int)] 93)=Z at *;generalize Y.heap.size=c at *;refine hK _ _ (fun _=>hS2) ?_;clear hK K;(try go_frame);refine eH 26 fun K hK=>?_;go_simp;refine (HS.o ts2 A2 n2 cp2 _ _ r gg bb aa HM.o HCO.o _ (HP.o.turn hS2).ti).mono ?_;rintro e w3 ⟨hG,ht3⟩;obtain⟨A3,n3,cp3,ts3,E,hT3⟩:=hG;have hS3:=hS2.trans ht3;refine hK _ _ (fun _=>hS3) ?_;clear hK K;(try go_frame);have hc:=(ht3.old c hgc (by simp)).trans hc;refine iZ fun K hK=>?_;obtain⟨hst,hcx,hth⟩:=Dp hc A3 n3 cp3 E;refine fO (d:=none) rfl 93 (.tmp 7) (.tmp 76) rfl rfl rfl hst ?_;refine hK _ _ ?_;clear hK K;(try go_frame);have hSF:=hS3.setRow (g:=c) #[.slice A3 n3 cp3,E] (.inr hSz);have hTF:=hT3.thinR hth #[.slice A3 n3 cp3,E];(go_wp2_with fail);go_meet;exact⟨c,E,A3,n3,cp3,ts3,rfl,hSz,hcx,hTF,hSF⟩
   obtain⟨c,E,A3,n3,cp3,ts3,rfl,hcl,hcx,hT3,hTX⟩:=hcut;have P:=HP.o.turn hTX;have hc5:=(hTX.old c5 (ae.1 H5.o).1 (by simp)).trans H5.o;obtain⟨y0,y1,yf0,yf1⟩:=P.cells;have x0:wc.cell? ⟨c,0,none⟩=some (.slice A3 n3 cp3):=(by rw [aA _ _ _ _ _ _ hcx];rfl);have x1:wc.cell? ⟨c,1,none⟩=some (.int .i64 E):=(by rw [aA _ _ _ _ _ _ hcx];rfl);have HP2:=lh P;have HT3:=lh hT3;have H52:=lh hc5;clear P hT3 hc5 hcx hTX;by_cases hE:E=0
   ·subst hE;(go_wp2_with fail);have P3:=HP2.o.set (cap':=cp3) HT3.o;have h53:(wc.setCell ⟨w.heap.size+1,0,none⟩ (.slice A3 n3 cp3)).heap[c5]?=some (.cells #[.int .u8 r,.int .u8 gg,.int .u8 bb,.int .u8 aa] 64 (0,0)):=(by simp only [World.setCell,au];rw [aF (by omega)];exact H52.o);go_roundw;case rel=>exact⟨j+1,_,_,_,_,by omega,by go_num,P3,h53⟩
    simp [intOf];omega
   have hE':(E == 0)=false:=(by simpa using hE);(go_wp2_with fail);go_roundw;case rel=>exact⟨j+1,_,_,_,_,by omega,by go_num,HP2.o,H52.o⟩
   simp [intOf];omega
  have HP:=lh P;clear P hc5;have hj2:decide ((j:Int)<1+c7)=false:=ak hlj;go_wp2_with fail
  exact⟨⟨k+1,_,_,_,_,by omega,by go_num,HP.o⟩,by simp [intOf];omega⟩
 obtain rfl:n=k:=by omega
 obtain⟨y0,y1,yf0,yf1⟩:=P.cells;have HP:=lh P;clear P;go_wp2_with fail
 have hTT:=HP.o.t.setCell (a:=⟨w,0,none⟩) (.slice A1 n1 cp1) (.inr (by dsimp only;omega));exact ag (v:=.agg #[.slice A1 n1 cp1]) (by simp [results,results65,go_sem,y0]) rfl ⟨⟨_,_,_,_,rfl,HP.o.ti.thin (HP.o.thin 0 (by omega)) _ _⟩,hTT⟩
end Go.Proofs.YtbpklgllihhgpaaGreat
