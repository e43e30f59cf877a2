import Derived.Test.YtbpklgllihhgpaaGreatA46
set_option maxRecDepth 100000
set_option maxHeartbeats 16000000
namespace Go.Proofs.YtbpklgllihhgpaaGreat
open Tryz Go.RowKit Go.Den
structure U3(w wr:World)(bb:Nat)(v:Value)(i:Nat)(q:Rc): Prop where
 t:bH [bb] w wr
 hb:wr.heap[bb]?=some (.cells (dZ q) 24 (0,0))
 ow:∃rows,rows.length=i∧iK kJ wr w.heap.size v rows
 lt:bb<w.heap.size
structure NU(w wz:World)(bb b:Nat)(v:Value)(i:Nat)(row:List Value)(q:Rc): Prop where
 m:U3 w wz bb v i q
 hT:wz.heap[b]?=some (.cells ⟨row⟩ 171 (0,0))
 nb:∀g∈dI v,g≠b
 lb:w.heap.size≤b
theorem U3.kept{w wr u:World}{bb:Nat}{v:Value}{i:Nat}{q:Rc}(h:U3 w wr bb v i q)(T:bH [] wr u): U3 w u bb v i q:=by obtain⟨t,hb,⟨rows,hl,ow⟩,lt⟩:=h;exact⟨t.trans (T.mono (by simp)),(T.old bb (ae.1 hb).1 (by simp)).trans hb,⟨rows,hl,ow.turn T⟩,lt⟩
theorem NU.kept{w wz u:World}{bb b:Nat}{v:Value}{i:Nat}{row:List Value}{q:Rc}(h:NU w wz bb b v i row q)(T:bH [] wz u): NU w u bb b v i row q:=
 ⟨h.m.kept T,(T.old b (ae.1 h.hT).1 (by simp)).trans h.hT,h.nb,h.lb⟩
theorem NU.vis{w wz u:World}{bb b:Nat}{v:Value}{i:Nat}{row:List Value}{q q':Rc}(h:NU w wz bb b v i row q)(T:bH [bb] wz u)(hq:u.heap[bb]?=some (.cells (dZ q') 24 (0,0))): NU w u bb b v i row q':=by obtain⟨⟨t,hb,⟨rows,hl,ow⟩,lt⟩,hT,nb,lb⟩:=h;exact⟨⟨t.trans T,hq,⟨rows,hl,ow.kept T fun g hg hm=>by have:=(ow.2.lt g hg).1;simp at hm;omega⟩,lt⟩,(T.old b (ae.1 hT).1 (by simp;omega)).trans hT,nb,lb⟩
theorem NU.same{w wz:World}{bb b:Nat}{v:Value}{i j:Nat}{row:List Value}{q:Rc}{z:Value}(h:NU w wz bb b v i row q)(hv:row[j]?=some z): NU w (wz.setCell ⟨b,j,none⟩ z) bb b v i row q:=by obtain⟨⟨t,hb,⟨rows,hl,ow⟩,lt⟩,hT,nb,lb⟩:=h;have T:=(bH.refl [b] wz).setCell (a:=⟨b,j,none⟩) z (.inl (by simp));exact⟨⟨t.setCell z (.inr (by dsimp only;omega)),bW hb (by omega),⟨rows,hl,ow.kept T fun g hg hm=>nb g hg (by simpa using hm)⟩,lt⟩,EO hT hv,nb,lb⟩
theorem NU.app{w wz:World}{bb b:Nat}{v:Value}{i:Nat}{row:List Value}{q:Rc}(h:NU w wz bb b v i row q)(hr:kJ.Row row)(hi:i≤1024)(ty:TypeId):
  ∃A n c u,(Builtin.append_ #[85,85] ty #[v,.slice (some ⟨wz,0,none⟩) 1 1]).run prog (wz.alloc (.cells ⟨row⟩ kJ.e))=.ok (.slice A n c) u∧U3 w u bb (.slice A n c) (i+1) q:=by
 obtain⟨⟨t,hb,⟨rows,hl,ow⟩,lt⟩,hT,nb,lb⟩:=h;obtain⟨v',u,e1,e2,e3,e4⟩:=yR (k:=kJ) (t:=85) underlying85 ow hr t.size (by omega) ty;have hbs:∀g∈dI v,w.heap.size≤g:=fun g hg=>(ow.2.lt g hg).1;have T:bH [bb] w u:=⟨aK t.size e3.size,fun j hj hn=>(e3.old j (aj hj t.size) fun hm=>absurd hj (Nat.not_lt.2 (hbs j hm))).trans (t.old j hj hn),e3.os.trans t.os,e3.tape.trans t.tape,e3.output.trans t.output⟩;have hq:u.heap[bb]?=some (.cells (dZ q) 24 (0,0)):=(e3.old bb (ae.1 hb).1 fun hm=>absurd lt (Nat.not_lt.2 (hbs bb hm))).trans hb;obtain⟨A,c,rfl⟩:=jv e2;exact⟨A,_,c,u,e1,T,hq,⟨_,by rw [aO,hl];rfl,e2⟩,lt⟩
theorem J9(x y:Int)(k:Nat)(hx:-8192≤x∧x≤8191)(hy:-8192≤y∧y≤8191)(hk:(k:Int)<64):
  (wrap64 (x*8)=x*8∧wrap64 (x*8+((k % 8:Nat):Int))=x*8+((k % 8:Nat):Int))∧wrap64 (y*8)=y*8∧wrap64 (y*8+((k / 8:Nat):Int))=y*8+((k / 8:Nat):Int)∧wrap64 ((k / 8:Nat):Int)=((k / 8:Nat):Int):=
 ⟨⟨dN _ (by omega) (by omega),dN _ (by omega) (by omega)⟩,dN _ (by omega) (by omega),dN _ (by omega) (by omega),dN _ (by omega) (by omega)⟩
theorem Vb(x y:Int)(k:Nat)(hx:-8192≤x∧x≤8191)(hy:-8192≤y∧y≤8191)(hk:(k:Int)<64): (-1048576≤x*8+((k % 8:Nat):Int)∧x*8+((k % 8:Nat):Int)≤1048576)∧-1048576≤y*8+((k / 8:Nat):Int)∧y*8+((k / 8:Nat):Int)≤1048576:=by omega
theorem Qr(t:dC)(b:Rc)(k:Nat): lC t b (k+1)=WJ (lC t b k) (al t.px k) (t.x*8+((k % 8:Nat):Int)) (t.y*8+((k / 8:Nat):Int)):=by rw [Int.mul_comm t.x 8,Int.mul_comm t.y 8];rfl
theorem J6{px:List Int}(hl:px.length=256)(k:Nat)(hk:k<64): (⟨px.map (Value.int .u8)⟩:Array Value).extract (k*4) (k*4+4)=#[.int .u8 (px.getD (k*4) 0),.int .u8 (px.getD (k*4+1) 0),.int .u8 (px.getD (k*4+2) 0),.int .u8 (al px k)]:=by
 refine Array.ext' ?_;rw [Array.toList_extract];refine List.ext_getElem? fun j=>?_;unfold al;by_cases hj:j<4
 ·rw [List.extract_eq_take_drop,List.getElem?_take_of_lt (by omega),List.getElem?_drop,aP,aB (by omega)];obtain rfl | rfl | rfl | rfl:j=0∨j=1∨j=2∨j=3:=by omega
  all_goals simp [List.getD,show k*4<px.length by omega,show k*4+1<px.length by omega,show k*4+2<px.length by omega,show k*4+3<px.length by omega]
 rw [bC (by rw [List.extract_eq_take_drop,List.length_take];omega),bC (by simp;omega)]
theorem Vz{t:dC}(hl:t.px.length=256)(j:Nat)(hj:j<256): t.row[2+j]?=some (.int .u8 (t.px.getD j 0)):=by unfold dC.row;rw [show 2+j=j+1+1 by omega,List.getElem?_cons_succ,List.getElem?_cons_succ,aP,aB (by omega)];simp [List.getD,show j<t.px.length by omega]
theorem Jg(ts:List dC)(hrb:eu ts=true)(A:Option Addr)(n cap bb:Nat)(w:World)(hbb:w.heap[bb]?=some (.cells (dZ Rc.zero) 24 (0,0)))(hn:n=ts.length)
  (hA:∀u,bH [bb] w u→∀j t,ts[j]?=some t→jo t.px∧∃g o,A=some ⟨g,o,none⟩∧u.rangeAt g (o+j*258) t.row) :
  Calls prog 143 #[.slice A n cap,.func (.func 145) #[] #[.pointer (some ⟨bb,0,none⟩)]] w fun e w'=>(∃v,e=.returned v)∧w'.heap[bb]?=some (.cells (dZ (kH ts n)) 24 (0,0))∧bH [bb] w w':=by
 have hlb:bb<w.heap.size:=(ae.1 hbb).1;have hin:=fun i t (ht:ts[i]?=some t)=>uK hrb ht;have hzr:∀(i:Nat) (t:dC),ts[i]?=some t→oO t.px=false:=fun i t ht=>by
  unfold eu at hrb;rw [az,aZ]at hrb;have h1:=hrb.2 i (aX.2 (ah.1 ht).1);unfold nS at h1;rw [ht]at h1;cases hz:oO t.px with
  | false=>rfl
  | true=>simp [kF,hz]at h1
 have hlen:n≤1024:=by unfold eu at hrb;rw [az,decide_eq_true_eq]at hrb;omega
 have HA:=lh hA;have HN:=lh hn;have HIN:=lh hin;have HZR:=lh hzr;have HLEN:=lh hlen;have HM0:Hid (U3 w w bb (.slice none 0 0) 0 (kH ts 0)):=lh ⟨bH.refl _ _,hbb,⟨[],rfl,jU _ _ _⟩,hlb⟩;clear hA hn hin hzr hlen hbb hrb hlb;go_enter func143,ntmps143;go_wp2_with fail
 go_loopw [5,12] (fun s5 s12 wr=>∃(A5:Option Addr) (n5 c5 i:Nat),i≤n∧s5=.slice A5 n5 c5∧s12=i∧U3 w wr bb (.slice A5 n5 c5) i (kH ts i)) (fun _ s12 _=>n - (intOf s12).toNat);case atStart=>exact⟨none,0,0,0,Nat.zero_le _,rfl,rfl,HM0.o⟩
 obtain⟨A5,n5,c5,i,hi,rfl,rfl,hM⟩:=hrel;by_cases hlt:i<n
 ·have hlts:i<ts.length:=by have:=HN.o;omega
  obtain⟨t,ht⟩:∃t,ts[i]?=some t:=⟨_,aB hlts⟩;obtain⟨hok,g,o,rfl,hR⟩:=HA.o wr hM.t i t ht;have hrs:kH ts (i+1)=lC t (kH ts i) 64:=by show (match ts[i]? with | some t=>_ | none=>_)=_;rw [ht]
  have hxy:=HIN.o i t ht;have hzz:=HZR.o i t ht;have hlen:t.row.length=258:=by simp [dC.row,hok.1]
  have hone:(⟨t.row⟩:Array Value).all (·.oneCell')=true:=all_oneCell_toArray (cs:=t.row) (fun v hv=>(jA hok).one v hv);have haT:(Instr.alloc 171 true (.tuple #[])).run prog wr=.ok (.pointer (some ⟨wr,0,none⟩)) (wr.alloc (.cells zeroCells171 171)):=by unfold Instr.alloc;rw [Sem.run_bind,(zero_of_info oV).1];rfl
  have hiT:(prog.info? 171).map (·.size)=some t.row.length:=by rw [hlen];exact (zero_of_info oV).2
  have hst:(Instr.storeAt 171 (.pointer (some ⟨wr,0,none⟩)) (.agg ⟨t.row⟩)).run prog (wr.alloc (.cells zeroCells171 171))=.ok () (wr.alloc (.cells ⟨t.row⟩ 171)):=
   run_storeAt_new wr 171 zeroCells171 ⟨t.row⟩ hiT (by rw [show zeroCells171.size=258 by kernel_rfl];exact hlen.symm) hone
  have hI:NU w (wr.alloc (.cells ⟨t.row⟩ 171)) bb wr.heap.size (.slice A5 n5 c5) i t.row (lC t (kH ts i) 0):=by obtain⟨rows,hl,ow⟩:=hM.ow;exact⟨hM.kept ((tR wr).alloc _),heap_alloc_new _ _,fun g hg e=>by have:=(ow.2.lt g hg).2.1;omega,hM.t.size⟩
  have HRW:=lh (jA hok);have HOK:=lh hok;have HI0:=lh hI;have HRS:=lh hrs;have HXY:=lh hxy;have HZZ:=lh hzz;have HIT:=lh hiT;have b0:(0:Int)≤(i:Int):=by omega
  have b1:(i:Int)<(n:Int):=by omega
  have b2:(i:Int)≤1024:=by have:=HLEN.o;omega
  clear hrs hxy hzz hlen hone hI hok ht hlts hM;generalize hrow:t.row=row at *;have HROW:=lh hrow;clear hrow;generalize kH ts i=q0 at *;go_upto_region 5 with (first
   | (refine wpList_load_mid rfl 171 _ rfl _ _ rfl _ _ hR underlying171 rfl hiT ?_)
   | (refine bU rfl 171 _ _ rfl rfl rfl hst ?_))
  clear hR haT hst hiT;generalize wr.alloc (.cells ⟨row⟩ 171)=W2 at *;generalize wr.heap.size=b at *;have hT2:=HI0.o.hT;have hr2:W2.rangeAt b 2 (t.px.map (Value.int .u8)):=by intro j v hv;rw [aA _ _ _ _ 171 (0,0) hT2,←HROW.o,Nat.add_comm 2 j,←hv];show (t.row.toArray)[j+2]?=_;rw [List.getElem?_toArray];rfl
  have hi66:(prog.info? 66).map (·.size)=some (t.px.map (Value.int .u8)).length:=by rw [aJ,HOK.o.1,iE]
  clear hT2;go_upto_region 6 with (refine wpList_load_mid rfl 66 _ rfl _ _ rfl _ _ hr2 underlying66 rfl hi66 ?_)
  clear hr2 hi66;have hix:∀(k:Nat),k<64→∀u,(Instr.index 66 (.agg (t.px.map (Value.int .u8)).toArray) k).run prog u=.ok (.agg #[.int .u8 (t.px.getD (k*4) 0),.int .u8 (t.px.getD (k*4+1) 0),.int .u8 (t.px.getD (k*4+2) 0),.int .u8 (al t.px k)]) u:=fun k hk u=>qY _ _ k hk (J6 HOK.o.1 k hk) u;have HIX:=lh hix;clear hix;generalize hcl:(t.px.map (Value.int .u8)).toArray=cl at *;have HCL:=lh hcl;clear hcl;go_loopw [18] (fun s18 wz=>∃k:Nat,k≤64∧s18=k∧NU w wz bb b (.slice A5 n5 c5) i row (lC t q0 k)) (fun s18 _=>64 - (intOf s18).toNat);case atStart=>exact⟨0,by omega,rfl,HI0.o⟩
  obtain⟨k,hk,rfl,hP⟩:=hrel;by_cases hkl:k<64
  ·have hix:=HIX.o k hkl;have c0:(0:Int)≤(k:Int):=(by omega);have c1:(k:Int)<64:=(by omega);have hPx:=Vz HOK.o.1;rw [HROW.o]at hPx;have h0:=hPx (k*4) (by omega);have h1:=hPx (k*4+1) (by omega);have h2:=hPx (k*4+2) (by omega);have h3:=hPx (k*4+3) (by omega);rw [show t.px.getD (k*4+3) 0=al t.px k from rfl]at h3;simp only [←Nat.add_assoc]at h0 h1 h2 h3;have hxy:=HXY.o;have htb:=Qr t q0 k;obtain⟨⟨w1,w3⟩,w2,w4,w7⟩:=J9 t.x t.y k hxy.1 hxy.2 c1;have hvb:(-1048576≤t.x*8+((k % 8:Nat):Int)∧t.x*8+((k % 8:Nat):Int)≤1048576)∧-1048576≤t.y*8+((k / 8:Nat):Int)∧t.y*8+((k / 8:Nat):Int)≤1048576:=Vb t.x t.y k hxy.1 hxy.2 c1;have hv:=fun (r g b_ a:Int) (q:Rc) (u:World) hu=>TG (t.x*8+((k % 8:Nat):Int)) (t.y*8+((k / 8:Nat):Int)) r g b_ a hvb.1.1 hvb.1.2 hvb.2.1 hvb.2.2 q bb u hu;have u1:Int.tmod (k:Int) 8=((k % 8:Nat):Int):=rfl;have u2:Int.tdiv (k:Int) 8=((k / 8:Nat):Int):=rfl;have hTx:row[0]?=some (.int .i64 t.x)∧row[1]?=some (.int .i64 t.y):=(by rw [←HROW.o];exact⟨rfl,rfl⟩);generalize t.x=tx at *;generalize t.y=ty at *;generalize hu:((k % 8:Nat):Int)=u at *;generalize hvv:((k / 8:Nat):Int)=v at *;generalize t.px.getD (k*4) 0=z0 at *;generalize t.px.getD (k*4+1) 0=z1 at *;generalize t.px.getD (k*4+2) 0=z2 at *;generalize al t.px k=z3 at *;have hPa:=hP.kept ((tR wr).alloc (.cells #[.int .u8 z0,.int .u8 z1,.int .u8 z2,.int .u8 z3] 64));have e0:=bJ (i:=0) hPa.hT hTx.1;have e1:=bJ (i:=1) hPa.hT hTx.2;have hcall:=hv z0 z1 z2 z3 (lC t q0 k) _ hPa.m.hb;rw [←htb]at hcall;have HC:=lh hcall;have HPa:=lh hPa;have HH:=lh (bg h0 (bg h1 (bg h2 h3)));clear h0 h1 h2 h3 hxy htb hvb hv hTx hPa hcall hP hPx hu hvv;(go_upto_region 8 with fail);(go_wp2_with (go_at_call 145;(try simp only [w7,w3,w4]);(with_reducible refine HC.o.mono ?_);rintro e w5 ⟨rfl,hb5,ht5⟩;have hP5:=HPa.o.vis ht5 hb5;have y0:=bJ hP5.hT HH.o.1;have y1:=bJ hP5.hT HH.o.2.1;have y2:=bJ hP5.hT HH.o.2.2.1;have y3:=bJ hP5.hT HH.o.2.2.2;have yf:=(fun i=>dD hP5.hT i);have HP5:=lh hP5;clear hP5 hb5));clear w1 w2 w3 w4 w7 u1 u2 e0 e1 y0 y1 y2 y3 yf;go_roundw;case rel=>exact⟨k+1,by omega,by go_num,(((HP5.o.same HH.o.1).same HH.o.2.1).same HH.o.2.2.1).same HH.o.2.2.2⟩
   simp [intOf];omega
  obtain rfl:k=64:=by omega
  rw [←HRS.o]at hP;have hze:=DZ t.px HOK.o;rw [HZZ.o]at hze;have hr2:wr.rangeAt b 2 (t.px.map (Value.int .u8)):=by intro j v hv;rw [aA _ _ _ _ 171 (0,0) hP.hT,←HROW.o,Nat.add_comm 2 j,←hv];show (t.row.toArray)[j+2]?=_;rw [List.getElem?_toArray];rfl
  have hi66:(prog.info? 66).map (·.size)=some (t.px.map (Value.int .u8)).length:=by rw [aJ,HOK.o.1,iE]
  have HPz:=lh hP;unfold tv at hze;have HZ:=lh hze;clear hze hP;go_upto_region 11 with (first
   | (refine wpList_load_mid rfl 66 _ rfl _ _ rfl _ _ hr2 underlying66 rfl hi66 ?_)
   | (go_at_call 185;(with_reducible refine (HZ.o _).mono ?_);rintro e w7 ⟨rfl,ht7⟩))
  have hP7:=HPz.o.kept ht7;clear hr2 hi66 HZ HPz ht7;have hr0:w7.rangeAt b 0 row:=by intro j v hv;rw [aA _ _ _ _ 171 (0,0) hP7.hT,Nat.zero_add];simpa using hv
  obtain⟨A6,n6,c6,u6,hrun,hM6⟩:=hP7.app HRW.o (by omega) 85;have HRUN:=lh hrun;have HM6:=lh hM6;have HSL:=lh (nG (k:=kJ) (t:=85) underlying85 HRW.o w7);have hiT:=HIT.o;clear hrun hM6 hP7;go_upto_region 12 with (first
   | (refine bQ (o:=⟨some 50,_,_,_,_,_⟩) rfl (dL (.tmp 47) (.tmp 49) 85 rfl rfl rfl HRUN.o) ?_;try go_frame)
   | (refine bQ (o:=⟨some 49,_,_,_,_,_⟩) rfl (dV (x:=.tmp 48) (y:=.agg ⟨row⟩) rfl rfl HSL.o) ?_;try go_frame)
   | (refine wpList_load_mid rfl 171 _ rfl _ _ rfl _ _ hr0 underlying171 rfl hiT ?_))
  clear hr0 hiT;go_wp2_with fail
  go_roundw;case rel=>exact⟨_,_,_,i+1,by omega,rfl,by go_num,HM6.o⟩
  simp [intOf];omega
 obtain rfl:i=n:=by omega
 obtain⟨t,hb,-,-⟩:=hM;have HT:=lh (bg hb t);clear t hb;go_wp2_with fail
 go_ret;exact⟨⟨_,rfl⟩,HT.o.1,HT.o.2⟩
theorem Fz(ts:List dC)(hrb:eu ts=true)(A:Option Addr)(n cap:Nat)(w:World)(h:dB w A n ts):
  Calls prog 87 #[.agg #[.slice A n cap]] w fun e w'=>e=.returned (kH ts n).v∧bH [] w w':=by
 obtain⟨W,hW⟩:∃W,W=((w.alloc (.cells #[.slice A n cap] 87)).alloc (.cells #[(0:Int),(0:Int),(0:Int),(0:Int)] 24)).alloc (.cells #[(0:Int),(0:Int),(0:Int),(0:Int)] 24):=⟨_,rfl⟩;have T0:bH [] w W:=hW ▸ (((tR w).alloc _).alloc _).alloc _;have hWs:w.heap.size+3≤W.heap.size:=by rw [hW];simp
 have x0:W.heap[w.heap.size]?=some (.cells #[.slice A n cap] 87 (0,0)):=hW ▸ bO (bO bN);have x1:W.heap[w.heap.size+1]?=some (.cells (dZ Rc.zero) 24 (0,0)):=hW ▸ bO bN;have x2:W.heap[w.heap.size+1+1]?=some (.cells (dZ Rc.zero) 24 (0,0)):=hW ▸ bN;have y0:=bK x0 (i:=0) (v:=.slice A n cap) rfl;have HT:=lh fun u (t:bH [] W u)=>Kv ts hrb A n cap u (h.turn (T0.trans t));have hnew:∀u,bH [] W u→∀u',bH [w.heap.size+1+1] u u'→∀j t,ts[j]?=some t→jo t.px∧∃g o,A=some ⟨g,o,none⟩∧u'.rangeAt g (o+j*258) t.row:=fun u t u' t' j x hx=>by obtain⟨h1,g,o,h2,h3⟩:=h.2 j x hx;refine⟨h1,g,o,h2,fun i v hv=>?_⟩;have hc:=h3 i v hv;have hg:=ai hc;have hu:=fJ (T0.trans t) h3 i v hv;have e:=t'.old g (aj hg (T0.trans t).size) (by have:=T0.size;simp;simp at hg;omega);simp only [World.cell?]at hu ⊢;rw [e];exact hu
 have HM:=lh fun u (t:bH [] W u)=>Jg ts hrb A n cap (w.heap.size+1+1) u ((t.old _ (by omega) (by simp)).trans x2) h.1 (hnew u t);have HX1:=lh x1;have HT0:=lh T0;clear x0 x1 x2 hnew h hrb T0;have IX:=IX;generalize kH ts n=m at *;go_enter func87,ntmps87;go_upto_region 2 with (fail)
 rw [←hW];clear hW;try simp only [aI]
 have TT:=tR W;go_upto_region 3 with (first
  | (go_at_call 144;refine (HT.o _ TT).mono ?_;rintro e w3 ⟨rfl,ht3⟩;have TT:=TT.trans ht3)
  | (go_at_call 143;refine (HM.o _ TT).mono ?_;rintro e w4 ⟨⟨v,rfl⟩,hb4,ht4⟩))
 have z0:=bK hb4 (i:=0) (v:=m.x0) rfl;have z1:=bK hb4 (i:=1) (v:=m.y0) rfl;have z2:=bK hb4 (i:=2) (v:=m.x1) rfl;have z3:=bK hb4 (i:=3) (v:=m.y1) rfl;have k1:=(ht4.old (w.heap.size+1) (by have:=TT.size;omega) (by simp)).trans ((TT.old (w.heap.size+1) (by omega) (by simp)).trans HX1.o);have r0:=bK k1 (i:=0) (v:=(0:Int)) rfl;have r1:=bK k1 (i:=1) (v:=(0:Int)) rfl;have r2:=bK k1 (i:=2) (v:=(0:Int)) rfl;have r3:=bK k1 (i:=3) (v:=(0:Int)) rfl;have yf:=fun i=>dm k1 i;have hT:=lh (Oh (HT0.o.trans TT) ht4 (by omega));clear hb4 k1 ht4;go_wp2_with fail
 exact ag (v:=m.v) (by simp [results,results87,go_sem,r0,r1,r2,r3];rfl) rfl ⟨rfl,(((hT.out.sc).sc).sc).sc⟩
end Go.Proofs.YtbpklgllihhgpaaGreat
