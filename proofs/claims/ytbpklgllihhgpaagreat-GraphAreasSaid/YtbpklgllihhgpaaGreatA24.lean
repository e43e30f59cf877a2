import Derived.Test.YtbpklgllihhgpaaGreatA22
import Derived.Test.YtbpklgllihhgpaaGreatA23
set_option maxRecDepth 100000
set_option maxHeartbeats 16000000
namespace Go.Proofs.YtbpklgllihhgpaaGreat
open Tryz Go.RowKit Go.Den
theorem PN(n m:Nat)(Z:Array Value)(A B:List Value)(hZ:Z.size=n+m)(hA:A.length=n)(hB:B.length=m): Instr.fill (#[(0,n),(n,m)][·]?) Z [(0,.agg ⟨A⟩),(1,.agg ⟨B⟩)]=some ⟨A ++ B⟩:=by
 have e0:(Value.agg ⟨A⟩).cells=⟨A⟩:=rfl;have e1:(Value.agg ⟨B⟩).cells=⟨B⟩:=rfl;simp only [Instr.fill,e0,e1];have s1:(#[(0,n),(n,m)]:Array (Nat×Nat))[0]?=some (0,n):=rfl;have s2:(#[(0,n),(n,m)]:Array (Nat×Nat))[1]?=some (n,m):=rfl;rw [s1,s2];simp only;obtain⟨C,hC⟩:∃C:Array Value,C=(⟨A⟩:Array Value).zipIdx.foldl (fun (cs:Array Value) (x:Value×Nat)=>cs.setIfInBounds (0+x.2) x.1) Z:=⟨_,rfl⟩;have hCi:∀i:Nat,C[i]?=if i<n then A[i]? else Z[i]?:=by
  intro i;rw [hC,←Array.foldl_toList,Array.toList_zipIdx,Go.Den.CV,hA,hZ];by_cases h:i<n
  ·rw [aG (by omega),aG h];simp
  rw [aF (by omega),aF h]
 have hCs:C.size=n+m:=by
  have hf:∀(l:List (Value×Nat)) (a:Array Value),(l.foldl (fun (cs:Array Value) (x:Value×Nat)=>cs.setIfInBounds (0+x.2) x.1) a).size=a.size:=by
   intro l;induction l with
   | nil=>intro a;rfl
   | cons x l ih=>intro a;rw [List.foldl_cons,ih];simp
  rw [hC,←Array.foldl_toList,hf,hZ]
 rw [aF (by simp [hA,hZ]),←hC,aF (by simp [hB,hCs])];congr 1;refine Array.ext_getElem? fun i=>?_;rw [←Array.foldl_toList,Array.toList_zipIdx,Go.Den.CV,hCs,hCi];rw [show (⟨A ++ B⟩:Array Value)[i]?=(A ++ B)[i]? by simp];show (if n+0≤i∧i<n+0+B.length∧i<n+m then B[i - (n+0)]? else _)=_;rw [hB,Nat.add_zero];by_cases h1:i<n
 ·rw [aF (by omega),aG h1,bD (by omega)]
 by_cases h2:i<n+m
 ·rw [aG (by omega),bG (by omega),hA]
 rw [aF (by omega),aF h1,Array.getElem?_eq_none (by omega),bC (by simp;omega)]
theorem RG:(prog.info? 171).map (fun i=>(i.zero,i.size,i.bytes))=some (some (.agg zeroCells171),258,272):=by kernel_rfl
noncomputable def kJ:kD:=⟨171,258,272,.agg zeroCells171,RG,by kernel_rfl,by decide,by decide,by decide⟩
theorem jA{t:dC}(h:jo t.px): kJ.Row t.row:=by
 refine⟨by show t.row.length=258;simp [dC.row,h.1],fun v hv=>?_⟩;rcases aS.1 hv with rfl | hv
 ·rfl
 rcases aS.1 hv with rfl | hv
 ·rfl
 obtain⟨x,_,rfl⟩:=List.mem_map.1 hv;rfl
theorem OO(w:World): ∃fs,prog.underlying 171=some (.struct fs)∧(fs.mapM fun f=>do pure (f.offset,←sizeOf f.type):Sem (Array (Nat×Nat))).run prog w=.ok #[(0,2),(2,256)] w:=⟨_,underlying171,by kernel_rfl⟩
theorem Fa(x y:Int)(px:List Int)(hl:px.length=256)(w:World): (Instr.build 171 #[(0,.agg #[x,y]),(1,.agg ⟨px.map (Value.int .u8)⟩)]).run prog w=.ok (.agg ⟨(dC.mk x y px).row⟩) w:=by obtain⟨fs,hu,hp⟩:=OO w;unfold Instr.build;rw [Sem.run_bind,(zero_of_info oV).1];simp only [Result.andThen,Sem.run_bind,run_underlying hu];rw [hp];have hf:=PN 2 256 zeroCells171 [x,y] (px.map (Value.int .u8)) (by kernel_rfl) rfl (by rw [aJ,hl]);simp only [Value.cells]at hf ⊢;rw [hf];rfl
def JI(w:World)(base:Nat)(v:Value)(ts:List dC): Prop:=(∀t∈ts,jo t.px)∧iK kJ w base v (ts.map dC.row)
theorem JI.at{w:World}{base:Nat}{v:Value}{ts:List dC}(h:JI w base v ts): ∃A n cap,v=.slice A n cap∧dB w A n ts:=by
 rcases h.2.form with ⟨rfl,h0⟩ | ⟨g,o,cap,rfl,_,_,_,hr⟩
 ·have:ts=[]:=by simpa using h0
  subst this;exact⟨none,0,0,rfl,nX w⟩
 refine⟨_,_,_,rfl,by simp,fun j t ht=>⟨h.1 t (aH ht),g,o,rfl,?_⟩⟩;exact hr j t.row (by rw [aP,ht];rfl)
structure lM(w wr:World)(A:Option Addr)(n cap:Nat)(x y:Int)(px:List Int)(v:Value)(ts:List dC): Prop where
 t:bH [] w wr
 h0:wr.heap[w.heap.size]?=some (.cells #[.slice A n cap] 87 (0,0))
 h1:wr.heap[w.heap.size+1]?=some (.cells #[x,y] 133 (0,0))
 h2:wr.heap[w.heap.size+2]?=some (.cells ⟨px.map (Value.int .u8)⟩ 66 (0,0))
 h3:wr.heap[w.heap.size+3]?=some (.cells #[.slice none 0 0] 87 (0,0))
 h4:wr.heap[w.heap.size+4]?=some (.cells #[v] 87 (0,0))
 own:JI wr (w.heap.size+5) v ts
theorem lM.lt{w wr:World}{A:Option Addr}{n cap:Nat}{x y:Int}{px:List Int}{v:Value}{ts:List dC}(h:lM w wr A n cap x y px v ts): w.heap.size+5≤wr.heap.size:=(ae.1 h.h4).1
theorem lM.keep{w wr w':World}{A:Option Addr}{n cap:Nat}{x y:Int}{px:List Int}{v v':Value}{ts ts':List dC}{bs:List Nat}(h:lM w wr A n cap x y px v ts)(T:bH bs wr w')(hb:∀g∈bs,w.heap.size+5≤g)(ho:JI w' (w.heap.size+5) v' ts'):
  lM w (w'.setCell ⟨w.heap.size+4,0,none⟩ v') A n cap x y px v' ts':=by
 have hl:=h.lt;have old:∀i,i<5→w'.heap[w.heap.size+i]?=wr.heap[w.heap.size+i]?:=fun i hi=>T.old _ (by omega) fun hm=>by have:=hb _ hm;omega
 have os:∀i,i<4→(w'.setCell ⟨w.heap.size+4,0,none⟩ v').heap[w.heap.size+i]?=w'.heap[w.heap.size+i]?:=fun i hi=>by simp only [World.setCell,au];rw [aF (by omega)]
 refine⟨?_,?_,?_,?_,?_,?_,?_⟩
 ·exact (fH h.t T (fun g hg=>by have:=hb g hg;omega)).sc
 ·exact (os 0 (by omega)).trans ((old 0 (by omega)).trans h.h0)
 ·exact (os 1 (by omega)).trans ((old 1 (by omega)).trans h.h1)
 ·exact (os 2 (by omega)).trans ((old 2 (by omega)).trans h.h2)
 ·exact (os 3 (by omega)).trans ((old 3 (by omega)).trans h.h3)
 ·simp only [World.setCell,au,if_true,(old 4 (by omega)).trans h.h4];rfl
 refine⟨ho.1,ho.2.1,ho.2.2.keep fun g hg=>?_⟩;have:=(ho.2.2.lt g hg).1;simp only [World.setCell,au];rw [aF (by omega)]
theorem lM.drawn{w wr w':World}{A:Option Addr}{n cap:Nat}{x y:Int}{px:List Int}{v:Value}{ts:List dC}(h:lM w wr A n cap x y px v ts)(T:bH [] wr w'): lM w w' A n cap x y px v ts:=by have hl:=h.lt;have old:∀i,i<5→w'.heap[w.heap.size+i]?=wr.heap[w.heap.size+i]?:=fun i hi=>T.old _ (by omega) (by simp);exact⟨h.t.trans T,(old 0 (by omega)).trans h.h0,(old 1 (by omega)).trans h.h1,(old 2 (by omega)).trans h.h2,(old 3 (by omega)).trans h.h3,(old 4 (by omega)).trans h.h4,h.own.1,h.own.2.turn T⟩
theorem lM.cells{w wr:World}{A:Option Addr}{n cap:Nat}{x y:Int}{px:List Int}{v:Value}{ts:List dC}(h:lM w wr A n cap x y px v ts):
  wr.cell? ⟨w,0,none⟩=some (.slice A n cap)∧wr.cell? ⟨w.heap.size+1,0,none⟩=some (.int .i64 x)∧wr.cell? ⟨w.heap.size+1,1,none⟩=some (.int .i64 y)∧wr.cell? ⟨w.heap.size+3,0,none⟩=some (.slice none 0 0)∧wr.cell? ⟨w.heap.size+4,0,none⟩=some v∧
   wr.frozen? ⟨w.heap.size+3,0,none⟩=false∧wr.frozen? ⟨w.heap.size+4,0,none⟩=false:=by
 refine⟨?_,?_,?_,?_,?_,?_,?_⟩
 ·rw [aA _ _ _ _ _ _ h.h0];rfl
 ·rw [aA _ _ _ _ _ _ h.h1];rfl
 ·rw [aA _ _ _ _ _ _ h.h1];rfl
 ·rw [aA _ _ _ _ _ _ h.h3];rfl
 ·rw [aA _ _ _ _ _ _ h.h4];rfl
 ·simp [World.frozen?,h.h3]
 simp [World.frozen?,h.h4]
theorem nN{r:List Value}(hr:kJ.Row r)(w:World): (Instr.buildSlice 85 1 #[(0,.agg ⟨r⟩)]).run prog w=.ok (.slice (some ⟨w,0,none⟩) 1 1) (w.alloc (.cells ⟨r⟩ 171)):=nG (k:=kJ) underlying85 hr w
theorem lM.app{w u:World}{A:Option Addr}{n cap:Nat}{x y:Int}{px:List Int}{v:Value}{ts:List dC}(h:lM w u A n cap x y px v ts)(t:dC)(ht:jo t.px)(hn:ts.length≤5000):
  ∃v' u',(Builtin.append_ #[85,85] 85 #[v,.slice (some ⟨u,0,none⟩) 1 1]).run prog (u.alloc (.cells ⟨t.row⟩ 171))=.ok v' u'∧lM w (u'.setCell ⟨w.heap.size+4,0,none⟩ v') A n cap x y px v' (ts ++ [t])∧bH (dI v) u u'∧
   u'.cell? ⟨w.heap.size+4,0,none⟩=some v∧u'.frozen? ⟨w.heap.size+4,0,none⟩=false:=by
 have hl:=h.lt;obtain⟨v',u',e1,e2,e3,e4⟩:=yR (k:=kJ) (t:=85) underlying85 h.own.2 (jA ht) (by omega) (by simp;omega) 85;have hb:∀g∈dI v,w.heap.size+5≤g:=fun g hg=>(h.own.2.2.lt g hg).1;have h4:u'.heap[w.heap.size+4]?=some (.cells #[v] 87 (0,0)):=(e3.old _ (by omega) (fun hm=>by have:=hb _ hm;omega)).trans h.h4;refine⟨v',u',e1,h.keep e3 hb ⟨fun t' ht'=>?_,?_⟩,e3,?_,?_⟩
 ·rcases aV.1 ht' with q | q
  ·exact h.own.1 t' q
  rw [aN]at q;subst q;exact ht
 ·rw [List.map_append];exact e2
 ·rw [aA _ _ _ _ _ _ h4];rfl
 simp [World.frozen?,h4]
theorem JI.setCell{w:World}{base:Nat}{v:Value}{ts:List dC}(h:JI w base v ts)(c i:Nat)(hc:c<base)(x:Value): JI (w.setCell ⟨c,i,none⟩ x) base v ts:=
 ⟨h.1,h.2.1,h.2.2.keep fun g hg=>by
  have:=(h.2.2.lt g hg).1;simp only [World.setCell,au];rw [aF (by omega)]⟩
theorem yV(u:World)(b:Obj)(i:Nat): (u.alloc b).heap[i]?=if i=u.heap.size then some b else u.heap[i]?:=by
 by_cases h:i=u.heap.size
 ·rw [aG h,h];exact heap_alloc_new u b
 rw [aF h];show (u.heap.push b)[i]?=_;rw [Array.getElem?_push,aF h]
theorem SV(ts0:List dC)(A:Option Addr)(n cap:Nat)(hn:n≤1024)(x y:Int)(px0:List Int)(hpx:jo px0)(w:World)(h:dB w A n ts0):
  Calls prog 103 #[.agg #[.slice A n cap],.agg #[x,y],tv px0] w fun e w'=>(∃A' n' cap' ts',e=.returned (.agg #[.slice A' n' cap'])∧dB w' A' n' ts')∧bH [] w w':=by
 have hCl:=D9 px0 hpx.1;have hZe:=GV (fG px0) (xu hpx).1;have hok:=xu hpx;have hA:1≤n→∃g o,A=some ⟨g,o,none⟩∧∀w',bH [] w w'→∀j t,ts0[j]?=some t→jo t.px∧w'.rangeAt g (o+j*258) t.row:=fun h1=>h.get h1;have hl:=h.1;have hlen0:(px0.map (Value.int .u8)).length=256:=by rw [aJ,hpx.1]
 obtain⟨W,hW⟩:∃W,W=((((w.alloc (.cells #[.slice A n cap] 87)).alloc (.cells #[x,y] 133)).alloc (.cells ⟨px0.map (Value.int .u8)⟩ 66)).alloc (.cells #[.slice none 0 0] 87)).alloc (.cells #[.slice none 0 0] 87):=⟨_,rfl⟩;have T0:bH [] w W:=hW ▸ ((((((tR w).alloc _).alloc _).alloc _).alloc _).alloc _);have hWs:W.heap.size=w.heap.size+5:=by rw [hW];simp
 have hW0:W.heap[w.heap.size]?=some (.cells #[.slice A n cap] 87 (0,0)):=hW ▸ bO (bO (bO (bO bN)));have hW1:W.heap[w.heap.size+1]?=some (.cells #[x,y] 133 (0,0)):=hW ▸ bO (bO (bO bN));have hW2:W.heap[w.heap.size+2]?=some (.cells ⟨px0.map (Value.int .u8)⟩ 66 (0,0)):=hW ▸ bO (bO bN);have hW3:W.heap[w.heap.size+3]?=some (.cells #[.slice none 0 0] 87 (0,0)):=hW ▸ bO bN;have hW4:W.heap[w.heap.size+4]?=some (.cells #[.slice none 0 0] 87 (0,0)):=hW ▸ bN;have hl2:=run_loadVar_row (P:=prog) W (w.heap.size+2) 66 66 ⟨px0.map (Value.int .u8)⟩ (0,0) _ hW2 underlying66 rfl (by rw [iE];show some 256=some (px0.map (Value.int .u8)).length;rw [hlen0]);have hstore:∀u,bH [] W u→(Instr.storeAt 66 (.pointer (some ⟨w.heap.size+2,0,none⟩)) (.agg ⟨(fG px0).map (Value.int .u8)⟩)).run prog u=.ok () (u.setRow (w.heap.size+2) ⟨(fG px0).map (Value.int .u8)⟩):=fun u T=>
  jV (ty:=66) ((T.old _ (by omega) (by simp)).trans hW2) (by rw [iE];show some 256=some ((fG px0).map (Value.int .u8)).length;rw [aJ,hok.1]) (by show (px0.map (Value.int .u8)).length=((fG px0).map (Value.int .u8)).length;rw [hlen0,aJ,hok.1]) (by simp [Value.oneCell'])
 have hP0:∀u,bH [] W u→lM w (u.setRow (w.heap.size+2) ⟨(fG px0).map (Value.int .u8)⟩) A n cap x y (fG px0) (.slice none 0 0) []:=fun u T=>by
  have old:∀i,i<5→u.heap[w.heap.size+i]?=W.heap[w.heap.size+i]?:=fun i hi=>T.old _ (by omega) (by simp);have oth:∀g,g≠w.heap.size+2→(u.setRow (w.heap.size+2) ⟨(fG px0).map (Value.int .u8)⟩).heap[g]?=u.heap[g]?:=fun g hg=>by simp only [World.setRow,au,Ne.symm hg,if_false]
  refine⟨(T0.trans T).setRow _ (.inr (by omega)),?_,?_,?_,?_,?_,by simp,jU _ _ _⟩
  ·exact (oth _ (by omega)).trans ((old 0 (by omega)).trans hW0)
  ·exact (oth _ (by omega)).trans ((old 1 (by omega)).trans hW1)
  ·simp only [World.setRow,au,if_true,(old 2 (by omega)).trans hW2];rfl
  ·exact (oth _ (by omega)).trans ((old 3 (by omega)).trans hW3)
  exact (oth _ (by omega)).trans ((old 4 (by omega)).trans hW4)
 have hload:∀u v ts,lM w u A n cap x y (fG px0) v ts→(loadVar 66 ⟨w.heap.size+2,0,none⟩).run prog u=.ok (.agg ⟨(fG px0).map (Value.int .u8)⟩) u:=fun u v ts h=>
  run_loadVar_row (P:=prog) u (w.heap.size+2) 66 66 ⟨(fG px0).map (Value.int .u8)⟩ (0,0) _ h.h2 underlying66 rfl (by rw [iE];show some 256=some ((fG px0).map (Value.int .u8)).length;rw [aJ,hok.1])
 have hbuild:=fun u=>Fa x y (fG px0) hok.1 u;have HA:=lh hA;have HN:=lh hl;have HCL:=lh hCl;have HZE:=lh hZe;have HOK:=lh hok;have HST:=lh hstore;have HP0:=lh hP0;have HLO:=lh hload;have HBD:=lh hbuild;unfold tv at HCL HZE;unfold tv;clear hA hl h hCl hZe hok hstore hP0 hload hbuild hW0 hW1 hW2 hW3 hW4 hlen0 hpx;generalize (⟨px0.map (Value.int .u8)⟩:Array Value)=c0 at *;generalize hPX:fG px0=PX at *;clear hPX;generalize hc1:(⟨PX.map (Value.int .u8)⟩:Array Value)=c1 at *;have HC1:=lh hc1;clear hc1;go_enter func103,ntmps103;go_upto_region 2 with (fail)
 rw [show w.heap.size+1+1=w.heap.size+2 from rfl,show w.heap.size+2+1=w.heap.size+3 from rfl,show w.heap.size+3+1=w.heap.size+4 from rfl,←hW];clear hW;go_upto_region 3 with (first
  | (refine fD rfl 66 (.tmp 5) rfl rfl hl2 ?_)
  | (go_at_call 154;refine (HCL.o _).mono ?_;rintro e w1 ⟨rfl,ht1⟩)
  | (refine bU rfl 66 (.tmp 5) (.tmp 13) rfl rfl rfl (HST.o _ ht1) ?_))
 have P1:=HP0.o _ ht1;clear hl2;generalize w1.setRow (w.heap.size+2) c1=V at *;have hl3:=HLO.o _ _ _ P1;go_upto_region 5 with (first
  | (refine fD rfl 66 (.tmp 5) rfl rfl hl3 ?_)
  | (go_at_call 152;refine (HZE.o _).mono ?_;rintro e w2 ⟨rfl,ht2⟩))
 have P2:=P1.drawn ht2;clear P1 hl3 ht2;generalize oO PX=bz at *;go_wp2_with fail
 go_loopw [9,10] (fun s9 s10 wr=>∃(b:Bool) (k:Nat) (v:Value) (xs:List dC),k≤n∧s9=.bool b∧s10=k∧xs.length≤2*k∧lM w wr A n cap x y PX v xs) (fun _ s10 _=>n - (intOf s10).toNat);case atStart=>exact⟨bz,0,_,[],by omega,rfl,rfl,by simp,P2⟩
 clear P2;obtain⟨b,k,v,xs,hk,rfl,rfl,hxs,P⟩:=hrel;obtain⟨c0',c1x,c1y,c3,c4,f3,f4⟩:=P.cells;by_cases hlt:k<n
 ·obtain⟨g,o,rfl,hR⟩:=HA.o (by omega);have hls:k<ts0.length:=by have:=HN.o;omega
  obtain⟨t,ht⟩:∃t,ts0[k]?=some t:=⟨ts0[k],by simp [hls]⟩;have hRk:=fun w' T=>hR w' T k t ht;obtain⟨ok,hrow⟩:=hRk wr P.t;have d0:wr.cell? ⟨g,o+k*258,none⟩=some (.int .i64 t.x):=by simpa using hrow 0 _ rfl
  have d1:wr.cell? ⟨g,o+k*258+1,none⟩=some (.int .i64 t.y):=hrow 1 _ rfl;have HR:=lh hRk;have HT:=lh ok;have b0:(0:Int)≤(k:Int):=by omega
  have b1:(k:Int)<(n:Int):=by omega
  clear hR hRk hrow ht hls ok;have HP:=lh P;clear P;generalize hxe:t.x=tx at *;generalize hye:t.y=ty at *;have HX:=lh hxe;have HY:=lh hye;clear hxe hye;cases b with
  | true=>
   (go_upto_region 8 with (fail));go_quiet (fail)
   have TV:=(tR wr).drawn nq;have P:=HP.o.drawn TV;have TV:bH [] wr (wr.drewN nq):=TV;have P:lM w (wr.drewN nq) (some ⟨g,o,none⟩) n cap x y PX v xs:=P;generalize wr.drewN nq=V at *;clear HP TV c0' c1x c1y c3 c4 f3 f4 d0 d1;obtain⟨c0',c1x,c1y,c3,c4,f3,f4⟩:=P.cells;have hrow:=(HR.o V P.t).2;have d0:V.cell? ⟨g,o+k*258,none⟩=some (.int .i64 tx):=(by rw [←HX.o];simpa using hrow 0 _ rfl);have d1:V.cell? ⟨g,o+k*258+1,none⟩=some (.int .i64 ty):=(by rw [←HY.o];exact hrow 1 _ rfl);clear hrow;have HP:=lh P;clear P;(go_upto_region 11 with (fail));by_cases he:tx=x∧ty=y
   ·obtain⟨rfl,rfl⟩:=he;go_quiet (fail)
    have P:lM w (V.drewN nq) (some ⟨g,o,none⟩) n cap tx ty PX v (xs):=HP.o.drawn ((tR V).drawn nq);(go_wp2_with fail);go_roundw;case rel=>exact⟨true,k+1,_,_,by omega,rfl,by go_num,by (try simp only [aO,List.length_singleton]);omega,P⟩
    simp [intOf];omega
   have he':tx=x→¬ty=y:=fun a b=>he ⟨a,b⟩;clear he;by_cases h1:tx=x;have h2:=he' h1;all_goals
    go_quiet (fail)
    have P:lM w (V.drewN nq) (some ⟨g,o,none⟩) n cap x y PX v (xs):=HP.o.drawn ((tR V).drawn nq);generalize V.drewN nq=U at *;clear c0' c1x c1y c3 c4 f3 f4 d0 d1;(go_upto_region 12 with (fail));have hbl:∀q∈dI v,w.heap.size+5≤q:=fun q hq=>(P.own.2.2.lt q hq).1;have HB:=lh hbl;have hUl:=P.lt;obtain⟨c0',c1x,c1y,c3,c4,f3,f4⟩:=P.cells;have D0:Hid (∀u,bH (dI v) U u→u.cell? ⟨w,0,none⟩=some (.slice (some ⟨g,o,none⟩) n cap)):=lh fun u T=>by rw [aA _ _ _ _ _ _ ((T.old _ (by omega) (fun hm=>by have:=HB.o _ hm;omega)).trans P.h0)];rfl
    have D1:Hid (∀u,bH (dI v) U u→u.cell? ⟨w.heap.size+4,0,none⟩=some v):=lh fun u T=>by rw [aA _ _ _ _ _ _ ((T.old _ (by omega) (fun hm=>by have:=HB.o _ hm;omega)).trans P.h4)];rfl
    have HLD:Hid (∀u,bH (dI v) U u→(Instr.loadAt 171 (.pointer (some ⟨g,o+k*258,none⟩))).run prog u=.ok (.agg ⟨t.row⟩) u):=lh fun u T=>run_loadAt_mid u _ _ 171 _ _ (HR.o _ (fH P.t T (fun q hq=>by have:=HB.o q hq;omega))).2 underlying171 rfl (by rw [(jA HT.o).len];exact (zero_of_info oV).2);have HP:=lh P;have HRW:=lh (jA HT.o);clear P c0' c1x c1y c3 c4 f3 f4 hbl;refine cu.start (fun u=>bH (dI v) U u) 10 (by kernel_rfl) ?_;have hS:=(bH.refl (dI v) U).drawn 1;have P:lM w U.drew (some ⟨g,o,none⟩) n cap x y PX v (xs):=HP.o.drawn ((tR U).drawn 1);change bH (dI v) U U.drew at hS;generalize U.drew=Y at *;have HP:=lh P;clear P;refine tk 0 (.pointer (some ⟨w.heap.size+4,0,none⟩)) ?_;go_frame;refine tk 1 v ?_ (hy:=fun w' hw=>by have e1:=D1.out _ hw;go_simp);go_frame;refine tk 2 (.pointer (some ⟨w,0,none⟩)) ?_;go_frame;refine tk 3 (.slice (some ⟨g,o,none⟩) n cap) ?_ (hy:=fun w' hw=>by have e0:=D0.out _ hw;go_simp);go_frame;refine tk 4 k ?_;go_frame;refine tk 5 (.pointer (some ⟨g,o+k*258,none⟩)) ?_;go_frame;refine tk 6 (.agg ⟨t.row⟩) ?_ rfl (hy:=fun w' hw=>dw rfl rfl (HLD.o w' hw));go_frame;obtain⟨v2,u2,hap,P2,T2,c42,f42⟩:=HP.o.app t HT.o (by (try simp only [aO,List.length_singleton]);omega);obtain⟨A3,n3,cp3,rfl,_⟩:=P2.own.at;refine eH 7 fun K hK=>?_;refine bZ (d:=some 59) rfl (dV (y:=.agg ⟨t.row⟩) rfl rfl (nN HRW.o Y)) ?_;refine hK _ _ (fun _=>hS.alloc _) ?_;clear hK K;(try go_frame);refine eH 8 fun K hK=>?_;refine bZ (d:=some 60) rfl (dL (v:=v) (y:=.slice (some ⟨Y,0,none⟩) 1 1) _ _ 85 rfl rfl rfl hap) ?_;refine hK _ _ (fun _=>hS.trans T2) ?_;clear hK K;(try go_frame);refine eH 9 fun K hK=>?_;refine bZ (d:=some 61) rfl (v:=.pointer (some ⟨w.heap.size+4,0,none⟩)) (u:=u2) (by go_simp) ?_;refine hK _ _ (fun _=>hS.trans T2) ?_;clear hK K;(try go_frame);refine iZ fun K hK=>?_;go_simp;refine hK _ _ ?_;clear hK K;(try go_frame);(go_wp2_with fail);go_roundw;case rel=>exact⟨true,k+1,_,_,by omega,rfl,by go_num,by (try simp only [aO,List.length_singleton]);omega,P2⟩
    case measure=>simp [intOf];omega
  | false=>
   have HLE:=lh (Iy x y tx ty);have TR:=(tR wr).drawn 1;have HS:Hid (∀w',bH [] wr w'→(w'.cell? ⟨w.heap.size+1,0,none⟩=some (.int .i64 x)∧w'.cell? ⟨w.heap.size+1,1,none⟩=some (.int .i64 y)∧w'.cell? ⟨w,0,none⟩=some (.slice (some ⟨g,o,none⟩) n cap)∧w'.cell? ⟨g,o+k*258,none⟩=some (.int .i64 tx)∧w'.cell? ⟨g,o+k*258+1,none⟩=some (.int .i64 ty))):=lh fun w' T=>by
    have mvr:∀{b i:Nat} {v:Value},wr.cell? ⟨b,i,none⟩=some v→w'.cell? ⟨b,i,none⟩=some v:=fun h=>by rw [(bY T).1 _ _ (ai h)];exact h
    exact⟨mvr c1x,mvr c1y,mvr c0',mvr d0,mvr d1⟩
   (go_upto_region 8 with (fail));clear c0' c1x c1y c3 c4 f3 f4 d0 d1;generalize (decide (y<ty) || decide (y=ty) && decide (x<tx))=q at *;go_region_held3 (fun w'=>w'.cell? ⟨w.heap.size+1,0,none⟩=some (.int .i64 x)∧w'.cell? ⟨w.heap.size+1,1,none⟩=some (.int .i64 y)∧w'.cell? ⟨w,0,none⟩=some (.slice (some ⟨g,o,none⟩) n cap)∧w'.cell? ⟨g,o+k*258,none⟩=some (.int .i64 tx)∧w'.cell? ⟨g,o+k*258+1,none⟩=some (.int .i64 ty)) (first | exact HS.o _ TR | exact HS.o _ (TR.trans ht5)) (first
    | (go_at_call 155;refine (HLE.o _).mono ?_;rintro e w5 ⟨rfl,ht5⟩))
   have P:=HP.o.drawn (TR.trans ht5);clear HP HS ht5 TR;generalize w5=V at *;cases q with
   | false=>
    obtain⟨c0',c1x,c1y,c3,c4,f3,f4⟩:=P.cells;have hrow:=(HR.o V P.t).2;have d0:V.cell? ⟨g,o+k*258,none⟩=some (.int .i64 tx):=(by rw [←HX.o];simpa using hrow 0 _ rfl);have d1:V.cell? ⟨g,o+k*258+1,none⟩=some (.int .i64 ty):=(by rw [←HY.o];exact hrow 1 _ rfl);clear hrow;have HP:=lh P;clear P;(go_upto_region 11 with (fail));by_cases he:tx=x∧ty=y
    ·obtain⟨rfl,rfl⟩:=he;go_quiet (fail)
     have P:lM w (V.drewN nq) (some ⟨g,o,none⟩) n cap tx ty PX v (xs):=HP.o.drawn ((tR V).drawn nq);(go_wp2_with fail);go_roundw;case rel=>exact⟨false,k+1,_,_,by omega,rfl,by go_num,by (try simp only [aO,List.length_singleton]);omega,P⟩
     simp [intOf];omega
    have he':tx=x→¬ty=y:=fun a b=>he ⟨a,b⟩;clear he;by_cases h1:tx=x;have h2:=he' h1;all_goals
     go_quiet (fail)
     have P:lM w (V.drewN nq) (some ⟨g,o,none⟩) n cap x y PX v (xs):=HP.o.drawn ((tR V).drawn nq);generalize V.drewN nq=U at *;clear c0' c1x c1y c3 c4 f3 f4 d0 d1;(go_upto_region 12 with (fail));have hbl:∀q∈dI v,w.heap.size+5≤q:=fun q hq=>(P.own.2.2.lt q hq).1;have HB:=lh hbl;have hUl:=P.lt;obtain⟨c0',c1x,c1y,c3,c4,f3,f4⟩:=P.cells;have D0:Hid (∀u,bH (dI v) U u→u.cell? ⟨w,0,none⟩=some (.slice (some ⟨g,o,none⟩) n cap)):=lh fun u T=>by rw [aA _ _ _ _ _ _ ((T.old _ (by omega) (fun hm=>by have:=HB.o _ hm;omega)).trans P.h0)];rfl
     have D1:Hid (∀u,bH (dI v) U u→u.cell? ⟨w.heap.size+4,0,none⟩=some v):=lh fun u T=>by rw [aA _ _ _ _ _ _ ((T.old _ (by omega) (fun hm=>by have:=HB.o _ hm;omega)).trans P.h4)];rfl
     have HLD:Hid (∀u,bH (dI v) U u→(Instr.loadAt 171 (.pointer (some ⟨g,o+k*258,none⟩))).run prog u=.ok (.agg ⟨t.row⟩) u):=lh fun u T=>run_loadAt_mid u _ _ 171 _ _ (HR.o _ (fH P.t T (fun q hq=>by have:=HB.o q hq;omega))).2 underlying171 rfl (by rw [(jA HT.o).len];exact (zero_of_info oV).2);have HP:=lh P;have HRW:=lh (jA HT.o);clear P c0' c1x c1y c3 c4 f3 f4 hbl;refine cu.start (fun u=>bH (dI v) U u) 10 (by kernel_rfl) ?_;have hS:=(bH.refl (dI v) U).drawn 1;have P:lM w U.drew (some ⟨g,o,none⟩) n cap x y PX v (xs):=HP.o.drawn ((tR U).drawn 1);change bH (dI v) U U.drew at hS;generalize U.drew=Y at *;have HP:=lh P;clear P;refine tk 0 (.pointer (some ⟨w.heap.size+4,0,none⟩)) ?_;go_frame;refine tk 1 v ?_ (hy:=fun w' hw=>by have e1:=D1.out _ hw;go_simp);go_frame;refine tk 2 (.pointer (some ⟨w,0,none⟩)) ?_;go_frame;refine tk 3 (.slice (some ⟨g,o,none⟩) n cap) ?_ (hy:=fun w' hw=>by have e0:=D0.out _ hw;go_simp);go_frame;refine tk 4 k ?_;go_frame;refine tk 5 (.pointer (some ⟨g,o+k*258,none⟩)) ?_;go_frame;refine tk 6 (.agg ⟨t.row⟩) ?_ rfl (hy:=fun w' hw=>dw rfl rfl (HLD.o w' hw));go_frame;obtain⟨v2,u2,hap,P2,T2,c42,f42⟩:=HP.o.app t HT.o (by (try simp only [aO,List.length_singleton]);omega);obtain⟨A3,n3,cp3,rfl,_⟩:=P2.own.at;refine eH 7 fun K hK=>?_;refine bZ (d:=some 59) rfl (dV (y:=.agg ⟨t.row⟩) rfl rfl (nN HRW.o Y)) ?_;refine hK _ _ (fun _=>hS.alloc _) ?_;clear hK K;(try go_frame);refine eH 8 fun K hK=>?_;refine bZ (d:=some 60) rfl (dL (v:=v) (y:=.slice (some ⟨Y,0,none⟩) 1 1) _ _ 85 rfl rfl rfl hap) ?_;refine hK _ _ (fun _=>hS.trans T2) ?_;clear hK K;(try go_frame);refine eH 9 fun K hK=>?_;refine bZ (d:=some 61) rfl (v:=.pointer (some ⟨w.heap.size+4,0,none⟩)) (u:=u2) (by go_simp) ?_;refine hK _ _ (fun _=>hS.trans T2) ?_;clear hK K;(try go_frame);refine iZ fun K hK=>?_;go_simp;refine hK _ _ ?_;clear hK K;(try go_frame);(go_wp2_with fail);go_roundw;case rel=>exact⟨false,k+1,_,_,by omega,rfl,by go_num,by (try simp only [aO,List.length_singleton]);omega,P2⟩
     case measure=>simp [intOf];omega
   | true=>
    obtain⟨c0',c1x,c1y,c3,c4,f3,f4⟩:=P.cells;have hlv:=HLO.o _ _ _ P;have hbd:=HBD.o V;have HRX:=lh (jA (t:=⟨x,y,PX⟩) HOK.o);obtain⟨v2,u2,hap,P2,T2,c42,f42⟩:=P.app ⟨x,y,PX⟩ HOK.o (by omega);obtain⟨A2,n2,cp2,rfl,_⟩:=P2.own.at;have hsl:=nN HRX.o V;have HP2:=lh P2;clear P P2 T2;go_upto_region 10 with (first
     | (refine fD rfl 66 (.tmp 5) rfl rfl hlv ?_;try go_frame)
     | (refine bQ rfl (oN (p:=.agg #[x,y]) (q:=.agg c1) rfl rfl rfl hbd) ?_;try go_frame)
     | (refine bQ rfl (dV (y:=.agg ⟨dC.row ⟨x,y,PX⟩⟩) rfl rfl hsl) ?_;try go_frame)
     | (refine bQ rfl (dL (v:=v) (y:=.slice (some ⟨V,0,none⟩) 1 1) _ _ 85 rfl rfl rfl hap) ?_;try go_frame))
    have P:lM w (u2.setCell ⟨w.heap.size+4,0,none⟩ (.slice A2 n2 cp2)) (some ⟨g,o,none⟩) n cap x y PX (.slice A2 n2 cp2) (xs ++ [⟨x,y,PX⟩]):=HP2.o;clear c42 f42 c0' c1x c1y c3 c4 f3 f4 hlv hbd hsl hap HP2 HRX;generalize u2.setCell ⟨w.heap.size+4,0,none⟩ (.slice A2 n2 cp2)=V2 at *;obtain⟨c0',c1x,c1y,c3,c4,f3,f4⟩:=P.cells;have hrow:=(HR.o V2 P.t).2;have d0:V2.cell? ⟨g,o+k*258,none⟩=some (.int .i64 tx):=(by rw [←HX.o];simpa using hrow 0 _ rfl);have d1:V2.cell? ⟨g,o+k*258+1,none⟩=some (.int .i64 ty):=(by rw [←HY.o];exact hrow 1 _ rfl);clear hrow;have HP:=lh P;clear P;(go_upto_region 11 with (fail));by_cases he:tx=x∧ty=y
    ·obtain⟨rfl,rfl⟩:=he;go_quiet (fail)
     have P:lM w (V2.drewN nq) (some ⟨g,o,none⟩) n cap tx ty PX (.slice A2 n2 cp2) (xs ++ [⟨tx,ty,PX⟩]):=HP.o.drawn ((tR V2).drawn nq);(go_wp2_with fail);go_roundw;case rel=>exact⟨true,k+1,_,_,by omega,rfl,by go_num,by (try simp only [aO,List.length_singleton]);omega,P⟩
     simp [intOf];omega
    have he':tx=x→¬ty=y:=fun a b=>he ⟨a,b⟩;clear he;by_cases h1:tx=x;have h2:=he' h1;all_goals
     go_quiet (fail)
     have P:lM w (V2.drewN nq) (some ⟨g,o,none⟩) n cap x y PX (.slice A2 n2 cp2) (xs ++ [⟨x,y,PX⟩]):=HP.o.drawn ((tR V2).drawn nq);generalize V2.drewN nq=U at *;clear c0' c1x c1y c3 c4 f3 f4 d0 d1;(go_upto_region 12 with (fail));have hbl:∀q∈dI (.slice A2 n2 cp2),w.heap.size+5≤q:=fun q hq=>(P.own.2.2.lt q hq).1;have HB:=lh hbl;have hUl:=P.lt;obtain⟨c0',c1x,c1y,c3,c4,f3,f4⟩:=P.cells;have D0:Hid (∀u,bH (dI (.slice A2 n2 cp2)) U u→u.cell? ⟨w,0,none⟩=some (.slice (some ⟨g,o,none⟩) n cap)):=lh fun u T=>by rw [aA _ _ _ _ _ _ ((T.old _ (by omega) (fun hm=>by have:=HB.o _ hm;omega)).trans P.h0)];rfl
     have D1:Hid (∀u,bH (dI (.slice A2 n2 cp2)) U u→u.cell? ⟨w.heap.size+4,0,none⟩=some (.slice A2 n2 cp2)):=lh fun u T=>by rw [aA _ _ _ _ _ _ ((T.old _ (by omega) (fun hm=>by have:=HB.o _ hm;omega)).trans P.h4)];rfl
     have HLD:Hid (∀u,bH (dI (.slice A2 n2 cp2)) U u→(Instr.loadAt 171 (.pointer (some ⟨g,o+k*258,none⟩))).run prog u=.ok (.agg ⟨t.row⟩) u):=lh fun u T=>run_loadAt_mid u _ _ 171 _ _ (HR.o _ (fH P.t T (fun q hq=>by have:=HB.o q hq;omega))).2 underlying171 rfl (by rw [(jA HT.o).len];exact (zero_of_info oV).2);have HP:=lh P;have HRW:=lh (jA HT.o);clear P c0' c1x c1y c3 c4 f3 f4 hbl;refine cu.start (fun u=>bH (dI (.slice A2 n2 cp2)) U u) 10 (by kernel_rfl) ?_;have hS:=(bH.refl (dI (.slice A2 n2 cp2)) U).drawn 1;have P:lM w U.drew (some ⟨g,o,none⟩) n cap x y PX (.slice A2 n2 cp2) (xs ++ [⟨x,y,PX⟩]):=HP.o.drawn ((tR U).drawn 1);change bH (dI (.slice A2 n2 cp2)) U U.drew at hS;generalize U.drew=Y at *;have HP:=lh P;clear P;refine tk 0 (.pointer (some ⟨w.heap.size+4,0,none⟩)) ?_;go_frame;refine tk 1 ((.slice A2 n2 cp2)) ?_ (hy:=fun w' hw=>by have e1:=D1.out _ hw;go_simp);go_frame;refine tk 2 (.pointer (some ⟨w,0,none⟩)) ?_;go_frame;refine tk 3 (.slice (some ⟨g,o,none⟩) n cap) ?_ (hy:=fun w' hw=>by have e0:=D0.out _ hw;go_simp);go_frame;refine tk 4 k ?_;go_frame;refine tk 5 (.pointer (some ⟨g,o+k*258,none⟩)) ?_;go_frame;refine tk 6 (.agg ⟨t.row⟩) ?_ rfl (hy:=fun w' hw=>dw rfl rfl (HLD.o w' hw));go_frame;obtain⟨v2,u2,hap,P2,T2,c42,f42⟩:=HP.o.app t HT.o (by (try simp only [aO,List.length_singleton]);omega);obtain⟨A3,n3,cp3,rfl,_⟩:=P2.own.at;refine eH 7 fun K hK=>?_;refine bZ (d:=some 59) rfl (dV (y:=.agg ⟨t.row⟩) rfl rfl (nN HRW.o Y)) ?_;refine hK _ _ (fun _=>hS.alloc _) ?_;clear hK K;(try go_frame);refine eH 8 fun K hK=>?_;refine bZ (d:=some 60) rfl (dL (v:=(.slice A2 n2 cp2)) (y:=.slice (some ⟨Y,0,none⟩) 1 1) _ _ 85 rfl rfl rfl hap) ?_;refine hK _ _ (fun _=>hS.trans T2) ?_;clear hK K;(try go_frame);refine eH 9 fun K hK=>?_;refine bZ (d:=some 61) rfl (v:=.pointer (some ⟨w.heap.size+4,0,none⟩)) (u:=u2) (by go_simp) ?_;refine hK _ _ (fun _=>hS.trans T2) ?_;clear hK K;(try go_frame);refine iZ fun K hK=>?_;go_simp;refine hK _ _ ?_;clear hK K;(try go_frame);(go_wp2_with fail);go_roundw;case rel=>exact⟨true,k+1,_,_,by omega,rfl,by go_num,by (try simp only [aO,List.length_singleton]);omega,P2⟩
     case measure=>simp [intOf];omega
 obtain rfl:n=k:=by omega
 cases b with
 | true=>
  obtain⟨A9,n9,cp9,rfl,_⟩:=P.own.at;have HP:=lh P;clear P;go_wp2_with fail
  have P:=HP.o;have hT:=(P.own.setCell (w.heap.size+3) 0 (by omega) (.slice A9 n9 cp9)).at;obtain⟨A8,n8,cp8,h8,hT⟩:=hT;injection h8 with e1 e2 e3;subst e1;subst e2;subst e3;have hTT:=P.t.setCell (a:=⟨w.heap.size+3,0,none⟩) (.slice A9 n9 cp9) (.inr (by dsimp only;omega));exact ag (v:=.agg #[.slice A9 n9 cp9]) (by simp [results,results103,go_sem,c3]) rfl ⟨⟨_,_,_,_,rfl,hT⟩,hTT⟩
 | false=>
  have hlv:=HLO.o _ _ _ P;have hbd:=HBD.o wr;have HRX:=lh (jA (t:=⟨x,y,PX⟩) HOK.o);obtain⟨v2,u2,hap,P2,T2,c42,f42⟩:=P.app ⟨x,y,PX⟩ HOK.o (by omega);obtain⟨A9,n9,cp9,rfl,_⟩:=P2.own.at;have hsl:=nN HRX.o wr;have HP2:=lh P2;clear P P2 T2;go_upto_region 15 with (first
   | (refine fD rfl 66 (.tmp 5) rfl rfl hlv ?_;try go_frame)
   | (refine bQ rfl (oN (p:=.agg #[x,y]) (q:=.agg c1) rfl rfl rfl hbd) ?_;try go_frame)
   | (refine bQ rfl (dV (y:=.agg ⟨dC.row ⟨x,y,PX⟩⟩) rfl rfl hsl) ?_;try go_frame)
   | (refine bQ rfl (dL (v:=v) (y:=.slice (some ⟨wr,0,none⟩) 1 1) _ _ 85 rfl rfl rfl hap) ?_;try go_frame))
  have P:lM w (u2.setCell ⟨w.heap.size+4,0,none⟩ (.slice A9 n9 cp9)) A n cap x y PX (.slice A9 n9 cp9) (xs ++ [⟨x,y,PX⟩]):=HP2.o;clear c42 f42 c0' c1x c1y c3 c4 f3 f4 hlv hbd hsl hap HP2 HRX;generalize u2.setCell ⟨w.heap.size+4,0,none⟩ (.slice A9 n9 cp9)=V2 at *;obtain⟨c0',c1x,c1y,c3,c4,f3,f4⟩:=P.cells;have HP:=lh P;clear P;go_wp2_with fail
  have P:=HP.o;have hT:=(P.own.setCell (w.heap.size+3) 0 (by omega) (.slice A9 n9 cp9)).at;obtain⟨A8,n8,cp8,h8,hT⟩:=hT;injection h8 with e1 e2 e3;subst e1;subst e2;subst e3;have hTT:=P.t.setCell (a:=⟨w.heap.size+3,0,none⟩) (.slice A9 n9 cp9) (.inr (by dsimp only;omega));exact ag (v:=.agg #[.slice A9 n9 cp9]) (by simp [results,results103,go_sem,c3]) rfl ⟨⟨_,_,_,_,rfl,hT⟩,hTT⟩
theorem VC(px:List Int)(h:jo px)(i:Nat)(hi:i<64)(r g b a:Int)(hr:0≤r∧r≤255)(hg:0≤g∧g≤255)(hb:0≤b∧b≤255)(ha:0≤a∧a≤255): jo (px.take (4*i) ++ [r,g,b,a] ++ px.drop (4*i+4)):=by
 refine⟨?_,fun v hv=>?_⟩
 ·simp [h.1];omega
 rcases aV.1 hv with hv | hv
 ·rcases aV.1 hv with hv | hv
  ·exact h.2 v (List.mem_of_mem_take hv)
  simp only [aS,aW,or_false]at hv;rcases hv with rfl | rfl | rfl | rfl <;> assumption
 exact h.2 v (List.mem_of_mem_drop hv)
theorem QZ(px:List Int)(h:jo px)(x y r g b a:Int)(hr:0≤r∧r≤255)(hg:0≤g∧g≤255)(hb:0≤b∧b≤255)(ha:0≤a∧a≤255)(w:World):
  Calls prog 62 #[tv px,x,y,.agg #[.int .u8 r,.int .u8 g,.int .u8 b,.int .u8 a]] w fun e w'=>(∃px',jo px'∧e=.returned (tv px'))∧bH [] w w':=by
 have ha1:∀u:World,(Instr.alloc 66 true (.tuple #[])).run prog u=.ok (.pointer (some ⟨u,0,none⟩)) (u.alloc (.cells zeroCells66 66)):=fun u=>by have:=ww u;rwa [QQ]at this
 have hl:(px.map (Value.int .u8)).length=256:=by rw [aJ,h.1]
 obtain⟨W,hW⟩:∃W,W=((w.alloc (.cells ⟨px.map (Value.int .u8)⟩ 66)).alloc (.cells #[.int .u8 r,.int .u8 g,.int .u8 b,.int .u8 a] 64)).alloc (.cells zeroCells66 66):=⟨_,rfl⟩;have T0:bH [] w W:=hW ▸ ((((tR w).alloc _).alloc _).alloc _);have hWs:W.heap.size=w.heap.size+3:=by rw [hW];simp
 have hW0:W.heap[w.heap.size]?=some (.cells ⟨px.map (Value.int .u8)⟩ 66 (0,0)):=hW ▸ bO (bO bN);have hW1:W.heap[w.heap.size+1]?=some (.cells #[.int .u8 r,.int .u8 g,.int .u8 b,.int .u8 a] 64 (0,0)):=hW ▸ bO bN;have hW2:W.heap[w.heap.size+2]?=some (.cells zeroCells66 66 (0,0)):=hW ▸ bN;have p0:W.cell? ⟨w.heap.size+1,0,none⟩=some (.int .u8 r):=by rw [aA _ _ _ _ _ _ hW1];rfl
 have p1:W.cell? ⟨w.heap.size+1,1,none⟩=some (.int .u8 g):=by rw [aA _ _ _ _ _ _ hW1];rfl
 have p2:W.cell? ⟨w.heap.size+1,2,none⟩=some (.int .u8 b):=by rw [aA _ _ _ _ _ _ hW1];rfl
 have p3:W.cell? ⟨w.heap.size+1,3,none⟩=some (.int .u8 a):=by rw [aA _ _ _ _ _ _ hW1];rfl
 have HIN:=lh (Vx x y);have HEND:Hid (∀(u:World) (ps:List Int),bH [] w u→jo ps→u.heap[w.heap.size]?=some (.cells ⟨ps.map (Value.int .u8)⟩ 66 (0,0))→u.heap[w.heap.size+2]?=some (.cells zeroCells66 66 (0,0))→
   (loadVar 66 ⟨w,0,none⟩).run prog u=.ok (.agg ⟨ps.map (Value.int .u8)⟩) u∧(Instr.storeAt 66 (.pointer (some ⟨w.heap.size+2,0,none⟩)) (.agg ⟨ps.map (Value.int .u8)⟩)).run prog u=.ok () (u.setRow (w.heap.size+2) ⟨ps.map (Value.int .u8)⟩)∧
   (loadVar 66 ⟨w.heap.size+2,0,none⟩).run prog (u.setRow (w.heap.size+2) ⟨ps.map (Value.int .u8)⟩)=.ok (.agg ⟨ps.map (Value.int .u8)⟩) (u.setRow (w.heap.size+2) ⟨ps.map (Value.int .u8)⟩)∧bH [] w (u.setRow (w.heap.size+2) ⟨ps.map (Value.int .u8)⟩)):=lh fun u ps T hps h0 h2=>by
  have hi:(prog.info? 66).map (·.size)=some (⟨ps.map (Value.int .u8)⟩:Array Value).size:=by rw [iE];show some 256=some (ps.map (Value.int .u8)).length;rw [aJ,hps.1]
  have hr2:(u.setRow (w.heap.size+2) ⟨ps.map (Value.int .u8)⟩).heap[w.heap.size+2]?=some (.cells ⟨ps.map (Value.int .u8)⟩ 66 (0,0)):=by simp only [World.setRow,au,if_true,h2];rfl
  exact⟨run_loadVar_row (P:=prog) u w.heap.size 66 66 ⟨ps.map (Value.int .u8)⟩ (0,0) _ h0 underlying66 rfl hi,
   jV (ty:=66) h2 hi (by rw [←QQ,vX];show 256=(ps.map (Value.int .u8)).length;rw [aJ,hps.1]) (by simp [Value.oneCell']),
   run_loadVar_row (P:=prog) _ (w.heap.size+2) 66 66 ⟨ps.map (Value.int .u8)⟩ (0,0) _ hr2 underlying66 rfl hi,T.setRow _ (.inr (by omega))⟩
 unfold tv;by_cases hin:(0≤x∧x<8)∧0≤y∧y<8
 ·obtain⟨⟨h1,h2⟩,h3,h4⟩:=hin;have hq:(decide (0≤x) && decide (x<8) && decide (0≤y) && decide (y<8))=true:=by simp [h1,h2,h3,h4]
  rw [hq]at HIN;clear hq;obtain⟨i,hi⟩:∃i:Nat,8*y+x=(i:Int):=⟨(8*y+x).toNat,by omega⟩;have hi64:i<64:=by omega
  have hps:=xm (p:=[.int .u8 r,.int .u8 g,.int .u8 b,.int .u8 a]) (L:=px.map (Value.int .u8)) (L':=(px.take (4*i) ++ [r,g,b,a] ++ px.drop (4*i+4)).map (Value.int .u8)) hW0 hl rfl (by simp [Value.oneCell']) hi64 (by simp [List.map_take,List.map_drop]);have hok:=VC px h i hi64 r g b a hr hg hb ha;have oth:∀q c,q≠w.heap.size→(W.setRow w.heap.size c).heap[q]?=W.heap[q]?:=fun q c hq=>by simp only [World.setRow,au,Ne.symm hq,if_false]
  obtain⟨e1,e2,e3,e4⟩:=HEND.o _ _ (T0.setRow _ (.inr (aQ _))) hok (by simp only [World.setRow,au,if_true,hW0];rfl) ((oth _ _ (by omega)).trans hW2);have HT:=lh e4;have HOK:=lh hok;have d0:IntKind.i64.wrap (8*y+x)=(i:Int):=by rw [hi];simp [IntKind.wrap,IntKind.bits,IntKind.signed];omega
  clear h hok e4 oth hW0 hW1 hW2 hl HEND;generalize px.take (4*i) ++ [r,g,b,a] ++ px.drop (4*i+4)=ps at *;generalize hcs:(⟨ps.map (Value.int .u8)⟩:Array Value)=cs at *;have HCS:=lh hcs;clear hcs;generalize (⟨px.map (Value.int .u8)⟩:Array Value)=c0 at *;go_enter func62,ntmps62;go_upto_region 1 with (fail)
  rw [show w.heap.size+1+1=w.heap.size+2 from rfl,←hW];clear hW ha1;go_wp2_with (first
   | (go_at_call 104;refine (HIN.o _).mono ?_;rintro e w1 ⟨rfl,hw⟩;rw [hw];clear hw)
   | (refine fD rfl 66 (.tmp 4) rfl rfl e1 ?_;try go_frame)
   | (refine bU rfl 64 (.tmp 17) (.tmp 16) rfl rfl rfl hps ?_;try go_frame)
   | (refine bU rfl 66 (.tmp 8) (.tmp 18) rfl rfl rfl e2 ?_;try go_frame))
  refine ag (v:=.agg cs) ?_ rfl ⟨⟨_,HOK.o,by rw [HCS.o]⟩,HT.o⟩;simp [results,results62,asAddr,e3]
 have hq:(decide (0≤x) && decide (x<8) && decide (0≤y) && decide (y<8))=false:=by simp;omega
 rw [hq]at HIN;clear hq;obtain⟨e1,e2,e3,e4⟩:=HEND.o _ _ T0 h hW0 hW2;have HT:=lh e4;have HOK:=lh h;clear h e4 hW0 hW1 hW2 hl HEND hin;generalize hcs:(⟨px.map (Value.int .u8)⟩:Array Value)=cs at *;have HCS:=lh hcs;clear hcs;go_enter func62,ntmps62;go_upto_region 1 with (fail)
 rw [show w.heap.size+1+1=w.heap.size+2 from rfl,←hW];clear hW ha1;go_wp2_with (first
  | (go_at_call 104;refine (HIN.o _).mono ?_;rintro e w1 ⟨rfl,hw⟩;rw [hw];clear hw)
  | (refine fD rfl 66 (.tmp 4) rfl rfl e1 ?_;try go_frame)
  | (refine bU rfl 66 (.tmp 8) (.tmp 18) rfl rfl rfl e2 ?_;try go_frame))
 refine ag (v:=.agg cs) ?_ rfl ⟨⟨_,HOK.o,by rw [HCS.o]⟩,HT.o⟩;simp [results,results62,asAddr,e3]
def Thin(w:World)(c:Nat): Prop:=∃arr t fz,w.heap[c]?=some (.cells arr t fz)∧arr.size≤2
theorem Thin.setCell{w:World}{c:Nat}(h:Thin w c)(i:Nat)(v:Value): Thin (w.setCell ⟨c,i,none⟩ v) c:=by obtain⟨arr,t,fz,h1,h2⟩:=h;refine⟨arr.setIfInBounds i v,t,fz,?_,by simpa using h2⟩;simp only [World.setCell,au,if_true,h1];rfl
theorem dB.thin{w:World}{A:Option Addr}{n:Nat}{ts:List dC}(h:dB w A n ts){c:Nat}(hc:Thin w c)(i:Nat)(v:Value): dB (w.setCell ⟨c,i,none⟩ v) A n ts:=by
 refine⟨h.1,fun j t ht=>?_⟩;obtain⟨h1,g,o,h2,h3⟩:=h.2 j t ht;refine⟨h1,g,o,h2,?_⟩;have hg:g≠c:=by
  rintro rfl;obtain⟨arr,ty,fz,e1,e2⟩:=hc;have hl:2<t.row.length:=by simp [dC.row,h1.1]
  have:=h3 2 _ (aB hl);rw [aA _ _ _ _ _ _ e1,Array.getElem?_eq_none (by omega)]at this;cases this
 intro k u hu;rw [←h3 k u hu];have e:(w.setCell ⟨c,i,none⟩ v).heap[g]?=w.heap[g]?:=by simp only [World.setCell,au];rw [aF (Ne.symm hg)]
 simp only [World.cell?,e]
inductive O1(w:World): Ending→Prop where
 | mk (A:Option Addr) (n cap:Nat) (ts:List dC) (E:Int) (h:dB w A n ts):O1 w (.returned (.agg #[.slice A n cap,.int .i64 E]))
theorem Q8(ts0:List dC)(A:Option Addr)(n cap:Nat)(x y:Int)(px0:List Int)(hpx:jo px0)(w:World)(h:dB w A n ts0):
  Calls prog 61 #[.agg #[.slice A n cap],.agg #[.int .i64 x,.int .i64 y],tv px0] w fun e w'=>O1 w' e∧bH [] w w':=by
 have hIn:=BL x y;have hOf:=fun u (T:bH [] w u)=>PI ts0 A n cap u (h.turn T);have hPut:=fun (ts:List dC) A' n' cap' (hn:n'≤1024) u (hT:dB u A' n' ts)=>SV ts A' n' cap' hn x y px0 hpx u hT;have hMany:=Pi;have hlen0:(px0.map (Value.int .u8)).length=256:=by rw [aJ,hpx.1]
 obtain⟨W,hW⟩:∃W,W=(((w.alloc (.cells #[.slice A n cap] 87)).alloc (.cells #[.int .i64 x,.int .i64 y] 133)).alloc (.cells ⟨px0.map (Value.int .u8)⟩ 66)).alloc (.cells #[.slice none 0 0,.int .i64 0] 93):=⟨_,rfl⟩;have T0:bH [] w W:=hW ▸ (((((tR w).alloc _).alloc _).alloc _).alloc _);have hWs:W.heap.size=w.heap.size+4:=by rw [hW];simp
 have hW0:W.heap[w.heap.size]?=some (.cells #[.slice A n cap] 87 (0,0)):=hW ▸ bO (bO (bO bN));have hW1:W.heap[w.heap.size+1]?=some (.cells #[.int .i64 x,.int .i64 y] 133 (0,0)):=hW ▸ bO (bO bN);have hW2:W.heap[w.heap.size+2]?=some (.cells ⟨px0.map (Value.int .u8)⟩ 66 (0,0)):=hW ▸ bO bN;have hW3:W.heap[w.heap.size+3]?=some (.cells #[.slice none 0 0,.int .i64 0] 93 (0,0)):=hW ▸ bN;have q0:W.cell? ⟨w,0,none⟩=some (.slice A n cap):=by rw [aA _ _ _ _ _ _ hW0];rfl
 have q1:W.cell? ⟨w.heap.size+1,0,none⟩=some (.int .i64 x):=by rw [aA _ _ _ _ _ _ hW1];rfl
 have q2:W.cell? ⟨w.heap.size+1,1,none⟩=some (.int .i64 y):=by rw [aA _ _ _ _ _ _ hW1];rfl
 have z0:W.cell? ⟨w.heap.size+3,0,none⟩=some (.slice none 0 0):=by rw [aA _ _ _ _ _ _ hW3];rfl
 have z1:W.cell? ⟨w.heap.size+3,1,none⟩=some (.int .i64 0):=by rw [aA _ _ _ _ _ _ hW3];rfl
 have zf:∀i,W.frozen? ⟨w.heap.size+3,i,none⟩=false:=fun i=>by simp [World.frozen?,hW3]
 have HLO:Hid (∀u,bH [] W u→(Instr.loadAt 66 (.pointer (some ⟨w.heap.size+2,0,none⟩))).run prog u=.ok (tv px0) u):=lh fun u T=>
  run_loadVar_row (P:=prog) u (w.heap.size+2) 66 66 ⟨px0.map (Value.int .u8)⟩ (0,0) _ ((T.old _ (by omega) (by simp)).trans hW2) underlying66 rfl (by rw [iE];show some 256=some (px0.map (Value.int .u8)).length;rw [hlen0])
 have HTH:Hid (∀u,bH [] W u→Thin u (w.heap.size+3)):=lh fun u T=>⟨_,_,_,(T.old _ (by omega) (by simp)).trans hW3,by simp⟩;generalize (decide (-8192≤x) && decide (x≤8191) && decide (-8192≤y) && decide (y≤8191))=q at hIn;have HIN:=lh hIn;have HOF:=lh hOf;have HPU:=lh hPut;have HMA:=lh hMany;unfold tv at *;clear h hIn hOf hPut hMany hW0 hW1 hW2 hW3 hlen0 hpx;generalize (⟨px0.map (Value.int .u8)⟩:Array Value)=c0 at *;go_enter func61,ntmps61;go_upto_region 1 with (fail)
 rw [show w.heap.size+1+1=w.heap.size+2 from rfl,show w.heap.size+2+1=w.heap.size+3 from rfl,←hW];clear hW;cases q with
 | false=>
  go_upto_region 2 with (go_at_call 101;refine (HIN.o _).mono ?_;rintro e w1 ⟨rfl,ht1⟩)
  obtain⟨hc,hf⟩:=bY ht1;go_wp2_with fail
  have y0:=tq hc z0;have y1:=tq hc z1;exact ag (v:=.agg #[.slice none 0 0,.int .i64 1]) (by simp [results,results61,go_sem,y0,y1]) rfl ⟨.mk _ _ _ [] _ (nX _),((T0.trans ht1).sc).sc⟩
 | true=>
  go_upto_region 3 with (go_at_call 101;refine (HIN.o _).mono ?_;rintro e w1 ⟨rfl,ht1⟩)
  have D0:Hid (∀u,bH [] W u→u.cell? ⟨w,0,none⟩=some (.slice A n cap)):=lh fun u T=>by rw [(bY T).1 _ _ (ai q0)];exact q0
  have D1:Hid (∀u,bH [] W u→u.cell? ⟨w.heap.size+1,0,none⟩=some (.int .i64 x)):=lh fun u T=>by rw [(bY T).1 _ _ (ai q1)];exact q1
  have D2:Hid (∀u,bH [] W u→u.cell? ⟨w.heap.size+1,1,none⟩=some (.int .i64 y)):=lh fun u T=>by rw [(bY T).1 _ _ (ai q2)];exact q2
  refine cu.start (fun u=>bH [] W u) 6 (by kernel_rfl) ?_;have hS:=ht1.drawn 1;change bH [] W w1.drew at hS;generalize w1.drew=Y at *;clear ht1;refine tk 0 (.agg #[.slice A n cap]) ?_ (hy:=fun w' hw=>by have e0:=D0.out _ hw;go_simp);go_frame;refine tk 2 (.agg #[.int .i64 x,.int .i64 y]) ?_ (hy:=fun w' hw=>by have e1:=D1.out _ hw;have e2:=D2.out _ hw;go_simp);go_frame;refine tk 3 (.agg c0) ?_ rfl (hy:=fun w' hw=>dw rfl rfl (HLO.o w' hw));go_frame;refine eH 1 fun K hK=>?_;go_simp;refine (HOF.o _ (T0.trans hS)).mono ?_;rintro e w2 ⟨⟨A2,n2,cp2,ts2,rfl,hT2,hn2⟩,ht2⟩;have hS:=hS.trans ht2;clear ht2;refine hK _ _ (fun _=>hS) ?_;clear hK K;try go_frame
  refine eH 4 fun K hK=>?_;go_simp;refine (HPU.o ts2 A2 n2 cp2 hn2 _ hT2).mono ?_;rintro e w3 ⟨⟨A3,n3,cp3,ts3,rfl,hT3⟩,ht3⟩;have hS:=hS.trans ht3;clear ht3 hT2;refine hK _ _ (fun _=>hS) ?_;clear hK K;try go_frame
  refine eH 5 fun K hK=>?_;go_simp;refine (HMA.o A3 n3 cp3 _).mono ?_;rintro e w4 ⟨he,ht4⟩;have hS:=hS.trans ht4;have hT4:=hT3.turn ht4;obtain⟨A5,n5,cp5,ts5,E,rfl,hT5⟩:∃A5 n5 cp5 ts5 E,e=.returned (.agg #[.slice A5 n5 cp5,.int .i64 E])∧dB w4 A5 n5 ts5:=by
   rcases he with rfl | rfl
   ·exact⟨_,_,_,_,_,rfl,hT4⟩
   exact⟨_,_,_,[],_,rfl,nX _⟩
  clear ht4 hT3 hT4 he;refine hK _ _ (fun _=>hS) ?_;clear hK K;try go_frame
  obtain⟨hc,hf⟩:=bY hS;have HT5:=lh hT5;clear hT5;refine iZ fun K hK=>?_;have y0:=tq hc z0;have y1:=tq hc z1;go_simp;refine hK _ _ ?_;clear hK K;try go_frame
  go_wp2_with fail
  have hTT:bH [] w ((w4.setCell ⟨w.heap.size+3,0,none⟩ (.slice A5 n5 cp5)).setCell ⟨w.heap.size+3,1,none⟩ (.int .i64 E)):=((T0.trans hS).sc).sc;refine ag (v:=.agg #[.slice A5 n5 cp5,.int .i64 E]) (by simp [results,results61,go_sem,y0,y1]) rfl ⟨.mk _ _ _ ts5 _ ?_,hTT⟩;exact (HT5.o.thin (HTH.o _ hS) _ _).thin ((HTH.o _ hS).setCell _ _) _ _
end Go.Proofs.YtbpklgllihhgpaaGreat
