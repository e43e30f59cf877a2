import Derived.Test.YtbpklgllihhgpaaGreatA32
import Derived.Test.YtbpklgllihhgpaaGreatA47
import Derived.Test.YtbpklgllihhgpaaGreatA48
set_option maxRecDepth 100000
set_option maxHeartbeats 16000000
namespace Go.Proofs.YtbpklgllihhgpaaGreat
open Tryz Go.RowKit Go.Den
def df.rk(d:df)(x:Int): Nat:=(dP d.layers 2502 x).toNat
theorem yD(f:Int→Int): ∀(ps:List Int) (m:Int),m≤ps.foldl (fun m p=>max m (f p)) m∧∀p∈ps,f p≤ps.foldl (fun m p=>max m (f p)) m
 | [],m=>⟨Int.le_refl _,fun p hp=>by cases hp⟩
 | q :: ps,m=>by
  obtain⟨h1,h2⟩:=yD f ps (max m (f q));rw [List.foldl_cons];refine⟨by omega,fun p hp=>?_⟩;rcases aS.1 hp with rfl | hp
  ·omega
  exact h2 p hp
theorem Ir{ls:List bI}{x y:Int}(h:y∈eP ls x): ∃l,dh ls x=some l∧y∈fZ l:=by
 unfold eP at h;unfold dh;cases ha:mW (ls.map (·.id)) x with
 | none=>rw [ha]at h;simp at h
 | some k=>
  rw [ha]at h;simp only at h ⊢;cases hl:ls[k]? with
  | none=>rw [hl]at h;simp at h
  | some l=>rw [hl]at h;exact⟨l,rfl,h⟩
theorem KO{d:df}(ht:d.Tidy)(hs:oP d.layers)(hok:d.Ok)(hkn:∀l∈d.layers,l.Xh=l.kids.length){x y:Int}(h:y∈eP d.layers x): d.rk y<d.rk x:=by
 obtain⟨l,hl,hy⟩:=Ir h;obtain⟨k,_,hk,_⟩:=iD hl;have hm:=aH hk;have h24:l.kind=2∨l.kind=4:=by
  by_cases h4:l.kind=4
  ·exact .inr h4
  by_cases h2:l.kind=2
  ·exact .inl h2
  have h0:=(ht.lay l hm).Xq h2;rw [hkn l hm]at h0;unfold fZ at hy;rw [aF h4,List.eq_nil_of_length_eq_zero h0]at hy;cases hy
 have e:dP d.layers 2502 x=(fZ l).foldl (fun m p=>max m (dP d.layers 2501 p)) 0+1:=by rw [show (2502:Nat)=2501+1 from rfl];unfold dP;rw [hl];exact aG h24
 have h1:=(yD (dP d.layers 2501) (fZ l) 0).2 y hy;have h2:=uZ d.layers 2501 y (zk hs hok.acy y) 2502 (by omega);have h3:=(qN d.layers 2501 y).1;unfold df.rk;omega
theorem QP{ls:List bI}{a:Int}(h:(mW (ls.map (·.id)) a).isSome=true): ∃l,dh ls a=some l:=by
 unfold dh;cases ha:mW (ls.map (·.id)) a with
 | none=>rw [ha]at h;cases h
 | some k=>
  unfold mW at ha;rw [bi]at ha;obtain⟨h1,_⟩:=ha;rw [aJ]at h1;exact⟨ls[k],aB h1⟩
def Rc.Z(r:Rc): Prop:=r=Rc.zero∨r.InC
theorem qB:Rc.zero.Z:=.inl rfl
theorem LK(r:Rc): r.can.Z:=r.can_cases
theorem Rc.Z.can{r:Rc}(h:r.Z): r.can=r:=by
 rcases h with rfl | h
 ·rfl
 exact h.can
theorem Rc.Z.bd{r:Rc}(h:r.Z): r.bd:=by
 rcases h with rfl | h
 ·simp only [Rc.bd,Rc.zero];omega
 exact h.bd
theorem Rc.Z.empty{r:Rc}(h:r.Z)(he:r.empty=true): r=Rc.zero:=by
 rcases h with h | h
 ·exact h
 rw [h.full]at he;cases he
theorem Rc.Z.inc{r:Rc}(h:r.Z)(he:r.empty=false): r.InC:=by
 rcases h with rfl | h
 ·cases he
 exact h
theorem Rc.Z.norm{r:Rc}(h:r.Z): r.norm=r:=by
 unfold Rc.norm;by_cases he:r.empty=true
 ·rw [aG he,h.empty he]
 rw [aF he]
theorem PL{a b:Rc}(ha:a.Z)(hb:b.Z): (a.join b).Z:=by
 unfold Rc.join;by_cases he:a.empty=true
 ·rw [aG he,hb.norm];exact hb
 rw [aF he];by_cases hf:b.empty=true
 ·rw [aG hf];exact ha
 rw [aF hf];obtain⟨a0,a1,a2,b0,b1,b2⟩:=ha.inc (by simpa using he);obtain⟨c0,c1,c2,d0,d1,d2⟩:=hb.inc (by simpa using hf);exact .inr ⟨by simp only;omega,by simp only;omega,by simp only;omega,by simp only;omega,by simp only;omega,by simp only;omega⟩
theorem Wl{x y:Int}(hx:-65536≤x∧x≤65535)(hy:-65536≤y∧y≤65535): (one x y).Z:=by unfold one;exact .inr ⟨by simp only;omega,by simp only;omega,by simp only;omega,by simp only;omega,by simp only;omega,by simp only;omega⟩
theorem KU{t:dC}(hx:-8192≤t.x∧t.x≤8191)(hy:-8192≤t.y∧t.y≤8191){b:Rc}(hb:b.Z): ∀k,k≤64→(lC t b k).Z
 | 0,_=>hb
 | k+1,hk=>by
  have ih:=KU hx hy hb k (by omega);unfold lC;split
  ·exact PL ih (Wl (by omega) (by omega))
  exact ih
theorem JH{ts:List dC}(hb:eu ts=true): ∀i,(kH ts i).Z
 | 0=>qB
 | i+1=>by
  have ih:=JH hb i;unfold kH;cases h:ts[i]? with
  | none=>exact ih
  | some t=>
   obtain⟨hx,hy⟩:=uK hb h;exact KU hx hy ih 64 (aQ _)
def mJ(p:Af)(r:Rc): Rc:=if r.empty=true then Rc.zero else p.bnds r
theorem DT(p:Af)(hp:p.ok=true)(r:Rc)(hr:r.Z)(w:World): Calls prog 86 #[p.v,r.v] w fun e w'=>e=.returned (.tuple #[(mJ p r).v,(0:Int)])∧bH [] w w':=by
 unfold mJ;by_cases he:r.empty=true
 ·rw [aG he];exact Qu p hp r he w
 rw [aF he];exact RN p hp r (hr.inc (by simpa using he)) w
theorem G8(p:Af)(hp:p.ok=true)(r:Rc)(hr:r.Z)(w:World): Calls prog 92 #[p.v,r.v] w fun e w'=>e=.returned (.agg #[.int .i64 (mJ p r).x0,.int .i64 (mJ p r).y0,.int .i64 (mJ p r).x1,.int .i64 (mJ p r).y1,(0:Int)])∧bH [] w w':=by
 unfold mJ;by_cases he:r.empty=true
 ·rw [aG he];exact J4 p hp r he w
 rw [aF he];exact Nq p hp r (hr.inc (by simpa using he)) w
def bI.spread(l:bI)(a:Rc): Rc:=l.Xg.area (jC l.Xg l.ks l.cs) a 1
def jP(f:bI→Rc)(l:bI)(a:Rc): Rc:=if l.hidden=true then a else if l.kind=3 then (a.join (l.spread a)).can else a.join (f l)
def iW(f:bI→Rc)(ls:List bI): List Int→Rc→Rc
 | [],a=>a
 | id :: ks,a=>match dh ls id with
  | none=>iW f ls ks a
  | some l=>iW f ls ks (jP f l a)
def jG(ls:List bI): Nat→bI→Rc
 | 0,_=>Rc.zero
 | n+1,l=>if l.kind=1 then (mJ l.place (kH l.Xm l.tn)).can
  else if l.kind=5 then ((gY l.pts).meet (gY l.pts)).can
  else if l.kind=4 then (match dh ls l.of with
   | some m=>(mJ l.place (jG ls n m)).can
   | none=>Rc.zero)
  else iW (jG ls n) ls l.kids Rc.zero
theorem oD{f:bI→Rc}{ls:List bI}: ∀(ks:List Int) (a:Rc),(∀x∈ks,∀l,dh ls x=some l→(f l).Z)→a.Z→(iW f ls ks a).Z
 | [],a,_,ha=>ha
 | x :: ks,a,hf,ha=>by
  unfold iW;cases hl:dh ls x with
  | none=>exact oD ks a (fun y hy=>hf y (List.mem_cons_of_mem _ hy)) ha
  | some l=>
   refine oD ks _ (fun y hy=>hf y (List.mem_cons_of_mem _ hy)) ?_;unfold jP;split
   ·exact ha
   split
   ·exact LK _
   exact PL ha (hf x List.mem_cons_self l hl)
theorem lZ(ls:List bI): ∀(n:Nat) (l:bI),(jG ls n l).Z
 | 0,_=>qB
 | n+1,l=>by
  unfold jG;split
  ·exact LK _
  split
  ·exact LK _
  split
  ·cases dh ls l.of with
   | none=>exact qB
   | some m=>exact LK _
  exact oD _ _ (fun _ _ m _=>lZ ls n m) qB
def JW(ls:List bI)(id:Int): List Int:=match kE ls id with
 | some (p,k)=>(match dh ls p with
  | some q=>q.kids.take k
  | none=>[])
 | none=>[]
def uk(ls:List bI)(n:Nat)(l:bI): Rc:=if l.kind=3 then (l.spread (iW (jG ls n) ls (JW ls l.id) Rc.zero)).can else jG ls n l
theorem sZ(f:bI→Rc)(ls:List bI): ∀(ks:List Int) (x:Int) (l:bI) (a:Rc),dh ls x=some l→iW f ls (ks ++ [x]) a=jP f l (iW f ls ks a)
 | [],x,l,a,h=>by simp only [List.nil_append,iW,h]
 | y :: ks,x,l,a,h=>by
  rw [List.cons_append];unfold iW;cases dh ls y with
  | none=>exact sZ f ls ks x l a h
  | some m=>exact sZ f ls ks x l _ h
theorem GI{ks:List Int}{j:Nat}(h:j<ks.length): ks.take (j+1)=ks.take j ++ [ks.getD j 0]:=by rw [aT h];simp [List.getD,h]
structure IV(w wr:World)(d:df)(ty:TypeId)(q:Rc): Prop where
 t:bH [] w wr
 h0:wr.heap[w.heap.size]?=some (.cells #[.slice d.sA d.sn d.sc,d.root,d.next,.slice d.lA d.ln d.lc] ty (0,0))
 h1:wr.heap[w.heap.size+1]?=some (.cells (dZ Rc.zero) 24 (0,0))
 h2:wr.heap[w.heap.size+1+1]?=some (.cells (dZ q) 24 (0,0))
theorem IV.turn{w wr u:World}{d:df}{ty:TypeId}{q:Rc}(h:IV w wr d ty q)(T:bH [] wr u): IV w u d ty q:=
 ⟨h.t.trans T,T.ox h.h0,T.ox h.h1,T.ox h.h2⟩
theorem IV.set{w wr:World}{d:df}{ty:TypeId}{q m:Rc}(h:IV w wr d ty q): IV w ((((wr.setCell ⟨w.heap.size+1+1,0,none⟩ m.x0).setCell ⟨w.heap.size+1+1,1,none⟩ m.y0).setCell ⟨w.heap.size+1+1,2,none⟩ m.x1).setCell ⟨w.heap.size+1+1,3,none⟩ m.y1) d ty m:=by
 have a:∀i,w.heap.size≤(Addr.mk (w.heap.size+1+1) i none).block:=fun i=>by dsimp only;omega
 refine⟨(((h.t.setCell _ (.inr (a _))).setCell _ (.inr (a _))).setCell _ (.inr (a _))).setCell _ (.inr (a _)),?_,?_,KY h.h2⟩
 ·exact bW (bW (bW (bW h.h0 (by omega)) (by omega)) (by omega)) (by omega)
 exact bW (bW (bW (bW h.h1 (by omega)) (by omega)) (by omega)) (by omega)
theorem IV.dc{w wr:World}{d:df}{ty:TypeId}{q:Rc}(h:IV w wr d ty q): wr.cell? ⟨w,0,none⟩=some (.slice d.sA d.sn d.sc)∧wr.cell? ⟨w,1,none⟩=some (.int .i64 d.root)∧wr.cell? ⟨w,2,none⟩=some (.int .i64 d.next)∧wr.cell? ⟨w,3,none⟩=some (.slice d.lA d.ln d.lc):=
 ⟨bK h.h0 (i:=0) rfl,bK h.h0 (i:=1) rfl,bK h.h0 (i:=2) rfl,bK h.h0 (i:=3) rfl⟩
theorem IV.rc{w wr:World}{d:df}{ty:TypeId}{q:Rc}(h:IV w wr d ty q): wr.cell? ⟨w.heap.size+1+1,0,none⟩=some (.int .i64 q.x0)∧wr.cell? ⟨w.heap.size+1+1,1,none⟩=some (.int .i64 q.y0)∧wr.cell? ⟨w.heap.size+1+1,2,none⟩=some (.int .i64 q.x1)∧wr.cell? ⟨w.heap.size+1+1,3,none⟩=some (.int .i64 q.y1):=
 ⟨bK h.h2 (i:=0) rfl,bK h.h2 (i:=1) rfl,bK h.h2 (i:=2) rfl,bK h.h2 (i:=3) rfl⟩
theorem IV.zc{w wr:World}{d:df}{ty:TypeId}{q:Rc}(h:IV w wr d ty q): wr.cell? ⟨w.heap.size+1,0,none⟩=some (.int .i64 0)∧wr.cell? ⟨w.heap.size+1,1,none⟩=some (.int .i64 0)∧wr.cell? ⟨w.heap.size+1,2,none⟩=some (.int .i64 0)∧wr.cell? ⟨w.heap.size+1,3,none⟩=some (.int .i64 0):=
 ⟨bK h.h1 (i:=0) rfl,bK h.h1 (i:=1) rfl,bK h.h1 (i:=2) rfl,bK h.h1 (i:=3) rfl⟩
theorem BP{u:World}{c:Nat}{m:bI}(h:u.heap[c]?=some (.cells ⟨m.row⟩ 89 (0,0))): (Instr.loadAt 89 (.pointer (some ⟨c,0,none⟩))).run prog u=.ok (.agg ⟨m.row⟩) u:=
 run_loadAt_mid u c 0 89 m.row _ (fun j v hv=>by rw [aA _ _ _ _ 89 (0,0) h,Nat.zero_add];simpa using hv) underlying89 rfl (zero_of_info rX).2
theorem ve{u:World}{c:Nat}{m:bI}(h:u.heap[c]?=some (.cells ⟨m.row⟩ 89 (0,0))): u.cell? ⟨c,17,none⟩=some (.int .i64 m.Xg.kind)∧u.cell? ⟨c,18,none⟩=some (.int .i64 m.Xg.Xf)∧u.cell? ⟨c,19,none⟩=some (.slice m.Xg.kA m.Xg.kn m.Xg.kc)∧u.cell? ⟨c,20,none⟩=some (.int .i64 m.Xg.div)∧u.cell? ⟨c,21,none⟩=some (.int .i64 m.Xg.value)∧u.cell? ⟨c,22,none⟩=some (.slice m.Xg.cA m.Xg.cn m.Xg.cc):=
 ⟨bJ (i:=17) h rfl,bJ (i:=18) h rfl,bJ (i:=19) h rfl,bJ (i:=20) h rfl,bJ (i:=21) h rfl,bJ (i:=22) h rfl⟩
theorem yN{l m:bI}(h:l.Like m): m.spread=l.spread:=by unfold bI.Like at h;rw [h];rfl
theorem Rq{l m:bI}(h:l.Like m): m.hidden=l.hidden∧m.kind=l.kind:=by unfold bI.Like at h;rw [h];exact⟨rfl,rfl⟩
theorem BN{l m:bI}(h:l.Like m)(hg:jC l.Xg l.ks l.cs=true): jC m.Xg m.ks m.cs=true:=by unfold bI.Like at h;rw [h];exact hg
theorem yJ(d:df)(F:bI→Rc)(ks:List Int)(A:Option Addr)(n cap:Nat)(hn50:n≤50)(w:World)(hk:dn w A n ks)(hd:d.At w)(hth:∀l∈d.layers,l.Thin)
  (hex:∀x∈ks,∃l,dh d.layers x=some l) (hg3:∀x∈ks,∀l,dh d.layers x=some l→l.kind=3→jC l.Xg l.ks l.cs=true) (hFZ:∀l,(F l).Z)
  (hF:∀x∈ks,∀l,dh d.layers x=some l→l.kind≠3→∀m,l.Like m→∀u,bH [] w u→m.At u→Calls prog 52 #[d.v,m.v] u fun e w'=>e=.returned (F l).v∧bH [] u w') :
  Calls prog 89 #[d.v,.slice A n cap] w fun e w'=>e=.returned (iW F d.layers ks Rc.zero).v∧bH [] w w':=by
 have hn:=hk.1;have HLY:=lh fun (x:Int) (l:bI) (hl:dh d.layers x=some l) (u:World) (t:bH [] w u)=>wM d x l hl u [] (fun b hb=>absurd hb aW) (fun u' hs ho=>(hd.turn t).keepD fun q hq=>ho q hq (by simp)) hth;have HEX:=lh hex;have HG3:=lh hg3;have HFZ:=lh hFZ;have HFF:=lh hF;have HK:=lh hk;have HN:=lh hn;clear hk hd hth hex hg3 hF hn hFZ;obtain⟨W,hW⟩:∃W,W=((w.alloc (.cells #[.slice d.sA d.sn d.sc,d.root,d.next,.slice d.lA d.ln d.lc] 107)).alloc (.cells #[(0:Int),(0:Int),(0:Int),(0:Int)] 24)).alloc (.cells #[(0:Int),(0:Int),(0:Int),(0:Int)] 24):=⟨_,rfl⟩;have T0:bH [] w W:=hW ▸ (((tR w).alloc _).alloc _).alloc _;have x0:W.heap[w.heap.size]?=some (.cells #[.slice d.sA d.sn d.sc,d.root,d.next,.slice d.lA d.ln d.lc] 107 (0,0)):=hW ▸ bO (bO bN);have x1:W.heap[w.heap.size+1]?=some (.cells (dZ Rc.zero) 24 (0,0)):=hW ▸ bO bN;have x2:W.heap[w.heap.size+1+1]?=some (.cells (dZ Rc.zero) 24 (0,0)):=hW ▸ bN;have HP0:Hid (IV w W d 107 Rc.zero):=lh ⟨T0,x0,x1,x2⟩;have HAL:=lh gI;have HST:=lh gX;clear T0 x0 x1 x2;unfold df.v at *;go_enter func89,ntmps89;go_upto_region 2 with (fail)
 rw [←hW];clear hW;try simp only [aI]
 go_wp2_with fail
 go_loopw [11] (fun s11 wr=>∃k:Nat,k≤n∧s11=k∧IV w wr d 107 (iW F d.layers (ks.take k) Rc.zero)) (fun s11 _=>n - (intOf s11).toNat);case atStart=>exact⟨0,by omega,rfl,HP0.o⟩
 obtain⟨k,hkn,rfl,hP⟩:=hrel;by_cases hlt:k<n
 ·obtain⟨g,o,rfl,hc⟩:=(HK.o.turn hP.t).2 k hlt;have hkl:k<ks.length:=by have:=HN.o;omega
  have hmem:ks.getD k 0∈ks:=by simp only [List.getD,aB hkl,Option.getD_some];exact List.getElem_mem hkl
  obtain⟨l,hl⟩:=HEX.o _ hmem;have hstep:iW F d.layers (ks.take (k+1)) Rc.zero=jP F l (iW F d.layers (ks.take k) Rc.zero):=by rw [GI hkl];exact sZ F d.layers _ _ l _ hl
  have hZ:(iW F d.layers (ks.take k) Rc.zero).Z:=oD _ _ (fun _ _ m _=>HFZ.o m) qB;have hly:=HLY.o _ l hl;have hff:=HFF.o _ hmem l hl;have hg3:=HG3.o _ hmem l hl;have HLY2:=lh hly;have HFF2:=lh hff;have HG32:=lh hg3;have HSTEP:=lh hstep;have HZ:=lh hZ;have HP:=lh hP;have b0:(0:Int)≤(k:Int):=by omega
  have b1:(k:Int)<(n:Int):=by omega
  have b2:(k:Int)≤50:=by omega
  obtain⟨d0,d1,d2,d3⟩:=hP.dc;clear hly hff hg3 hmem hkl hl hstep hZ hP;generalize ks.getD k 0=x at *;generalize hq:iW F d.layers (ks.take k) Rc.zero=q at *;clear hq;go_upto_region 7 with (first
   | (go_at_call 80;refine (HLY2.o _ HP.o.t).mono ?_;rintro e w5 ⟨⟨m,hm,hst,rfl⟩,t5⟩)
   | (refine bQ rfl (di (t:=89) rfl (HAL.o _)) ?_;try go_frame)
   | (refine bU rfl 89 (.tmp 8) (.tmp 17) rfl rfl rfl (HST.o _ _) ?_;try go_frame))
  have TV:=t5.alloc (.cells ⟨m.row⟩ 89);have h8:=heap_alloc_new w5 (.cells ⟨m.row⟩ 89);have hP:=HP.o.turn TV;have hAt:m.At (w5.alloc (.cells ⟨m.row⟩ 89)):=(hst.turn ((tR w5).alloc _)).now;clear d0 d1 d2 d3 t5 TV hst HLY2 HP hc b0 b1;generalize w5.alloc (.cells ⟨m.row⟩ 89)=V at *;generalize w5.heap.size=b8 at *;clear w5;have y1:=bJ (i:=1) h8 (v:=m.kind) rfl;have y3:=bJ (i:=3) h8 (v:=.bool m.hidden) rfl;obtain⟨f1,f2⟩:=Rq hm;rw [f1]at y3;rw [f2]at y1;have HP:=lh hP;have HM:=lh hm;have HAT:=lh hAt;have H8:=lh h8;clear hP hm hAt h8 f1 f2;cases hh:l.hidden with
  | true=>
   rw [hh]at y3;have hs:=HSTEP.o;unfold jP at hs;rw [aG hh]at hs;have HS:=lh hs;clear hs hh;(go_wp2_with fail);go_roundw;case rel=>exact⟨k+1,by omega,by go_num,by rw [HS.o];exact HP.o⟩
   simp [intOf];omega
  | false=>
   rw [hh]at y3;by_cases hk3:l.kind=3
   ·have hs:=HSTEP.o;unfold jP at hs;rw [aF (by rw [hh];simp),aG hk3]at hs;rw [hk3]at y1;have hm2:=HM.o;have hsp:=fun u (t:bH [] V u)=>yH m.Xg m.ks m.cs (BN hm2 (HG32.o hk3)) q HZ.o.bd u ((HAT.o.turn t).ks) ((HAT.o.turn t).cs);have hspe:m.Xg.area (jC m.Xg m.ks m.cs) q 1=l.spread q:=congrFun (yN hm2) q;rw [hspe]at hsp;have hj:=xG q (l.spread q);have hcn:=pz (q.join (l.spread q));generalize l.spread q=sp at *;generalize q.join sp=jn at *;generalize jn.can=cc at *;unfold Fv.v Rc.v at hsp;unfold Rc.v at hj hcn;have HSP:=lh hsp;have HJ:=lh hj;have HC:=lh hcn;have HS:=lh hs;clear hsp hj hcn hspe hs hh hk3 hm2;(go_upto_region 9 with fail);clear y1 y3;refine sN 7 (tR V) fun Y hS=>?_;refine tk 0 (.agg #[q.x0,q.y0,q.x1,q.y1]) ?_ (hy:=by intro w' hw;obtain⟨r0,r1,r2,r3⟩:=(HP.o.turn hw).rc;go_simp);go_frame;refine tk 1 (.pointer (some ⟨b8,17,none⟩)) ?_;go_frame;refine tk 2 (.agg #[m.Xg.kind,m.Xg.Xf,.slice m.Xg.kA m.Xg.kn m.Xg.kc,m.Xg.div,m.Xg.value,.slice m.Xg.cA m.Xg.cn m.Xg.cc]) ?_ (hy:=by intro w' hw;obtain⟨g0,g1,g2,g3,g4,g5⟩:=ve (hw.ox H8.o);go_simp);go_frame;refine tk 3 (.agg #[q.x0,q.y0,q.x1,q.y1]) ?_ (hy:=by intro w' hw;obtain⟨r0,r1,r2,r3⟩:=(HP.o.turn hw).rc;go_simp);go_frame;refine eH 4 fun K hK=>?_;go_simp;(with_reducible refine (HSP.o _ hS).mono ?_);rintro e Y' ⟨rfl,ht⟩;replace hS:=hS.trans ht;refine hK _ _ (fun _=>hS) ?_;clear hK K ht Y;(try go_frame);obtain⟨Y,rfl⟩:∃Y,Y=Y':=⟨_,rfl⟩;refine eH 5 fun K hK=>?_;go_simp;(with_reducible refine (HJ.o _).mono ?_);rintro e Y' ⟨rfl,ht⟩;replace hS:=hS.trans ht;refine hK _ _ (fun _=>hS) ?_;clear hK K ht Y;(try go_frame);obtain⟨Y,rfl⟩:∃Y,Y=Y':=⟨_,rfl⟩;refine eH 6 fun K hK=>?_;go_simp;(with_reducible refine (HC.o _).mono ?_);rintro e Y' ⟨rfl,ht⟩;replace hS:=hS.trans ht;refine hK _ _ (fun _=>hS) ?_;clear hK K ht Y;(try go_frame);obtain⟨Y,rfl⟩:∃Y,Y=Y':=⟨_,rfl⟩;have HP3:=HP.o.turn hS;obtain⟨r0,r1,r2,r3⟩:=HP3.rc;have rf:=fun i=>dm HP3.h2 i;have HP4:=lh HP3;clear HP3;refine iZ fun K hK=>?_;go_simp;refine hK _ _ ?_;clear hK K;(try go_frame);clear r0 r1 r2 r3 rf hS;(go_wp2_with fail);go_roundw;case rel=>exact⟨k+1,by omega,by go_num,by rw [HS.o];exact HP4.o.set⟩
    simp [intOf];omega
   have hs:=HSTEP.o;unfold jP at hs;rw [aF (by rw [hh];simp),aF hk3]at hs;have har:=fun u (t:bH [] V u)=>HFF2.o hk3 m HM.o u (HP.o.t.trans t) (HAT.o.turn t);have hj:=xG q (F l);generalize F l=fl at *;generalize q.join fl=jn at *;unfold bI.v Rc.v at har;unfold Rc.v at hj;have HAR:=lh har;have HJ:=lh hj;have HS:=lh hs;clear har hj hs hh;(go_upto_region 6 with fail);clear y1 y3 hk3;refine sN 5 (tR V) fun Y hS=>?_;refine tk 0 (.agg #[q.x0,q.y0,q.x1,q.y1]) ?_ (hy:=by intro w' hw;obtain⟨r0,r1,r2,r3⟩:=(HP.o.turn hw).rc;go_simp);go_frame;refine tk 1 (.agg #[.slice d.sA d.sn d.sc,d.root,d.next,.slice d.lA d.ln d.lc]) ?_ (hy:=by intro w' hw;obtain⟨d0,d1,d2,d3⟩:=(HP.o.turn hw).dc;go_simp);go_frame;refine tk 2 (.agg ⟨m.row⟩) ?_ rfl (hy:=fun w' hw=>dw rfl rfl (BP (hw.ox H8.o)));go_frame;refine eH 3 fun K hK=>?_;go_simp;(with_reducible refine (HAR.o _ hS).mono ?_);rintro e Y' ⟨rfl,ht⟩;replace hS:=hS.trans ht;refine hK _ _ (fun _=>hS) ?_;clear hK K ht Y;(try go_frame);obtain⟨Y,rfl⟩:∃Y,Y=Y':=⟨_,rfl⟩;refine eH 4 fun K hK=>?_;go_simp;(with_reducible refine (HJ.o _).mono ?_);rintro e Y' ⟨rfl,ht⟩;replace hS:=hS.trans ht;refine hK _ _ (fun _=>hS) ?_;clear hK K ht Y;(try go_frame);obtain⟨Y,rfl⟩:∃Y,Y=Y':=⟨_,rfl⟩;have HP3:=HP.o.turn hS;obtain⟨r0,r1,r2,r3⟩:=HP3.rc;have rf:=fun i=>dm HP3.h2 i;have HP4:=lh HP3;clear HP3;refine iZ fun K hK=>?_;go_simp;refine hK _ _ ?_;clear hK K;(try go_frame);clear r0 r1 r2 r3 rf hS;(go_wp2_with fail);go_roundw;case rel=>exact⟨k+1,by omega,by go_num,by rw [HS.o];exact HP4.o.set⟩
   simp [intOf];omega
 obtain rfl:k=n:=by omega
 rw [aY (by have:=HN.o;omega)]at hP;generalize hq:iW F d.layers ks Rc.zero=q at *;have HQ:=lh hq;obtain⟨r0,r1,r2,r3⟩:=hP.rc;obtain⟨z0,z1,z2,z3⟩:=hP.zc;have zf:=fun i=>dm hP.h1 i;have HT:=lh hP.t;clear hP hq;go_wp2_with fail
 exact ag (v:=q.v) (by simp [results,results89,go_sem,z0,z1,z2,z3];rfl) rfl ⟨by rw [HQ.o],(((HT.o.sc).sc).sc).sc⟩
structure JV(w wr:World)(d:df)(ty:TypeId)(m:bI)(q:Rc): Prop where
 t:bH [] w wr
 h0:wr.heap[w.heap.size]?=some (.cells #[.slice d.sA d.sn d.sc,d.root,d.next,.slice d.lA d.ln d.lc] ty (0,0))
 hl:wr.heap[w.heap.size+1]?=some (.cells ⟨m.row⟩ 89 (0,0))
 h1:wr.heap[w.heap.size+1+1]?=some (.cells (dZ Rc.zero) 24 (0,0))
 h2:wr.heap[w.heap.size+1+1+1]?=some (.cells (dZ q) 24 (0,0))
theorem JV.turn{w wr u:World}{d:df}{ty:TypeId}{m:bI}{q:Rc}(h:JV w wr d ty m q)(T:bH [] wr u): JV w u d ty m q:=
 ⟨h.t.trans T,T.ox h.h0,T.ox h.hl,T.ox h.h1,T.ox h.h2⟩
theorem JV.set{w wr:World}{d:df}{ty:TypeId}{m:bI}{q a:Rc}(h:JV w wr d ty m q): JV w ((((wr.setCell ⟨w.heap.size+1+1+1,0,none⟩ a.x0).setCell ⟨w.heap.size+1+1+1,1,none⟩ a.y0).setCell ⟨w.heap.size+1+1+1,2,none⟩ a.x1).setCell ⟨w.heap.size+1+1+1,3,none⟩ a.y1) d ty m a:=by
 have b:∀i,w.heap.size≤(Addr.mk (w.heap.size+1+1+1) i none).block:=fun i=>by dsimp only;omega
 refine⟨(((h.t.setCell _ (.inr (b _))).setCell _ (.inr (b _))).setCell _ (.inr (b _))).setCell _ (.inr (b _)),?_,?_,?_,KY h.h2⟩
 ·exact bW (bW (bW (bW h.h0 (by omega)) (by omega)) (by omega)) (by omega)
 ·exact bW (bW (bW (bW h.hl (by omega)) (by omega)) (by omega)) (by omega)
 exact bW (bW (bW (bW h.h1 (by omega)) (by omega)) (by omega)) (by omega)
theorem JV.dc{w wr:World}{d:df}{ty:TypeId}{m:bI}{q:Rc}(h:JV w wr d ty m q): wr.cell? ⟨w,0,none⟩=some (.slice d.sA d.sn d.sc)∧wr.cell? ⟨w,1,none⟩=some (.int .i64 d.root)∧wr.cell? ⟨w,2,none⟩=some (.int .i64 d.next)∧wr.cell? ⟨w,3,none⟩=some (.slice d.lA d.ln d.lc):=
 ⟨bK h.h0 (i:=0) rfl,bK h.h0 (i:=1) rfl,bK h.h0 (i:=2) rfl,bK h.h0 (i:=3) rfl⟩
theorem JV.part{w wr u:World}{d:df}{ty:TypeId}{m:bI}{q:Rc}(h:JV w wr d ty m q)(T:bH [w.heap.size+1+1+1] wr u): u.heap[w.heap.size]?=some (.cells #[.slice d.sA d.sn d.sc,d.root,d.next,.slice d.lA d.ln d.lc] ty (0,0))∧u.heap[w.heap.size+1]?=some (.cells ⟨m.row⟩ 89 (0,0)):=
 ⟨(T.old _ (ae.1 h.h0).1 (by simp;omega)).trans h.h0,(T.old _ (ae.1 h.hl).1 (by simp)).trans h.hl⟩
theorem iw{u:World}{c:Nat}{d:df}{ty:TypeId}(h:u.heap[c]?=some (.cells #[.slice d.sA d.sn d.sc,d.root,d.next,.slice d.lA d.ln d.lc] ty (0,0))): u.cell? ⟨c,0,none⟩=some (.slice d.sA d.sn d.sc)∧u.cell? ⟨c,1,none⟩=some (.int .i64 d.root)∧u.cell? ⟨c,2,none⟩=some (.int .i64 d.next)∧u.cell? ⟨c,3,none⟩=some (.slice d.lA d.ln d.lc):=
 ⟨bK h (i:=0) rfl,bK h (i:=1) rfl,bK h (i:=2) rfl,bK h (i:=3) rfl⟩
theorem eG{u:World}{c:Nat}{q:Rc}(h:u.heap[c]?=some (.cells (dZ q) 24 (0,0))): u.cell? ⟨c,0,none⟩=some (.int .i64 q.x0)∧u.cell? ⟨c,1,none⟩=some (.int .i64 q.y0)∧u.cell? ⟨c,2,none⟩=some (.int .i64 q.x1)∧u.cell? ⟨c,3,none⟩=some (.int .i64 q.y1):=
 ⟨bK h (i:=0) rfl,bK h (i:=1) rfl,bK h (i:=2) rfl,bK h (i:=3) rfl⟩
theorem vg{u:World}{c:Nat}{m:bI}(h:u.heap[c]?=some (.cells ⟨m.row⟩ 89 (0,0))): u.cell? ⟨c,7,none⟩=some (.int .i64 m.place.a)∧u.cell? ⟨c,8,none⟩=some (.int .i64 m.place.b)∧u.cell? ⟨c,9,none⟩=some (.int .i64 m.place.c)∧u.cell? ⟨c,10,none⟩=some (.int .i64 m.place.d)∧u.cell? ⟨c,11,none⟩=some (.int .i64 m.place.e)∧u.cell? ⟨c,12,none⟩=some (.int .i64 m.place.f)∧u.cell? ⟨c,13,none⟩=some (.int .i64 m.place.den):=
 ⟨bJ (i:=7) h rfl,bJ (i:=8) h rfl,bJ (i:=9) h rfl,bJ (i:=10) h rfl,bJ (i:=11) h rfl,bJ (i:=12) h rfl,bJ (i:=13) h rfl⟩
theorem Vd(d:df)(m:bI)(w:World)(hk:m.kind=1)(hp:m.place.ok=true)(hr:eu m.Xm=true)(hm:m.At w):
  Calls prog 52 #[d.v,m.v] w fun e w'=>e=.returned ((mJ m.place (kH m.Xm m.tn)).can).v∧bH [] w w':=by
 have hb:=fun u (t:bH [] w u)=>Fz m.Xm hr m.tA m.tn m.tc u (hm.Xm.turn t);have hb2:=DT m.place hp (kH m.Xm m.tn) (JH hr m.tn);have hc:=pz (mJ m.place (kH m.Xm m.tn));generalize (mJ m.place (kH m.Xm m.tn)).can=cc at *;generalize mJ m.place (kH m.Xm m.tn)=q at *;generalize kH m.Xm m.tn=q0 at *;simp only [Rc.v,Af.v]at hb hb2 hc;have HB:=lh hb;have HB2:=lh hb2;have HC:=lh hc;obtain⟨W,hW⟩:∃W,W=(((w.alloc (.cells #[.slice d.sA d.sn d.sc,d.root,d.next,.slice d.lA d.ln d.lc] 107)).alloc (.cells ⟨m.row⟩ 89)).alloc (.cells #[(0:Int),(0:Int),(0:Int),(0:Int)] 24)).alloc (.cells #[(0:Int),(0:Int),(0:Int),(0:Int)] 24):=⟨_,rfl⟩;have T0:bH [] w W:=hW ▸ ((((tR w).alloc _).alloc _).alloc _).alloc _;have x0:W.heap[w.heap.size]?=some (.cells #[.slice d.sA d.sn d.sc,d.root,d.next,.slice d.lA d.ln d.lc] 107 (0,0)):=hW ▸ bO (bO (bO bN));have xl:W.heap[w.heap.size+1]?=some (.cells ⟨m.row⟩ 89 (0,0)):=hW ▸ bO (bO bN);have x1:W.heap[w.heap.size+1+1]?=some (.cells (dZ Rc.zero) 24 (0,0)):=hW ▸ bO bN;have x2:W.heap[w.heap.size+1+1+1]?=some (.cells (dZ Rc.zero) 24 (0,0)):=hW ▸ bN;have HP:Hid (JV w W d 107 m Rc.zero):=lh ⟨T0,x0,xl,x1,x2⟩;have y1:=bJ (i:=1) xl (v:=m.kind) rfl;rw [hk]at y1;clear T0 x0 xl x1 x2 hk hb hb2 hc hp hr hm;unfold df.v bI.v at *;go_enter func52,ntmps52;go_upto_region 2 with (fail)
 rw [←hW];clear hW;try simp only [aI]
 go_upto_region 4 with fail
 clear y1;refine cu.start (fun w'=>bH [w.heap.size+1+1+1] W w') 9 (by kernel_rfl) ?_;have hS:bH [] W W.drew:=(tR W).drawn 1;generalize W.drew=Y at *;refine tk 0 (.pointer (some ⟨w.heap.size+1,7,none⟩)) ?_ (hS:=hS.mono (by simp));go_frame;refine tk 1 (.agg #[m.place.a,m.place.b,m.place.c,m.place.d,m.place.e,m.place.f,m.place.den]) ?_ (hy:=by intro w' hw;obtain⟨a0,a1,a2,a3,a4,a5,a6⟩:=vg (HP.o.part hw).2;go_simp) (hS:=hS.mono (by simp));go_frame;refine tk 2 (.pointer (some ⟨w.heap.size+1,28,none⟩)) ?_ (hS:=hS.mono (by simp));go_frame;refine tk 3 (.agg #[.slice m.tA m.tn m.tc]) ?_ (hy:=by intro w' hw;have y:=bJ (i:=28) (HP.o.part hw).2 (v:=.slice m.tA m.tn m.tc) rfl;go_simp) (hS:=hS.mono (by simp));go_frame;refine eH 4 fun K hK=>?_;go_simp;(with_reducible refine (HB.o _ (HP.o.t.trans hS)).mono ?_);rintro e Y' ⟨rfl,ht⟩;replace hS:=hS.trans ht;refine hK _ _ (fun _=>hS.mono (by simp)) ?_;clear hK K;try go_frame
 clear ht Y;obtain⟨Y,rfl⟩:∃Y,Y=Y':=⟨_,rfl⟩;refine eH 5 fun K hK=>?_;go_simp;(with_reducible refine (HB2.o _).mono ?_);rintro e Y' ⟨rfl,ht⟩;replace hS:=hS.trans ht;refine hK _ _ (fun _=>hS.mono (by simp)) ?_;clear hK K;try go_frame
 clear ht Y;obtain⟨Y,rfl⟩:∃Y,Y=Y':=⟨_,rfl⟩;refine tk 6 (.tuple #[.agg #[q.x0,q.y0,q.x1,q.y1],(0:Int)]) ?_ (hS:=hS.mono (by simp));go_frame;refine tk 7 (.agg #[q.x0,q.y0,q.x1,q.y1]) ?_ (hS:=hS.mono (by simp));go_frame;have hP2:=HP.o.turn hS;obtain⟨r0,r1,r2,r3⟩:=eG hP2.h2;have rf:=fun i=>dm hP2.h2 i;have HP2:=lh hP2;clear hP2;refine cu.two (i:=8) (j:=9) rfl rfl (by kernel_rfl) rfl rfl (fun K hK=>?_) (fun K hK=>?_)
 ·go_simp;refine hK _ _ (fun _=>hS.mono (by simp)) ?_;clear hK K;try go_frame
  refine iZ fun K hK=>?_;go_simp;refine hK _ _ ?_;clear hK K;try go_frame
  clear r0 r1 r2 r3 rf hS;go_upto_region 13 with fail
  have hP3:=HP2.o.set (a:=q);generalize (((Y.setCell ⟨w.heap.size+1+1+1,0,none⟩ q.x0).setCell ⟨w.heap.size+1+1+1,1,none⟩ q.y0).setCell ⟨w.heap.size+1+1+1,2,none⟩ q.x1).setCell ⟨w.heap.size+1+1+1,3,none⟩ q.y1=Z at *;obtain⟨r0,r1,r2,r3⟩:=eG hP3.h2;have HP3:=lh hP3;clear hP3 HP2;go_wp2_with (go_at_call 40;(with_reducible refine (HC.o _).mono ?_);rintro e w9 ⟨rfl,ht9⟩;have hP9:=HP3.o.turn ht9;obtain⟨z0,z1,z2,z3⟩:=eG hP9.h1;have zf:=(fun i=>dm hP9.h1 i);have HT9:=lh hP9.t;clear hP9)
  exact ag (v:=.agg #[cc.x0,cc.y0,cc.x1,cc.y1]) (by simp [results,results52,go_sem,z0,z1,z2,z3]) rfl ⟨rfl,(((HT9.o.sc).sc).sc).sc⟩
 go_simp;refine hK _ _ (fun h=>absurd rfl h) ?_;clear hK K;try go_frame
 refine eH 8 fun K hK=>?_;go_simp;refine hK _ _ (fun _=>((((hS.mono (by simp)).setCell _ (.inl (by simp))).setCell _ (.inl (by simp))).setCell _ (.inl (by simp))).setCell _ (.inl (by simp))) ?_;clear hK K;try go_frame
 refine Wy ?_;clear r0 r1 r2 r3 rf hS;go_upto_region 13 with fail
 have hP3:=HP2.o.set (a:=q);generalize (((Y.setCell ⟨w.heap.size+1+1+1,0,none⟩ q.x0).setCell ⟨w.heap.size+1+1+1,1,none⟩ q.y0).setCell ⟨w.heap.size+1+1+1,2,none⟩ q.x1).setCell ⟨w.heap.size+1+1+1,3,none⟩ q.y1=Z at *;obtain⟨r0,r1,r2,r3⟩:=eG hP3.h2;have HP3:=lh hP3;clear hP3 HP2;go_wp2_with (go_at_call 40;(with_reducible refine (HC.o _).mono ?_);rintro e w9 ⟨rfl,ht9⟩;have hP9:=HP3.o.turn ht9;obtain⟨z0,z1,z2,z3⟩:=eG hP9.h1;have zf:=(fun i=>dm hP9.h1 i);have HT9:=lh hP9.t;clear hP9)
 exact ag (v:=.agg #[cc.x0,cc.y0,cc.x1,cc.y1]) (by simp [results,results52,go_sem,z0,z1,z2,z3]) rfl ⟨rfl,(((HT9.o.sc).sc).sc).sc⟩
theorem Vu(d:df)(m:bI)(w:World)(hk:m.kind=4)(hp:m.place.ok=true)(a:Rc)(ha:a.Z)(l2:bI)(hly:∀u,bH [] w u→Calls prog 80 #[d.v,m.of] u fun e w'=>(∃m2,l2.Like m2∧gG [] w' (fun u=>m2.At u)∧e=.returned m2.v)∧bH [] u w')(har:∀m2 u,l2.Like m2→bH [] w u→m2.At u→Calls prog 52 #[d.v,m2.v] u fun e w'=>e=.returned a.v∧bH [] u w'):
  Calls prog 52 #[d.v,m.v] w fun e w'=>e=.returned ((mJ m.place a).can).v∧bH [] w w':=by
 have hb2:=DT m.place hp a ha;have hc:=pz (mJ m.place a);generalize (mJ m.place a).can=cc at *;generalize mJ m.place a=q at *;simp only [Rc.v,Af.v,df.v,bI.v]at hb2 hc hly har;have HLY:=lh hly;have HAR:=lh har;have HB2:=lh hb2;have HC:=lh hc;obtain⟨W,hW⟩:∃W,W=(((w.alloc (.cells #[.slice d.sA d.sn d.sc,d.root,d.next,.slice d.lA d.ln d.lc] 107)).alloc (.cells ⟨m.row⟩ 89)).alloc (.cells #[(0:Int),(0:Int),(0:Int),(0:Int)] 24)).alloc (.cells #[(0:Int),(0:Int),(0:Int),(0:Int)] 24):=⟨_,rfl⟩;have T0:bH [] w W:=hW ▸ ((((tR w).alloc _).alloc _).alloc _).alloc _;have x0:W.heap[w.heap.size]?=some (.cells #[.slice d.sA d.sn d.sc,d.root,d.next,.slice d.lA d.ln d.lc] 107 (0,0)):=hW ▸ bO (bO (bO bN));have xl:W.heap[w.heap.size+1]?=some (.cells ⟨m.row⟩ 89 (0,0)):=hW ▸ bO (bO bN);have x1:W.heap[w.heap.size+1+1]?=some (.cells (dZ Rc.zero) 24 (0,0)):=hW ▸ bO bN;have x2:W.heap[w.heap.size+1+1+1]?=some (.cells (dZ Rc.zero) 24 (0,0)):=hW ▸ bN;have HP:Hid (JV w W d 107 m Rc.zero):=lh ⟨T0,x0,xl,x1,x2⟩;have y1:=bJ (i:=1) xl (v:=m.kind) rfl;rw [hk]at y1;clear T0 x0 xl x1 x2 hk hb2 hc hp ha hly har;unfold df.v bI.v at *;go_enter func52,ntmps52;go_upto_region 2 with (fail)
 rw [←hW];clear hW;try simp only [aI]
 go_upto_region 8 with fail
 clear y1;refine cu.start (fun w'=>bH [w.heap.size+1+1+1] W w') 12 (by kernel_rfl) ?_;have hS:bH [] W W.drew:=(tR W).drawn 1;generalize W.drew=Y at *;refine tk 0 (.pointer (some ⟨w.heap.size+1,7,none⟩)) ?_ (hS:=hS.mono (by simp));go_frame;refine tk 1 (.agg #[m.place.a,m.place.b,m.place.c,m.place.d,m.place.e,m.place.f,m.place.den]) ?_ (hy:=by intro w' hw;obtain⟨a0,a1,a2,a3,a4,a5,a6⟩:=vg (HP.o.part hw).2;go_simp) (hS:=hS.mono (by simp));go_frame;refine tk 2 (.agg #[.slice d.sA d.sn d.sc,d.root,d.next,.slice d.lA d.ln d.lc]) ?_ (hy:=by intro w' hw;obtain⟨d0,d1,d2,d3⟩:=iw (HP.o.part hw).1;go_simp) (hS:=hS.mono (by simp));go_frame;refine tk 3 (.agg #[.slice d.sA d.sn d.sc,d.root,d.next,.slice d.lA d.ln d.lc]) ?_ (hy:=by intro w' hw;obtain⟨d0,d1,d2,d3⟩:=iw (HP.o.part hw).1;go_simp) (hS:=hS.mono (by simp));go_frame;refine tk 4 (.pointer (some ⟨w.heap.size+1,16,none⟩)) ?_ (hS:=hS.mono (by simp));go_frame;refine tk 5 m.of ?_ (hy:=by intro w' hw;have y:=bJ (i:=16) (HP.o.part hw).2 (v:=m.of) rfl;go_simp) (hS:=hS.mono (by simp));go_frame;refine eH 6 fun K hK=>?_;go_simp;(with_reducible refine (HLY.o _ (HP.o.t.trans hS)).mono ?_);rintro e Y' ⟨⟨m2,hlk,hst,rfl⟩,ht⟩;replace hS:=hS.trans ht;refine hK _ _ (fun _=>hS.mono (by simp)) ?_;clear hK K;try go_frame
 have HA2:=lh (bg hlk hst.now);clear hlk hst;clear ht Y;obtain⟨Y,rfl⟩:∃Y,Y=Y':=⟨_,rfl⟩;refine eH 7 fun K hK=>?_;go_simp;(with_reducible refine (HAR.o m2 _ HA2.o.1 (HP.o.t.trans hS) HA2.o.2).mono ?_);rintro e Y' ⟨rfl,ht⟩;replace hS:=hS.trans ht;refine hK _ _ (fun _=>hS.mono (by simp)) ?_;clear hK K;try go_frame
 clear ht;obtain⟨Y,rfl⟩:∃Y,Y=Y':=⟨_,rfl⟩;refine eH 8 fun K hK=>?_;go_simp;(with_reducible refine (HB2.o _).mono ?_);rintro e Y' ⟨rfl,ht⟩;replace hS:=hS.trans ht;refine hK _ _ (fun _=>hS.mono (by simp)) ?_;clear hK K;try go_frame
 clear ht Y;obtain⟨Y,rfl⟩:∃Y,Y=Y':=⟨_,rfl⟩;refine tk 9 (.tuple #[.agg #[q.x0,q.y0,q.x1,q.y1],(0:Int)]) ?_ (hS:=hS.mono (by simp));go_frame;refine tk 10 (.agg #[q.x0,q.y0,q.x1,q.y1]) ?_ (hS:=hS.mono (by simp));go_frame;have hP2:=HP.o.turn hS;obtain⟨r0,r1,r2,r3⟩:=eG hP2.h2;have rf:=fun i=>dm hP2.h2 i;have HP2:=lh hP2;clear hP2;refine cu.two (i:=11) (j:=12) rfl rfl (by kernel_rfl) rfl rfl (fun K hK=>?_) (fun K hK=>?_)
 ·go_simp;refine hK _ _ (fun _=>hS.mono (by simp)) ?_;clear hK K;try go_frame
  refine iZ fun K hK=>?_;go_simp;refine hK _ _ ?_;clear hK K;try go_frame
  clear r0 r1 r2 r3 rf hS;go_upto_region 13 with fail
  have hP3:=HP2.o.set (a:=q);generalize (((Y.setCell ⟨w.heap.size+1+1+1,0,none⟩ q.x0).setCell ⟨w.heap.size+1+1+1,1,none⟩ q.y0).setCell ⟨w.heap.size+1+1+1,2,none⟩ q.x1).setCell ⟨w.heap.size+1+1+1,3,none⟩ q.y1=Z at *;obtain⟨r0,r1,r2,r3⟩:=eG hP3.h2;have HP3:=lh hP3;clear hP3 HP2;go_wp2_with (go_at_call 40;(with_reducible refine (HC.o _).mono ?_);rintro e w9 ⟨rfl,ht9⟩;have hP9:=HP3.o.turn ht9;obtain⟨z0,z1,z2,z3⟩:=eG hP9.h1;have zf:=(fun i=>dm hP9.h1 i);have HT9:=lh hP9.t;clear hP9)
  exact ag (v:=.agg #[cc.x0,cc.y0,cc.x1,cc.y1]) (by simp [results,results52,go_sem,z0,z1,z2,z3]) rfl ⟨rfl,(((HT9.o.sc).sc).sc).sc⟩
 go_simp;refine hK _ _ (fun h=>absurd rfl h) ?_;clear hK K;try go_frame
 refine eH 11 fun K hK=>?_;go_simp;refine hK _ _ (fun _=>((((hS.mono (by simp)).setCell _ (.inl (by simp))).setCell _ (.inl (by simp))).setCell _ (.inl (by simp))).setCell _ (.inl (by simp))) ?_;clear hK K;try go_frame
 refine Wy ?_;clear r0 r1 r2 r3 rf hS;go_upto_region 13 with fail
 have hP3:=HP2.o.set (a:=q);generalize (((Y.setCell ⟨w.heap.size+1+1+1,0,none⟩ q.x0).setCell ⟨w.heap.size+1+1+1,1,none⟩ q.y0).setCell ⟨w.heap.size+1+1+1,2,none⟩ q.x1).setCell ⟨w.heap.size+1+1+1,3,none⟩ q.y1=Z at *;obtain⟨r0,r1,r2,r3⟩:=eG hP3.h2;have HP3:=lh hP3;clear hP3 HP2;go_wp2_with (go_at_call 40;(with_reducible refine (HC.o _).mono ?_);rintro e w9 ⟨rfl,ht9⟩;have hP9:=HP3.o.turn ht9;obtain⟨z0,z1,z2,z3⟩:=eG hP9.h1;have zf:=(fun i=>dm hP9.h1 i);have HT9:=lh hP9.t;clear hP9)
 exact ag (v:=.agg #[cc.x0,cc.y0,cc.x1,cc.y1]) (by simp [results,results52,go_sem,z0,z1,z2,z3]) rfl ⟨rfl,(((HT9.o.sc).sc).sc).sc⟩
theorem UT(d:df)(m:bI)(w:World)(hk:m.kind=3)(a:Rc)(ha:a.Z)(hf:jC m.Xg m.ks m.cs=true)(hm:m.At w)(P:World→Value→Prop)(hbl:∀u,bH [] w u→Calls prog 91 #[d.v,m.id] u fun e w'=>(∃v,P w' v∧e=.returned v)∧bH [] u w')(hsm:∀u v,bH [] w u→P u v→Calls prog 89 #[d.v,v] u fun e w'=>e=.returned a.v∧bH [] u w'):
  Calls prog 52 #[d.v,m.v] w fun e w'=>e=.returned ((m.spread a).can).v∧bH [] w w':=by
 have hsp:=fun u (t:bH [] w u)=>yH m.Xg m.ks m.cs hf a ha.bd u (hm.ks.turn t) (hm.cs.turn t);rw [show m.Xg.area (jC m.Xg m.ks m.cs) a 1=m.spread a from rfl]at hsp;have hc:=pz (m.spread a);generalize (m.spread a).can=cc at *;generalize m.spread a=q at *;simp only [Rc.v,Fv.v,df.v]at hsp hc hbl hsm;have HBL:=lh hbl;have HSM:=lh hsm;have HSP:=lh hsp;have HC:=lh hc;obtain⟨W,hW⟩:∃W,W=(((w.alloc (.cells #[.slice d.sA d.sn d.sc,d.root,d.next,.slice d.lA d.ln d.lc] 107)).alloc (.cells ⟨m.row⟩ 89)).alloc (.cells #[(0:Int),(0:Int),(0:Int),(0:Int)] 24)).alloc (.cells #[(0:Int),(0:Int),(0:Int),(0:Int)] 24):=⟨_,rfl⟩;have T0:bH [] w W:=hW ▸ ((((tR w).alloc _).alloc _).alloc _).alloc _;have x0:W.heap[w.heap.size]?=some (.cells #[.slice d.sA d.sn d.sc,d.root,d.next,.slice d.lA d.ln d.lc] 107 (0,0)):=hW ▸ bO (bO (bO bN));have xl:W.heap[w.heap.size+1]?=some (.cells ⟨m.row⟩ 89 (0,0)):=hW ▸ bO (bO bN);have x1:W.heap[w.heap.size+1+1]?=some (.cells (dZ Rc.zero) 24 (0,0)):=hW ▸ bO bN;have x2:W.heap[w.heap.size+1+1+1]?=some (.cells (dZ Rc.zero) 24 (0,0)):=hW ▸ bN;have HP:Hid (JV w W d 107 m Rc.zero):=lh ⟨T0,x0,xl,x1,x2⟩;have y1:=bJ (i:=1) xl (v:=m.kind) rfl;rw [hk]at y1;clear T0 x0 xl x1 x2 hk hsp hc ha hf hm hbl hsm;unfold df.v bI.v at *;go_enter func52,ntmps52;go_upto_region 2 with (fail)
 rw [←hW];clear hW;try simp only [aI]
 go_upto_region 12 with fail
 clear y1;refine cu.start (fun w'=>bH [w.heap.size+1+1+1] W w') 9 (by kernel_rfl) ?_;have hS:bH [] W W.drew:=(tR W).drawn 1;generalize W.drew=Y at *;refine tk 0 (.pointer (some ⟨w.heap.size+1,17,none⟩)) ?_ (hS:=hS.mono (by simp));go_frame;refine tk 1 (.agg #[m.Xg.kind,m.Xg.Xf,.slice m.Xg.kA m.Xg.kn m.Xg.kc,m.Xg.div,m.Xg.value,.slice m.Xg.cA m.Xg.cn m.Xg.cc]) ?_ (hy:=by intro w' hw;obtain⟨g0,g1,g2,g3,g4,g5⟩:=ve (HP.o.part hw).2;go_simp) (hS:=hS.mono (by simp));go_frame;refine tk 2 (.agg #[.slice d.sA d.sn d.sc,d.root,d.next,.slice d.lA d.ln d.lc]) ?_ (hy:=by intro w' hw;obtain⟨d0,d1,d2,d3⟩:=iw (HP.o.part hw).1;go_simp) (hS:=hS.mono (by simp));go_frame;refine tk 3 (.agg #[.slice d.sA d.sn d.sc,d.root,d.next,.slice d.lA d.ln d.lc]) ?_ (hy:=by intro w' hw;obtain⟨d0,d1,d2,d3⟩:=iw (HP.o.part hw).1;go_simp) (hS:=hS.mono (by simp));go_frame;refine tk 4 (.pointer (some ⟨w.heap.size+1,0,none⟩)) ?_ (hS:=hS.mono (by simp));go_frame;refine tk 5 m.id ?_ (hy:=by intro w' hw;have y:=bJ (i:=0) (HP.o.part hw).2 (v:=m.id) rfl;go_simp) (hS:=hS.mono (by simp));go_frame;refine eH 6 fun K hK=>?_;go_simp;(with_reducible refine (HBL.o _ (HP.o.t.trans hS)).mono ?_);rintro e Y' ⟨⟨v,hv,rfl⟩,ht⟩;replace hS:=hS.trans ht;refine hK _ _ (fun _=>hS.mono (by simp)) ?_;clear hK K;try go_frame
 have HV:=lh hv;clear hv;clear ht Y;obtain⟨Y,rfl⟩:∃Y,Y=Y':=⟨_,rfl⟩;refine eH 7 fun K hK=>?_;go_simp;(with_reducible refine (HSM.o _ v (HP.o.t.trans hS) HV.o).mono ?_);rintro e Y' ⟨rfl,ht⟩;replace hS:=hS.trans ht;refine hK _ _ (fun _=>hS.mono (by simp)) ?_;clear hK K;try go_frame
 clear ht;obtain⟨Y,rfl⟩:∃Y,Y=Y':=⟨_,rfl⟩;refine eH 8 fun K hK=>?_;go_simp;(with_reducible refine (HSP.o _ (HP.o.t.trans hS)).mono ?_);rintro e Y' ⟨rfl,ht⟩;replace hS:=hS.trans ht;refine hK _ _ (fun _=>hS.mono (by simp)) ?_;clear hK K;try go_frame
 clear ht Y;obtain⟨Y,rfl⟩:∃Y,Y=Y':=⟨_,rfl⟩;have hP2:=HP.o.turn hS;obtain⟨r0,r1,r2,r3⟩:=eG hP2.h2;have rf:=fun i=>dm hP2.h2 i;have HP2:=lh hP2;clear hP2;refine iZ fun K hK=>?_;go_simp;refine hK _ _ ?_;clear hK K;try go_frame
 clear r0 r1 r2 r3 rf hS;go_upto_region 13 with fail
 have hP3:=HP2.o.set (a:=q);generalize (((Y.setCell ⟨w.heap.size+1+1+1,0,none⟩ q.x0).setCell ⟨w.heap.size+1+1+1,1,none⟩ q.y0).setCell ⟨w.heap.size+1+1+1,2,none⟩ q.x1).setCell ⟨w.heap.size+1+1+1,3,none⟩ q.y1=Z at *;obtain⟨r0,r1,r2,r3⟩:=eG hP3.h2;have HP3:=lh hP3;clear hP3 HP2;go_wp2_with (go_at_call 40;(with_reducible refine (HC.o _).mono ?_);rintro e w9 ⟨rfl,ht9⟩;have hP9:=HP3.o.turn ht9;obtain⟨z0,z1,z2,z3⟩:=eG hP9.h1;have zf:=(fun i=>dm hP9.h1 i);have HT9:=lh hP9.t;clear hP9)
 exact ag (v:=.agg #[cc.x0,cc.y0,cc.x1,cc.y1]) (by simp [results,results52,go_sem,z0,z1,z2,z3]) rfl ⟨rfl,(((HT9.o.sc).sc).sc).sc⟩
theorem Vp(d:df)(m:bI)(w:World)(hk:m.kind=5)(hpb:jy m.pts=true)(hm:m.At w):
  Calls prog 52 #[d.v,m.v] w fun e w'=>e=.returned (((gY m.pts).meet (gY m.pts)).can).v∧bH [] w w':=by
 have hb:=fun u (t:bH [] w u)=>JJ m.pts hpb m.pA m.pn m.pc u (hm.pts.turn t);have hc:=pz ((gY m.pts).meet (gY m.pts));generalize ((gY m.pts).meet (gY m.pts)).can=cc at *;generalize (gY m.pts).meet (gY m.pts)=q at *;simp only [Rc.v]at hb hc;have HB:=lh hb;have HC:=lh hc;obtain⟨W,hW⟩:∃W,W=(((w.alloc (.cells #[.slice d.sA d.sn d.sc,d.root,d.next,.slice d.lA d.ln d.lc] 107)).alloc (.cells ⟨m.row⟩ 89)).alloc (.cells #[(0:Int),(0:Int),(0:Int),(0:Int)] 24)).alloc (.cells #[(0:Int),(0:Int),(0:Int),(0:Int)] 24):=⟨_,rfl⟩;have T0:bH [] w W:=hW ▸ ((((tR w).alloc _).alloc _).alloc _).alloc _;have x0:W.heap[w.heap.size]?=some (.cells #[.slice d.sA d.sn d.sc,d.root,d.next,.slice d.lA d.ln d.lc] 107 (0,0)):=hW ▸ bO (bO (bO bN));have xl:W.heap[w.heap.size+1]?=some (.cells ⟨m.row⟩ 89 (0,0)):=hW ▸ bO (bO bN);have x1:W.heap[w.heap.size+1+1]?=some (.cells (dZ Rc.zero) 24 (0,0)):=hW ▸ bO bN;have x2:W.heap[w.heap.size+1+1+1]?=some (.cells (dZ Rc.zero) 24 (0,0)):=hW ▸ bN;have HP:Hid (JV w W d 107 m Rc.zero):=lh ⟨T0,x0,xl,x1,x2⟩;have y1:=bJ (i:=1) xl (v:=m.kind) rfl;rw [hk]at y1;clear T0 x0 xl x1 x2 hk hb hc hpb hm;unfold df.v bI.v at *;go_enter func52,ntmps52;go_upto_region 2 with (fail)
 rw [←hW];clear hW;try simp only [aI]
 go_upto_region 6 with fail
 clear y1;have y27:=bJ (i:=27) HP.o.hl (v:=.slice m.pA m.pn m.pc) rfl;go_upto_region 13 with (go_at_call 88;(with_reducible refine (HB.o _ HP.o.t).mono ?_);rintro e Y ⟨rfl,ht⟩;have hP2:=HP.o.turn ht;obtain⟨r0,r1,r2,r3⟩:=eG hP2.h2;have rf:=(fun i=>dm hP2.h2 i);have HP2:=lh hP2;clear hP2)
 clear r0 r1 r2 r3 rf;go_upto_region 13 with fail
 have hP3:=HP2.o.set (a:=q);generalize (((Y.setCell ⟨w.heap.size+1+1+1,0,none⟩ q.x0).setCell ⟨w.heap.size+1+1+1,1,none⟩ q.y0).setCell ⟨w.heap.size+1+1+1,2,none⟩ q.x1).setCell ⟨w.heap.size+1+1+1,3,none⟩ q.y1=Z at *;obtain⟨r0,r1,r2,r3⟩:=eG hP3.h2;have HP3:=lh hP3;clear hP3 HP2;go_wp2_with (go_at_call 40;(with_reducible refine (HC.o _).mono ?_);rintro e w9 ⟨rfl,ht9⟩;have hP9:=HP3.o.turn ht9;obtain⟨z0,z1,z2,z3⟩:=eG hP9.h1;have zf:=(fun i=>dm hP9.h1 i);have HT9:=lh hP9.t;clear hP9)
 exact ag (v:=.agg #[cc.x0,cc.y0,cc.x1,cc.y1]) (by simp [results,results52,go_sem,z0,z1,z2,z3]) rfl ⟨rfl,(((HT9.o.sc).sc).sc).sc⟩
theorem VH(d:df)(m:bI)(w:World)(hk:m.kind=2)(q:Rc)(hsm:∀u,bH [] w u→Calls prog 89 #[d.v,.slice m.Xi m.Xh m.Xj] u fun e w'=>e=.returned q.v∧bH [] u w'):
  Calls prog 52 #[d.v,m.v] w fun e w'=>e=.returned (q.can).v∧bH [] w w':=by
 have hc:=pz q;generalize q.can=cc at *;simp only [Rc.v,df.v]at hsm hc;have HB:=lh hsm;have HC:=lh hc;obtain⟨W,hW⟩:∃W,W=(((w.alloc (.cells #[.slice d.sA d.sn d.sc,d.root,d.next,.slice d.lA d.ln d.lc] 107)).alloc (.cells ⟨m.row⟩ 89)).alloc (.cells #[(0:Int),(0:Int),(0:Int),(0:Int)] 24)).alloc (.cells #[(0:Int),(0:Int),(0:Int),(0:Int)] 24):=⟨_,rfl⟩;have T0:bH [] w W:=hW ▸ ((((tR w).alloc _).alloc _).alloc _).alloc _;have x0:W.heap[w.heap.size]?=some (.cells #[.slice d.sA d.sn d.sc,d.root,d.next,.slice d.lA d.ln d.lc] 107 (0,0)):=hW ▸ bO (bO (bO bN));have xl:W.heap[w.heap.size+1]?=some (.cells ⟨m.row⟩ 89 (0,0)):=hW ▸ bO (bO bN);have x1:W.heap[w.heap.size+1+1]?=some (.cells (dZ Rc.zero) 24 (0,0)):=hW ▸ bO bN;have x2:W.heap[w.heap.size+1+1+1]?=some (.cells (dZ Rc.zero) 24 (0,0)):=hW ▸ bN;have HP:Hid (JV w W d 107 m Rc.zero):=lh ⟨T0,x0,xl,x1,x2⟩;have y1:=bJ (i:=1) xl (v:=m.kind) rfl;rw [hk]at y1;clear T0 x0 xl x1 x2 hk hc hsm;unfold df.v bI.v at *;go_enter func52,ntmps52;go_upto_region 2 with (fail)
 rw [←hW];clear hW;try simp only [aI]
 go_upto_region 10 with fail
 clear y1;have y15:=bJ (i:=15) HP.o.hl (v:=.slice m.Xi m.Xh m.Xj) rfl;obtain⟨d0,d1,d2,d3⟩:=HP.o.dc;go_upto_region 13 with (go_at_call 89;(with_reducible refine (HB.o _ HP.o.t).mono ?_);rintro e Y ⟨rfl,ht⟩;have hP2:=HP.o.turn ht;obtain⟨r0,r1,r2,r3⟩:=eG hP2.h2;have rf:=(fun i=>dm hP2.h2 i);have HP2:=lh hP2;clear hP2)
 clear r0 r1 r2 r3 rf;go_upto_region 13 with fail
 have hP3:=HP2.o.set (a:=q);generalize (((Y.setCell ⟨w.heap.size+1+1+1,0,none⟩ q.x0).setCell ⟨w.heap.size+1+1+1,1,none⟩ q.y0).setCell ⟨w.heap.size+1+1+1,2,none⟩ q.x1).setCell ⟨w.heap.size+1+1+1,3,none⟩ q.y1=Z at *;obtain⟨r0,r1,r2,r3⟩:=eG hP3.h2;have HP3:=lh hP3;clear hP3 HP2;go_wp2_with (go_at_call 40;(with_reducible refine (HC.o _).mono ?_);rintro e w9 ⟨rfl,ht9⟩;have hP9:=HP3.o.turn ht9;obtain⟨z0,z1,z2,z3⟩:=eG hP9.h1;have zf:=(fun i=>dm hP9.h1 i);have HT9:=lh hP9.t;clear hP9)
 exact ag (v:=.agg #[cc.x0,cc.y0,cc.x1,cc.y1]) (by simp [results,results52,go_sem,z0,z1,z2,z3]) rfl ⟨rfl,(((HT9.o.sc).sc).sc).sc⟩
end Go.Proofs.YtbpklgllihhgpaaGreat
