import Derived.Test.YtaahejdimjbhhaaGreatDoorK22
import Derived.Test.YtaahejdimjbhhaaGreatDoorK29
set_option maxRecDepth 100000
set_option maxHeartbeats 0
set_option linter.all false
namespace Go.Proofs.YtaahejdimjbhhaaGreatDoor
open Tryz Go.RowKit Go.Den
open Go.Value renaming string->bb,slice->bc,int->be,pointer->bj,bool->bl,agg->bt
open Go.Obj renaming cells->bv
open Option renaming some->bz,none->bA
open Go renaming World->bB,heap_alloc_new->bE,run_loadAt_mid->bF,Value->bL,wpList_load_mid->bM,TypeId->bP,run_underlying->bR
open Go.Proofs.Tryz renaming prog->bS,zeroCells181->bT
open Bool renaming false->bX,true->ca
theorem adk{X w:bB}{v:bL}{l:List (List UInt8)}{s:List UInt8}(b:BAr)(ty:bP)(e:(⟨s.toArray⟩:BAr)=b)(h:Yg w X.heap.size v l)(T:bH [] X w)(i:l.length+1<=100000):
  ∃V d w',(Instr.buildSlice 107 1 #[(0,bb b)]).run bS w=.ok (bc (bz ⟨w,0,bA⟩) 1 1) V/\(Builtin.append_ #[107,107] ty #[v,bc (bz ⟨w,0,bA⟩) 1 1]).run bS V=.ok d w'/\Yg w' X.heap.size d (l++[s])/\bH [] X w':=by
 subst e;have c:=bE w (bv #[bb ⟨s.toArray⟩] 9);have G:=(tR w).alloc (bv #[bb ⟨s.toArray⟩] 9);obtain⟨d,w',a,z,N,C⟩:=agG (h.u G) [s] w.heap.size 1 1 rfl (λj k=>by
  rw [aA _ _ _ _ _ _ c];match j,k with|0,_=>rfl) (T.t G).size i ty
 exact⟨_,d,w',YT _ w,a,z,fH (T.t G) N (λg f=>((h.u G).2.lt g f).1)⟩
theorem abR(d:List dC)(A:Option Addr)(n cap:Nat)(r:Rc)(hn:n<=5000)(w:bB)(D:dB w A n d):
  CR 95 #[bt #[bl bX],bt #[bc A n cap],r.v] w (bb ⟨(fM (ik r d)).toArray⟩):=by
 obtain⟨W,e⟩:=eX (((w.alloc (bv #[bl bX] 103)).alloc (bv #[bc A n cap] 49)).alloc (bv #[r.x0,r.y0,r.x1,r.y1] 59));have T0:bH [] w W:=e▸(((tR w).a _).a _).a _;have ap:W.heap.size=w.heap.size+3:=by rw [e];simp
 have xk:W.heap[w.heap.size]?=bz (bv #[bl bX] 103 (0,0)):=by rw [e];simp only [Xx,aI];rw [aF gn,aF gn,aG lL]
 have x0:W.heap[w.heap.size+1]?=bz (bv #[bc A n cap] 49 (0,0)):=by rw [e];simp only [Xx,aI];rw [aF gn,aG lL]
 have x1:W.heap[w.heap.size+2]?=bz (bv #[r.x0,r.y0,r.x1,r.y1] 59 (0,0)):=by rw [e];simp only [Xx,aI];rw [aG lL]
 have X:W.cell? ⟨w+1,0,bA⟩=bz (bc A n cap):=by rw [aA _ _ _ _ _ _ x0];rfl
 have B:W.cell? ⟨w,0,bA⟩=bz (bl bX):=by rw [aA _ _ _ _ _ _ xk];rfl
 obtain⟨aa,HT,HW⟩:=lh3 D.1 D e;have Q:=lh (bg T0 (bg ap (bg x1 (bg X B))));have P0:fV W W (bc bA 0 0) (ik r (d.take 0)):=⟨bH.refl _ _,ZN _ _⟩;have HJ:Hid (∀(v:Option Addr) (m c:Nat) u,DR u v m (ik r d)->CR 37 #[bt #[bl bX],bc v m c] u (bb ⟨(fM (ik r d)).toArray⟩)):=lh λv m c u h=>
  XQ _ v m c (by have:=ZX r d;have:=D.1;omega) u h
 unfold Rc.v;generalize (⟨(fM (ik r d)).toArray⟩:BAr)=O at *;clear D e T0 x0 x1 xk ap;go_enter func95,ntmps95;go_upto_region 1 with fail
 rw [<-HW.o];clear HW X B;go_upto_region 3 with fail
 go_wp2;go_loopw [7,8] (λs7 s8 wr=>∃k:Nat,k<=n/\s8=k/\fV W wr s7 (ik r (d.take k))) (λ_ s8 _=>n-(intOf s8).toNat);case atStart=>exact⟨0,gn,rfl,P0⟩
 clear P0;obtain⟨k,hk,rfl,P⟩:=hrel;have X:=((bY P.t).1 _ _ (ai Q.o.2.2.2.1)).t Q.o.2.2.2.1;by_cases b7:k<n
 .as_aux_lemma=>
  have ar:k<d.length:=tf
  obtain⟨t,z⟩:∃t,d[k]?=bz t:=⟨_,aB ar⟩;obtain⟨I,g,o,rfl,hR⟩:=(HT.o.u (Q.o.1.t P.t)).2 k t z;have ax:=aaJ r z;have ao:t.row.length=258:=sL
  have aD:(⟨t.row⟩:Array bL).all (·.oneCell')=ca:=all_oneCell_toArray (cs:=t.row) (acu t);have b8:(Instr.alloc 181 ca (.tuple #[])).run bS wr=.ok (bj (bz ⟨wr,0,bA⟩)) (wr.alloc (bv bT 181)):=mw
  have a2:(prog.info? 181).map (·.size)=bz t.row.length:=nE
  have a8:(Instr.storeAt 181 (bj (bz ⟨wr,0,bA⟩)) (bt ⟨t.row⟩)).run bS (wr.alloc (bv bT 181))=.ok () (wr.alloc (bv ⟨t.row⟩ 181)):=
   run_storeAt_new wr 181 bT ⟨t.row⟩ a2 mT aD
  have p:=(tR wr).alloc (bv ⟨t.row⟩ 181);have hb:=bE wr (bv ⟨t.row⟩ 181);have b6:(k:Int)<(n:Int):=gn
  obtain⟨aR,E,C⟩:=lh3 (bg I z) ax P;clear ax ao aD I z ar P;generalize aL:t.row=J at *;go_upto_region 6 with (first
   |(refine bM rfl 181 _ rfl _ _ rfl _ _ hR underlying181 rfl a2 ?_)
   |(refine bU rfl 181 _ _ rfl rfl rfl a8 ?_))
  clear hR b8 a8 a2;try go_frame
  have M:fV W (wr.alloc (bv ⟨J⟩ 181)) u7 (ik r (d.take k)):=⟨C.o.t.t p,C.o.own.u p⟩;have G:wr.heap.size∉dI u7:=λhm=>by have:=(C.o.own.2.lt _ hm).2.1;omega
  have aq:(wr.alloc (bv ⟨J⟩ 181)).heap[wr.heap.size]?=bz (bv ⟨t.row⟩ 181 (0,0)):=by rw [aL];exact hb
  have aE:(wr.alloc (bv ⟨J⟩ 181)).heap[w.heap.size+2]?=bz (bv #[r.x0,r.y0,r.x1,r.y1] 59 (0,0)):=
   (M.t.old _ (by have:=Q.o.2.1;omega) lz).t Q.o.2.2.1
  have S:=lh M;have f:=lh (bg G (bg aq aE));clear M G aq aE hb p C aL X;generalize wr.alloc (bv ⟨J⟩ 181)=W2,wr.heap.size=b at *;have ay:=λu=>adw t.x t.y u;have av:=λu=>YW (ZJ t.x t.y) r u;have l:ZT r t=if XD (ZJ t.x t.y) r=ca then [H6 [t.x,t.y],YD (XW t.px)] else []:=rfl
  generalize XD (ZJ t.x t.y) r=mb at *;generalize ZJ t.x t.y=q at *;obtain⟨a5,a3,H⟩:=lh3 ay av l;clear ay av l;refine sN 5 (tR W2) λV i=>?_;refine fK 0 ?_;refine Xz 1 (Y8 t.x t.y) (λw' T=>acm (T.ox f.o.2.1)) ?_;refine Xz 3 r.v (λw' T=>Ob (T.ox f.o.2.2)) ?_;refine PR 2 (a5.o _) λw1 i _=>?_
  refine PR 4 (a3.o _) λs i _=>?_
  refine eH 5 (λK hK=>?_);go_simp;refine gZ hK ?_;clear hK K
  refine Wy ?_;clear a5 a3;cases mb with
  |false=>
   have l:=H.o;simp only [Bool.false_eq_true,if_false]at l;have P3:fV W s u7 (ik r (d.take (k+1))):=qu;clear E l H S i f;as_aux_lemma=>
   go_wp2;go_roundw;case rel=>exact⟨k+1,gn,by go_num,P3⟩
   simp [intOf];omega
  |true=>
   have l:=H.o;simp only [if_true]at l;rw [l]at E;have P3:fV W s u7 (ik r (d.take k)):=⟨S.o.t.t i,S.o.own.u i⟩;have F:=i.ox f.o.2.1;have G:=f.o.1;clear l H S i f;as_aux_lemma=>
   obtain⟨I,z⟩:=aR.o;have a1:=lh (λu=>aeM t.px I u);have b4:=lh (show (loadVar 80 ⟨b,2,bA⟩).run bS s=.ok (tv t.px) s from aau I F);have a9:Hid ((Instr.loadAt 80 (bj (bz ⟨b,2,bA⟩))).run bS s=.ok (tv t.px) s):=lh (aau I F);generalize bd:(⟨(YD (XW t.px)).toArray⟩:BAr)=kk at *;have b1:=lh bd;clear bd;go_upto_region 9 with (first
    |(refine lR 31 a9.o ?_)
    |(go_at_call 155;refine mR (a1.o _) λj L=>?_))
   have N:=P3.t.t L;have O4:=P3.own.u L;have B:=((bY N).1 _ _ (ai Q.o.2.2.2.2)).t Q.o.2.2.2.2;have R:=L.ox F;have bx:j.cell? ⟨b,0,bA⟩=bz (be .i64 t.x):=(by rw [aA _ _ _ _ _ _ R];rfl);have b5:j.cell? ⟨b,1,bA⟩=bz (be .i64 t.y):=(by rw [aA _ _ _ _ _ _ R];rfl);have p:=(tR j).alloc (bv #[t.x,t.y] 3);have d6:dn (j.alloc (bv #[t.x,t.y] 3)) (bz ⟨j,0,bA⟩) 2 [t.x,t.y]:=Yl [t.x,t.y] j;obtain⟨a4,a7,b9⟩:=lh3 (Y6 [t.x,t.y] (bz ⟨j,0,bA⟩) 2 2 lG _ d6) (ab8 t.x t.y j) (bg N (bg O4 p));generalize aw:lu [t.x,t.y]=nb at *;have gE:=lh aw;clear N O4 p d6 aw R F P3 a1 b4 a9 G L;generalize j.alloc (bv #[t.x,t.y] 3)=W5 at *;as_aux_lemma=>
   go_upto_region 12 with (first
    |((with_reducible refine yA 45 (bc (bz ⟨j,0,bA⟩) 2 2) W5 ?_ ?_);(next=>exact Xw (t:=22) (x0:=.tmp 41) (x1:=.tmp 44) rfl rfl rfl a7.o);try go_frame)
    |(go_at_call 97;refine mR a4.o λw6 U=>?_;have T6:=(b9.o.1.t b9.o.2.2).t U;have O6:=(b9.o.2.1.u b9.o.2.2).u U;obtain⟨V7,v7,w7,h7,ab,ac,ad⟩:=adk nb 107 gE.o O6 T6 (by have:=Zt r (d.take k);rw [List.length_take]at this;omega);have a6:=lh h7;have a0:=lh ab)
    |((with_reducible refine yA 47 (bc (bz ⟨w6,0,bA⟩) 1 1) V7 ?_ ?_);(next=>exact dV (t:=107) (x:=.tmp 46) rfl rfl a6.o);try go_frame)
    |((with_reducible refine yA 48 v7 w7 ?_ ?_);(next=>exact dL (.tmp 38) (.tmp 47) 107 rfl rfl rfl a0.o);try go_frame))
   obtain⟨V8,Y,Z,h8,af,am,an⟩:=adk kk 107 b1.o ac ad (by have:=Zt r (d.take k);rw [List.length_take]at this;simp;omega);have b3:=lh h8;have aM:=lh af;have e2:Yg Z W.heap.size Y (ik r (d.take (k+1))):=(by rw [E.o,show ik r (d.take k)++[H6 [t.x,t.y],YD (XW t.px)]=ik r (d.take k)++[H6 [t.x,t.y]]++[YD (XW t.px)] by simp];exact am);have P8:fV W Z Y (ik r (d.take (k+1))):=⟨an,e2⟩;clear h7 ab ac ad h8 af am an e2 a6 a0 b9 a4 a7 E T6 O6 U B bx b5;as_aux_lemma=>
   go_wp2_with (first
    |((with_reducible refine yA 51 (bc (bz ⟨w7,0,bA⟩) 1 1) V8 ?_ ?_);(next=>exact dV (t:=107) (x:=.tmp 50) rfl rfl b3.o);try go_frame)
    |((with_reducible refine yA 52 Y Z ?_ ?_);(next=>exact dL (.tmp 49) (.tmp 51) 107 rfl rfl rfl aM.o);try go_frame))
   go_roundw;case rel=>exact⟨k+1,gn,by go_num,P8⟩
   simp [intOf];omega
 obtain rfl:k=n:=gn
 as_aux_lemma=>
 have B:=((bY P.t).1 _ _ (ai Q.o.2.2.2.2)).t Q.o.2.2.2.2;rw [aa.o,List.take_length]at P;obtain⟨V5,m5,c5,rfl,a8⟩:=P.own.strs;have b0:=lh (HJ.o V5 m5 c5 wr a8);have b2:=lh P.t;clear a8 P HJ;go_wp2_with (go_at_call 37;refine mR b0.o λw1 t1=>?_)
 go_ret;exact⟨rfl,(Q.o.1.t b2.o).t t1⟩
def YY:List UInt8:=[109,97,115,107]
def Yh(l:bI)(r:Rc): List (List UInt8):=[Qz l.Xl,if l.Xt=ca then YY++fM (ik r l.mask) else []]
theorem aaf(X w:bB)(a b:List UInt8)(U:X.heap.size<=w.heap.size): Yg (w.alloc (bv #[sv a,sv b] 9)) X.heap.size (bc (bz ⟨w,0,bA⟩) 2 2) [a,b]:=by
 refine⟨λq c=>?_,by simp [Yd,YG],.inr ⟨w,0,2,#[sv a,sv b],rfl,U,bE w _,by simp [Yd],by decide,by simp [YG],λj u o=>?_⟩⟩
 .obtain⟨s,_,rfl⟩:=List.mem_map.1 c;exact aa6 s
 rw [Nat.zero_add];simpa [Yd]using o
theorem abO(l:bI)(r:Rc)(M:l.mn<=5000)(w:bB)(A:dB w l.mA l.mn l.mask)(z:YQ w):
  Calls bS 255 #[l.v,r.v] w λe w'=>(∃v,e=.returned v/\Yg w' w.heap.size v (Yh l r))/\bH [] w w':=by
 obtain⟨W,m⟩:=eX ((w.alloc (bv ⟨l.row⟩ 51)).alloc (bv #[r.x0,r.y0,r.x1,r.y1] 59));have h:bH [] w W:=m▸((tR w).a _).a _;have J:W.heap.size=w.heap.size+2:=mq
 have c:W.heap[w.heap.size]?=bz (bv ⟨l.row⟩ 51 (0,0)):=pp
 have d:W.heap[w.heap.size+1]?=bz (bv #[r.x0,r.y0,r.x1,r.y1] 59 (0,0)):=qs
 have k:W.cell? ⟨w,29,bA⟩=bz (bl l.Xt):=nL
 have p:W.cell? ⟨w,30,bA⟩=bz (bc l.mA l.mn l.mc):=nL
 have q:W.cell? ⟨w,4,bA⟩=bz (be .i64 l.Xl):=nL
 have G:W.cell? ⟨w+1,0,bA⟩=bz (be .i64 r.x0):=mN
 have H:W.cell? ⟨w+1,1,bA⟩=bz (be .i64 r.y0):=mN
 have I:W.cell? ⟨w+1,2,bA⟩=bz (be .i64 r.x1):=mN
 have K:W.cell? ⟨w+1,3,bA⟩=bz (be .i64 r.y1):=mN
 have bw:=aaF l.mask l.mA l.mn l.mc r M W (A.u h) (z.u h);have n:=λu=>NL l.Xl u;have E:Yh l r=[Qz l.Xl,if l.Xt=ca then YY++fM (ik r l.mask) else []]:=rfl;have a0:(fM (ik r l.mask)).length=32:=XN _;have F:MZ l.Xl=⟨(Qz l.Xl).toArray⟩:=rfl;have C:(⟨#[109,97,115,107]⟩:BAr)++⟨(fM (ik r l.mask)).toArray⟩=⟨(YY++fM (ik r l.mask)).toArray⟩:=OC YY _;have S:(⟨(fM (ik r l.mask)).toArray⟩:BAr).size=32:=a0;rw [E];rw [F]at n;simp only [Rc.v]at bw ⊢;unfold bI.v;generalize fM (ik r l.mask)=j at *;generalize (⟨j.toArray⟩:BAr)=JB,Qz l.Xl=N at *;have P:¬9223372036854775807<4+JB.size:=gn
 have R:¬9223372036854775807<36:=gn
 obtain⟨ab,y,g,L,Q⟩:=lh5 bw n m C (bg h (bg J (bg q p)));clear bw n m C E a0 F A h J c d z;cases B:l.Xt with
 |true=>
  rw [B]at k;simp only [if_true];go_enter func255,ntmps255;go_upto_region 1 with fail
  rw [<-g.o];clear g;go_upto_region 4 with (go_at_call 143;refine mR ab.o λs i=>?_)
  rw [L.o];have O:=((bY i).1 _ _ (ai Q.o.2.2.1)).t Q.o.2.2.1;clear q k p G H I K;go_wp2_with (first
   |(go_at_call 33;refine mR (y.o _) λb f=>?_;have D:=lh (Zo ⟨N.toArray⟩ ⟨(YY++j).toArray⟩ b))
   |((with_reducible refine yA 17 (bc (bz ⟨b,0,bA⟩) 2 2) (b.alloc (bv #[bb ⟨N.toArray⟩,bb ⟨(YY++j).toArray⟩] 9)) ?_ ?_);(next=>exact Xw (t:=107) (x0:=.tmp 15) (x1:=.tmp 16) rfl rfl rfl D.o);try go_frame))
  go_ret;exact⟨⟨_,rfl,aaf w b N (YY++j) ((Q.o.1.t i).t f).size⟩,((Q.o.1.t i).t f).a _⟩
 |false=>
  rw [B]at k;simp only [Bool.false_eq_true,if_false];go_enter func255,ntmps255;go_upto_region 1 with fail
  rw [<-g.o];clear g;go_upto_region 4 with (go_at_call 143;refine mR ab.o λs i=>?_)
  obtain⟨s,x⟩:=eX W;have i:bH [] W s:=x▸bH.refl _ _;have O:=((bY i).1 _ _ (ai Q.o.2.2.1)).t Q.o.2.2.1;rw [<-x];clear x q k p G H I K;go_wp2_with (first
   |(go_at_call 33;refine mR (y.o _) λb f=>?_;have D:=lh (Zo ⟨N.toArray⟩ ⟨([]).toArray⟩ b))
   |((with_reducible refine yA 17 (bc (bz ⟨b,0,bA⟩) 2 2) (b.alloc (bv #[bb ⟨N.toArray⟩,bb ⟨([]).toArray⟩] 9)) ?_ ?_);(next=>exact Xw (t:=107) (x0:=.tmp 15) (x1:=.tmp 16) rfl rfl rfl D.o);try go_frame))
  go_ret;exact⟨⟨_,rfl,aaf w b N ([]) ((Q.o.1.t i).t f).size⟩,((Q.o.1.t i).t f).a _⟩
theorem abK(l:bI)(r:Rc)(O:l.mn<=5000)(w:bB)(z:dB w l.mA l.mn l.mask):
  Calls bS 231 #[bt #[bl bX],l.v,r.v] w λe w'=>(∃v,e=.returned v/\Yg w' w.heap.size v (Yh l r))/\bH [] w w':=by
 obtain⟨W,m⟩:=eX (((w.alloc (bv #[bl bX] 103)).alloc (bv ⟨l.row⟩ 51)).alloc (bv #[r.x0,r.y0,r.x1,r.y1] 59));have h:bH [] w W:=m▸(((tR w).a _).a _).a _;have J:W.heap.size=w.heap.size+3:=mq
 have L:W.heap[w.heap.size]?=bz (bv #[bl bX] 103 (0,0)):=by rw [m];simp only [Xx,aI];rw [aF gn,aF gn,aG lL]
 have F:W.cell? ⟨w,0,bA⟩=bz (bl bX):=by rw [aA _ _ _ _ _ _ L];rfl
 have c:W.heap[w.heap.size+1]?=bz (bv ⟨l.row⟩ 51 (0,0)):=pp
 have d:W.heap[w.heap.size+2]?=bz (bv #[r.x0,r.y0,r.x1,r.y1] 59 (0,0)):=qs
 have k:W.cell? ⟨w+1,29,bA⟩=bz (bl l.Xt):=nL
 have p:W.cell? ⟨w+1,30,bA⟩=bz (bc l.mA l.mn l.mc):=nL
 have q:W.cell? ⟨w+1,4,bA⟩=bz (be .i64 l.Xl):=nL
 have G:W.cell? ⟨w+2,0,bA⟩=bz (be .i64 r.x0):=mN
 have H:W.cell? ⟨w+2,1,bA⟩=bz (be .i64 r.y0):=mN
 have I:W.cell? ⟨w+2,2,bA⟩=bz (be .i64 r.x1):=mN
 have K:W.cell? ⟨w+2,3,bA⟩=bz (be .i64 r.y1):=mN
 have bw:=abR l.mask l.mA l.mn l.mc r O W (z.u h);have n:=λu=>Yj l.Xl u;have E:Yh l r=[Qz l.Xl,if l.Xt=ca then YY++fM (ik r l.mask) else []]:=rfl;have a0:(fM (ik r l.mask)).length=32:=XN _;have B:MZ l.Xl=⟨(Qz l.Xl).toArray⟩:=rfl;have C:(⟨#[109,97,115,107]⟩:BAr)++⟨(fM (ik r l.mask)).toArray⟩=⟨(YY++fM (ik r l.mask)).toArray⟩:=OC YY _;have T:(⟨(fM (ik r l.mask)).toArray⟩:BAr).size=32:=a0;rw [E];rw [B]at n;simp only [Rc.v]at bw ⊢;unfold bI.v;generalize fM (ik r l.mask)=j at *;generalize (⟨j.toArray⟩:BAr)=JB,Qz l.Xl=N at *;have R:¬9223372036854775807<4+JB.size:=gn
 have S:¬9223372036854775807<36:=gn
 obtain⟨ab,y,g,M,Q⟩:=lh5 bw n m C (bg h (bg J (bg q p)));clear bw n m C E a0 B z h J c d L;cases A:l.Xt with
 |true=>
  rw [A]at k;simp only [if_true];go_enter func231,ntmps231;go_upto_region 1 with fail
  rw [<-g.o];clear g;go_upto_region 4 with (go_at_call 95;refine mR ab.o λs i=>?_)
  rw [M.o];have P:=((bY i).1 _ _ (ai Q.o.2.2.1)).t Q.o.2.2.1;clear q k p G H I K F;go_wp2_with (first
   |(go_at_call 38;refine mR (y.o _) λb f=>?_;have D:=lh (Zo ⟨N.toArray⟩ ⟨(YY++j).toArray⟩ b))
   |((with_reducible refine yA 20 (bc (bz ⟨b,0,bA⟩) 2 2) (b.alloc (bv #[bb ⟨N.toArray⟩,bb ⟨(YY++j).toArray⟩] 9)) ?_ ?_);(next=>exact Xw (t:=107) (x0:=.tmp 18) (x1:=.tmp 19) rfl rfl rfl D.o);try go_frame))
  go_ret;exact⟨⟨_,rfl,aaf w b N (YY++j) ((Q.o.1.t i).t f).size⟩,((Q.o.1.t i).t f).a _⟩
 |false=>
  rw [A]at k;simp only [Bool.false_eq_true,if_false];go_enter func231,ntmps231;go_upto_region 1 with fail
  rw [<-g.o];clear g;go_upto_region 4 with (go_at_call 95;refine mR ab.o λs i=>?_)
  obtain⟨s,x⟩:=eX W;have i:bH [] W s:=x▸bH.refl _ _;have P:=((bY i).1 _ _ (ai Q.o.2.2.1)).t Q.o.2.2.1;rw [<-x];clear x q k p G H I K F;go_wp2_with (first
   |(go_at_call 38;refine mR (y.o _) λb f=>?_;have D:=lh (Zo ⟨N.toArray⟩ ⟨([]).toArray⟩ b))
   |((with_reducible refine yA 20 (bc (bz ⟨b,0,bA⟩) 2 2) (b.alloc (bv #[bb ⟨N.toArray⟩,bb ⟨([]).toArray⟩] 9)) ?_ ?_);(next=>exact Xw (t:=107) (x0:=.tmp 18) (x1:=.tmp 19) rfl rfl rfl D.o);try go_frame))
  go_ret;exact⟨⟨_,rfl,aaf w b N ([]) ((Q.o.1.t i).t f).size⟩,((Q.o.1.t i).t f).a _⟩
section
abbrev Bs:=List UInt8
structure afw where
 join:List Bs->Bs
 tile:dC->Bs
def Jd:afw:=⟨fM,λt=>YD (XW t.px)⟩
def Yf:Bs:=[101,109,112,116,121]
def Yw:Bs:=[112,97,105,110,116]
def YA:Bs:=[115,104,97,112,101]
def Yy:Bs:=[99,108,111,110,101]
def XY:Bs:=[103,114,111,117,112]
def XF:Bs:=[98,101,108,111,119]
def XT:Bs:=[97,100,106,117,115,116]
def Zw:Bs:=[107,105,100]
def Zg:Bs:=[98,97,115,101]
def Ze:Bs:=[110,111,110,101]
def Zj:Bs:=[116,105,108,101]
def XR(f:Fv)(ks cs:List Int): Bs:=H6 [f.ag1,f.Xf,(f.kn:Int)]++H6 ks++H6 [f.div,f.value,(f.cn:Int)]++H6 cs
theorem aaT(f:Fv)(ks cs:List Int): U8 f ks cs=⟨(XR f ks cs).toArray⟩:=by unfold U8 XR lu;rw [OC,OC,OC]
section
variable (J:afw) (ls:List bI) (sp:List eF)
def aez(c:List dC)(r:Rc): Bs:=J.join (c.flatMap λt=>if XD (ZJ t.x t.y) r=ca then [H6 [t.x,t.y],J.tile t] else [])
def agE(l:bI)(r:Rc): List Bs:=[Qz l.Xl,if l.Xt=ca then YY++aez J l.mask r else []]
def Zm(l:bI): Bs:=if 0<l.space then (match sp[(l.space-1).toNat]? with|some s=>H6 s.ns|none=>[]) else []
def BA(l:bI): Bs:=[l.f0.toNat.toUInt8,l.f1.toNat.toUInt8,l.f2.toNat.toUInt8,l.f3.toNat.toUInt8]
def abn(l:bI)(r:Rc): Bs:=J.join [Yw,H6 l.agZ.ns,Zm sp l,aez J l.Xm ((l.agZ.need r).can)]
def ace(l:bI): Bs:=J.join [YA,BA l,l.pts.flatMap λp=>H6 [p.1,p.2]]
def YL(a:bI->Rc->Bs)(w:Rc): List bI->Bs
 | []=>Ze
 |b::bs=>if b.ag3=bX/\b.clip=bX/\b.ag1≠3 then J.join [Zg,J.join (agE J b w),a b w] else YL a w bs
def aay(a:bI->Rc->Bs)(b:List bI)(x:bI)(w:Rc): Bs:=J.join (agE J x w++[if x.clip=ca then YL J a w b else []])
def ZR(f:bI->Rc)(ks:List bI): Rc:=ks.foldl (λa l=>jP f l a) Rc.zero
def YX(a:bI->Rc->Bs)(k:bI->Rc)(b:List bI)(l:bI)(w:Rc): List Bs:=
 if l.ag3=ca then []
 else if l.ag1=3 then (if XD (ZR k b.reverse) (l.wide w)=ca then [J.join [XT,XR l.Xg l.ks l.cs,aay J a b l w]] else [])
 else if XD (k l) w=ca then [J.join [Zw,Qz l.mode,aay J a b l w,a l w]] else []
def YS(a:bI->Rc->Bs)(k:bI->Rc)(r:Rc): List bI->List bI->List Bs
 |_,[]=>[]
 |low,l::ks=>YX J a k low l (Zh ks r)++YS a k r (l::low) ks
def Yq(a:bI->Rc->Bs)(k:bI->Rc): List bI->List (bI×Rc)->List Bs
 |_,[]=>[]
 |low,x::xs=>YX J a k low x.1 x.2++Yq a k (x.1::low) xs
def Yc(a:List Int): List bI:=a.filterMap (dh ls)
def YU:Nat->bI->Rc->Bs
 |0,_,_=>[]
 |n+1,l,r0=>
  if XD (jG ls (n+1) l) r0.can=bX then J.join [Yf]
  else if l.ag1=1 then abn J sp l r0.can
  else if l.ag1=5 then ace J l
  else if l.ag1=4 then J.join [Yy,H6 l.agZ.ns,(match dh ls l.of with|some m=>YU n m ((l.agZ.need r0.can).can)|none=>[])]
  else J.join (XY::YS J (YU n) (jG ls n) r0.can [] (Yc ls l.ag0))
def Zf(n:Nat)(l:bI)(s:Rc): Bs:=
 if l.ag1=3 then
  (if XD (uk ls n l) s.can=bX then J.join [Yf]
   else J.join (XF::XR l.Xg l.ks l.cs::YS J (YU J ls sp n) (jG ls n) ((l.nd s.can).can) [] (Yc ls (JW ls l.id))))
 else YU J ls sp n l s
theorem aaC(a:bI->Rc->Bs)(w:Rc): ∀c:List bI,YL J a w c=YL J a w (c.filter λl=>!l.ag3)
 | []=>rfl
 |b::bs=>by
  cases g:b.ag3 with
  |true=>
   rw [List.filter_cons_of_neg oR,<-aaC a w bs];simp [YL,g]
  |false=>
   rw [List.filter_cons_of_pos oR];unfold YL;rw [aaC a w bs]
theorem aaM(f:bI->Rc){l:bI}(h:l.ag3=ca)(a:Rc): jP f l a=a:=by unfold jP;rw [aG h]
theorem abJ(f:bI->Rc)(ks:List bI): ∀a:Rc,ks.foldl (λa l=>jP f l a) a=(ks.filter λl=>!l.ag3).foldl (λa l=>jP f l a) a:=by
 induction ks with
 |nil=>intro a;rfl
 |cons b bs ih=>
  intro a;cases g:b.ag3 with
  |true=>rw [List.filter_cons_of_neg oR,List.foldl_cons,aaM f g,ih]
  |false=>rw [List.filter_cons_of_pos oR,List.foldl_cons,List.foldl_cons,ih]
theorem ad3(a:bI->Rc->Bs)(k:bI->Rc)(b:List bI)(l:bI)(w:Rc): YX J a k b l w=YX J a k (b.filter λl=>!l.ag3) l w:=by unfold YX aay;rw [<-aaC];unfold ZR;rw [abJ k b.reverse,<-List.filter_reverse]
theorem Zn(a:bI->Rc->Bs)(k:bI->Rc)(r:Rc): ∀(ks b:List bI),YS J a k r b ks=Yq J a k (b.filter λl=>!l.ag3) (Ye ks r)
 | [],_=>rfl
 |l::ks,b=>by
  unfold YS Ye;cases g:l.ag3 with
  |true=>
   rw [aG rfl,Zn a k r ks (l::b),List.filter_cons_of_neg oR];have:YX J a k b l (Zh ks r)=[]:=(by unfold YX;rw [aG g]);rw [this,List.nil_append]
  |false=>
   rw [aF lz,Zn a k r ks (l::b),List.filter_cons_of_pos oR];show _=YX J a k (b.filter λl=>!l.ag3) l (Zh ks r)++_;rw [<-ad3]
end
end
theorem XO(l:List (List UInt8))(V:bB): DR (V.alloc (bv ⟨l.map sv⟩ 9)) (bz ⟨V,0,bA⟩) l.length l:=by refine⟨rfl,λj k=>⟨_,_,rfl,?_⟩⟩;rw [aA _ _ _ _ _ _ (bE V _),Nat.zero_add];simp [List.getD,k,sv]
theorem Zr(a b c d:BAr)(V:bB): (Instr.buildSlice 107 4 #[(0,bb a),(1,bb b),(2,bb c),(3,bb d)]).run bS V=.ok (bc (bz ⟨V,0,bA⟩) 4 4) (V.alloc (bv #[bb a,bb b,bb c,bb d] 9)):=lB
theorem Zd(a b c:BAr)(V:bB): (Instr.buildSlice 107 3 #[(0,bb a),(1,bb b),(2,bb c)]).run bS V=.ok (bc (bz ⟨V,0,bA⟩) 3 3) (V.alloc (bv #[bb a,bb b,bb c] 9)):=lB
theorem Ym{u:bB}{b:Nat}{m:bI}(h:u.heap[b]?=bz (bv ⟨m.row⟩ 51 (0,0))): (Instr.loadAt 40 (bj (bz ⟨b,7,bA⟩))).run bS u=.ok m.agZ.v u:=
 bF u b 7 40 [m.agZ.a,m.agZ.b,m.agZ.c,m.agZ.d,m.agZ.e,m.agZ.f,m.agZ.den] _ (gp h rfl) underlying40 rfl lB
theorem abb{u:bB}{b:Nat}{m:bI}(h:u.heap[b]?=bz (bv ⟨m.row⟩ 51 (0,0))): (Instr.loadAt 49 (bj (bz ⟨b,28,bA⟩))).run bS u=.ok (bt #[bc m.tA m.tn m.tc]) u:=
 bF u b 28 49 [bc m.tA m.tn m.tc] _ (gp h rfl) underlying49 rfl lB
theorem Zp{u:bB}{b:Nat}{m:bI}(h:u.heap[b]?=bz (bv ⟨m.row⟩ 51 (0,0))): (Instr.loadAt 43 (bj (bz ⟨b,17,bA⟩))).run bS u=.ok m.Xg.v u:=
 bF u b 17 43 [m.Xg.ag1,m.Xg.Xf,bc m.Xg.kA m.Xg.kn m.Xg.kc,m.Xg.div,m.Xg.value,bc m.Xg.cA m.Xg.cn m.Xg.cc] _ (gp h rfl) underlying43 rfl lB
theorem XU{u:bB}{b:Nat}{m:bI}(h:u.heap[b]?=bz (bv ⟨m.row⟩ 51 (0,0))): (Instr.loadAt 51 (bj (bz ⟨b,0,bA⟩))).run bS u=.ok m.v u:=
 bF u b 0 51 m.row _ (gp h lz) underlying51 rfl lB
theorem XP{u:bB}{b:Nat}{d:df}(h:u.heap[b]?=bz (bv #[bc d.sA d.sn d.sc,d.root,d.next,bc d.lA d.ln d.lc] 94 (0,0))): (Instr.loadAt 94 (bj (bz ⟨b,0,bA⟩))).run bS u=.ok d.v u:=
 bF u b 0 94 [bc d.sA d.sn d.sc,d.root,d.next,bc d.lA d.ln d.lc] _ (gp h rfl) underlying94 rfl lB
structure Bx(w:bB)(d:df)(m:bI)(r:Rc)(u:bB): Prop where
 t:bH [] w u
 h0:u.heap[w.heap.size]?=bz (bv #[bc d.sA d.sn d.sc,d.root,d.next,bc d.lA d.ln d.lc] 94 (0,0))
 h1:u.heap[w.heap.size+1]?=bz (bv ⟨m.row⟩ 51 (0,0))
 h2:u.heap[w.heap.size+2]?=bz (bv #[r.x0,r.y0,r.x1,r.y1] 59 (0,0))
theorem Bx.u{w u v:bB}{d:df}{m:bI}{r:Rc}(B:Bx w d m r u)(T:bH [] u v): Bx w d m r v:=
 ⟨B.t.t T,T.ox B.h0,T.ox B.h1,T.ox B.h2⟩
def fA(w:bB)(d:df)(m:bI)(r:Rc): bB:=((w.alloc (bv #[bc d.sA d.sn d.sc,d.root,d.next,bc d.lA d.ln d.lc] 94)).alloc (bv ⟨m.row⟩ 51)).alloc (bv #[r.x0,r.y0,r.x1,r.y1] 59)
theorem aav(w:bB)(d:df)(m:bI)(r:Rc): Bx w d m r (fA w d m r):=by
 unfold fA;refine⟨(((tR w).a _).a _).a _,?_,?_,?_⟩
 .simp only [Xx,aI];rw [aF gn,aF gn,aG lL]
 .simp only [Xx,aI];rw [aF gn,aG lL]
 simp only [Xx,aI];rw [aG lL]
theorem Zq{s:eF}{w:bB}(h:s.At w)(d:s.Good): s.n0<=1000/\s.n1<=1000/\s.n2<=1000/\(H6 s.ns).length<=10000:=by
 have p:=d.l0;have a:=d.l1;have u:=d.l2;unfold jh at p a u;simp only [az,decide_eq_true_eq]at p a u;have b:=h.l0.1;have I:=h.l1.1;have c:=h.l2.1;have i:=Dn s.ns;have G:s.ns.length=s.l0.length+1+(s.l1.length+1)+(s.l2.length+1)+9+9:=by simp [eF.ns,eF.pre,eF.cL,h.h1,h.h2];omega
 exact⟨gn,gn,gn,gn⟩
theorem ab1(d:df)(m:bI)(r:Rc)(hr:r.InC)(Q:m.agZ.ok=ca)(a5:m.Thin)(T:0<=m.space/\m.space<=1000)(H:0<m.space->∃s,d.ag2[(m.space-1).toNat]?=bz s/\s.Good)(w:bB)(E:d.At w)(G:m.At w)(y:YQ w):
  CR 83 #[d.v,m.v,r.v] w (bb ⟨(abn Jd d.ag2 m r).toArray⟩):=by
 obtain⟨S,i⟩:=eX (Zm d.ag2 m);have cV:=lh (aav w d m r);have R:abn Jd d.ag2 m r=fM [Yw,H6 m.agZ.ns,S,fM (ik ((m.agZ.need r).can) m.Xm)]:=by rw [i];rfl
 have af:S.length<=10000:=by
  rw [i];unfold Zm;split
  .rename_i e;obtain⟨s,q,x⟩:=H e;rw [q];have b:=E.ag2.2 _ s q;exact (Zq b.1 x).2.2.2
  simp
 have a0:(Le [Yw,H6 m.agZ.ns,S,fM (ik ((m.agZ.need r).can) m.Xm)]).length<=100000000000:=by have q:=Dn m.agZ.ns;have x:(fM (ik ((m.agZ.need r).can) m.Xm)).length=32:=XN _;have h3:m.agZ.ns.length=7:=rfl;simp only [Le,List.flatMap_cons,List.flatMap_nil,aO,En,List.length_nil,x];simp only [Yw,List.length_cons,List.length_nil];omega
 have L:=lh (λu=>ZU m.agZ Q r hr u);have ab:=lh (λu (t:bH [] w u)=>aaF m.Xm m.tA m.tn m.tc ((m.agZ.need r).can) a5.t u (G.Xm.u t) (y.u t));have J:=lh (λ(g:Nat) u (t:bH [] w u) (h:DR u (bz ⟨g,0,bA⟩) 4 [Yw,H6 m.agZ.ns,S,fM (ik ((m.agZ.need r).can) m.Xm)])=>XM _ _ 4 4 a0 u h (y.u t));rw [R];have bs:Hid (∀V:bB,DR (V.alloc (bv #[bb ⟨#[112,97,105,110,116]⟩,bb (lu m.agZ.ns),bb ⟨S.toArray⟩,bb ⟨(fM (ik ((m.agZ.need r).can) m.Xm)).toArray⟩] 9)) (bz ⟨V,0,bA⟩) 4 [Yw,H6 m.agZ.ns,S,fM (ik ((m.agZ.need r).can) m.Xm)]):=lh λV=>XO [Yw,H6 m.agZ.ns,S,fM (ik ((m.agZ.need r).can) m.Xm)] V;generalize fM [Yw,H6 m.agZ.ns,S,fM (ik ((m.agZ.need r).can) m.Xm)]=O,(⟨(fM (ik ((m.agZ.need r).can) m.Xm)).toArray⟩:BAr)=TB at *;generalize (m.agZ.need r).can=nr at *;obtain⟨ac,p,A⟩:=lh3 i (bg E (bg G y)) H;obtain⟨W,D⟩:=eX (fA w d m r);rw [<-D]at cV;have bf:W.cell? ⟨w+1,14,bA⟩=bz (be .i64 m.space):=by rw [aA _ _ _ _ _ _ cV.o.h1];rfl
 have X:W.cell? ⟨w,0,bA⟩=bz (bc d.sA d.sn d.sc):=by rw [aA _ _ _ _ _ _ cV.o.h0];rfl
 have f:=lh D;clear R a0 D E G y H Q a5 i;unfold fA at f;unfold df.v bI.v Rc.v;by_cases e:0<m.space
 .as_aux_lemma=>
  obtain⟨s,b,bp⟩:=A.o e;obtain⟨k,P⟩:∃k:Nat,m.space=(k:Int)+1:=⟨(m.space-1).toNat,gn⟩;rw [show (m.space-1).toNat=k by omega]at b;have j:S=H6 s.ns:=by rw [ac.o];unfold Zm;rw [aG e,show (m.space-1).toNat=k by omega,b]
  obtain⟨l,g,o,U,M⟩:=p.o.1.ag2.2 k s b;have a1:(k:Int)<(d.sn:Int):=by have q:=p.o.1.ag2.1;have x:=(ah.1 b).1;omega
  have a8:=Zq l bp;have an:=lh (λu (t:bH [] w u)=>acK s u (l.u t) ⟨a8.1,a8.2.1,a8.2.2.1⟩);have aE:=fJ cV.o.t M;have a2:IntKind.i64.wrap ((k:Int)+1-1)=(k:Int):=lD
  have N:(prog.info? 91).map (·.size)=bz s.row.length:=by rw [show s.row.length=21 by simp [eF.row,l.h1,l.h2]];kernel_rfl
  rw [P]at bf e;rw [U]at X;have F:lu s.ns=⟨S.toArray⟩:=by rw [j];rfl
  have z:=lh F;have a3:IntKind.i64.wrap (k:Int)=(k:Int):=lD
  clear l bp b a8 M j F ac A p U P;generalize a4:s.row=a6 at *;go_enter func83,ntmps83;go_upto_region 1 with fail
  rw [<-f.o];go_upto_region 4 with (first
   |(refine bM rfl 91 _ rfl _ _ rfl _ _ aE underlying91 rfl N ?_)
   |(go_at_call 141;refine mR (an.o _ cV.o.t) λB t3=>?_))
  rw [z.o];have Z:=lh (cV.o.u t3);clear cV aE N bf X an f e a2 a3 a1 T t3;generalize (⟨S.toArray⟩:BAr)=SB at *;as_aux_lemma=>
  go_upto_region 4 with fail
  refine sN 13 (tR B) λV i=>?_;refine fK 0 ?_;refine Xz 1 m.agZ.v (λw' c=>Ym (Z.o.u c).h1) ?_;refine fE 3 (bb SB) ?_;refine fK 4 ?_;refine Xz 5 (bt #[bc m.tA m.tn m.tc]) (λw' c=>abb (Z.o.u c).h1) ?_;refine fK 6 ?_;refine Xz 7 m.agZ.v (λw' c=>Ym (Z.o.u c).h1) ?_;refine Xz 8 r.v (λw' c=>Ob (Z.o.u c).h2) ?_;refine PR 2 (ZB m.agZ _) λc1 i _=>?_
  refine PR 9 (L.o _) λc2 i _=>?_
  refine PR 10 (ab.o _ (Z.o.t.t i)) λc3 i _=>?_
  have n:=i.alloc (bv #[bb ⟨#[112,97,105,110,116]⟩,bb (lu m.agZ.ns),bb SB,bb TB] 9);have I:=bs.o c3;refine ty 11 rfl (XI (t:=107) (x0:=.const (bb ⟨#[112,97,105,110,116]⟩)) (x1:=.tmp 22) (x2:=.tmp 23) (x3:=.tmp 30) rfl rfl rfl rfl rfl (Zr _ _ _ _ c3)) λK a=>?_;refine gK a n ?_;clear a K
  refine PR 12 (J.o _ _ (Z.o.t.t n) I) λc4 C _=>?_
  refine eH 13 (λK a=>?_);go_simp;refine gZ a ?_;clear a K
  refine Wy ?_;go_wp2;go_ret;exact⟨rfl,Z.o.t.t C⟩
 as_aux_lemma=>
 have j:S=[]:=by rw [ac.o];unfold Zm;rw [aF e]
 have Y:m.space=0:=gn
 rw [Y]at bf;have F:(⟨S.toArray⟩:BAr)=⟨#[]⟩:=by rw [j]
 have z:=lh F;clear j F ac A p T;go_enter func83,ntmps83;go_upto_region 1 with fail
 rw [<-f.o];go_upto_region 4 with fail
 rw [<-z.o];have Z:=cV;clear cV bf X f e Y;generalize (⟨S.toArray⟩:BAr)=SB at *;obtain⟨B,b8⟩:=eX W;rw [<-b8]at Z ⊢;clear b8;as_aux_lemma=>
 go_upto_region 4 with fail
 refine sN 13 (tR B) λV i=>?_;refine fK 0 ?_;refine Xz 1 m.agZ.v (λw' c=>Ym (Z.o.u c).h1) ?_;refine fE 3 (bb SB) ?_;refine fK 4 ?_;refine Xz 5 (bt #[bc m.tA m.tn m.tc]) (λw' c=>abb (Z.o.u c).h1) ?_;refine fK 6 ?_;refine Xz 7 m.agZ.v (λw' c=>Ym (Z.o.u c).h1) ?_;refine Xz 8 r.v (λw' c=>Ob (Z.o.u c).h2) ?_;refine PR 2 (ZB m.agZ _) λc1 i _=>?_
 refine PR 9 (L.o _) λc2 i _=>?_
 refine PR 10 (ab.o _ (Z.o.t.t i)) λc3 i _=>?_
 have n:=i.alloc (bv #[bb ⟨#[112,97,105,110,116]⟩,bb (lu m.agZ.ns),bb SB,bb TB] 9);have I:=bs.o c3;refine ty 11 rfl (XI (t:=107) (x0:=.const (bb ⟨#[112,97,105,110,116]⟩)) (x1:=.tmp 22) (x2:=.tmp 23) (x3:=.tmp 30) rfl rfl rfl rfl rfl (Zr _ _ _ _ c3)) λK a=>?_;refine gK a n ?_;clear a K
 refine PR 12 (J.o _ _ (Z.o.t.t n) I) λc4 C _=>?_
 refine eH 13 (λK a=>?_);go_simp;refine gZ a ?_;clear a K
 refine Wy ?_;go_wp2;go_ret;exact⟨rfl,Z.o.t.t C⟩
theorem af2{u:bB}{g:Nat}(a b c e:Int)(h:u.heap[g]?=bz (bv #[be .u8 a,be .u8 b,be .u8 c,be .u8 e] 5 (0,0))):
  (convert 154 9 (bc (bz ⟨g,0,bA⟩) 4 4)).run bS u=.ok (bb ⟨[a.toNat.toUInt8,b.toNat.toUInt8,c.toNat.toUInt8,e.toNat.toUInt8].toArray⟩) u:=by
 rw [run_convert_bytes_string u 154 9 5 _ 4 4 underlying154 underlying5 underlying9];have i:=run_loadCells_list (P:=bS) u ⟨g,0,bA⟩ ([a,b,c,e].map (Value.int .u8)) (λj v k=>by
  rw [Addr.add_lit,Nat.zero_add,aA _ _ _ _ _ _ h];simpa using k)
 rw [run_bytesToString u ⟨g,0,bA⟩ 4 4 [a,b,c,e] i];rfl
def XZ(l:List (Int×Int)): List UInt8:=l.flatMap λp=>H6 [p.1,p.2]
theorem Zz:∀l:List (Int×Int),(XZ l).length<=20*l.length
 | []=>by simp [XZ]
 |p::l=>by
  have h:=Zz l;have f:=Dn [p.1,p.2];have e:XZ (p::l)=H6 [p.1,p.2]++XZ l:=by simp [XZ]
  rw [e,aO,List.length_cons];simp only [List.length_cons,List.length_nil]at f;omega
theorem abI{l:List (Int×Int)}{k:Nat}(h:k<l.length): XZ (l.take (k+1))=XZ (l.take k)++H6 [(l.getD k (0,0)).1,(l.getD k (0,0)).2]:=by unfold XZ;rw [aT h,List.flatMap_append,List.flatMap_singleton,show l.getD k (0,0)=l[k] by simp [List.getD,h]]
theorem acb(d:df)(m:bI)(r:Rc)(a5:m.Thin)(w:bB)(i:m.At w)(A:YQ w):
  CR 84 #[d.v,m.v,r.v] w (bb ⟨(ace Jd m).toArray⟩):=by
 have Z:=lh (aav w d m r);have I:ace Jd m=fM [YA,BA m,XZ m.pts]:=rfl;have X:=Zz m.pts;have F:=i.pts.1;have D:=a5.p;have a0:(Le [YA,BA m,XZ m.pts]).length<=100000000000:=nQ
 have J:=lh (λ(g:Nat) u (t:bH [] w u) (h:DR u (bz ⟨g,0,bA⟩) 3 [YA,BA m,XZ m.pts])=>XM _ _ 3 3 a0 u h (A.u t));have bs:Hid (∀V:bB,DR (V.alloc (bv #[bb ⟨#[115,104,97,112,101]⟩,bb ⟨(BA m).toArray⟩,bb ⟨(XZ m.pts).toArray⟩] 9)) (bz ⟨V,0,bA⟩) 3 [YA,BA m,XZ m.pts]):=lh λV=>XO [YA,BA m,XZ m.pts] V;have L:Hid (BA m=[m.f0.toNat.toUInt8,m.f1.toNat.toUInt8,m.f2.toNat.toUInt8,m.f3.toNat.toUInt8]):=lh rfl;rw [I];generalize fM [YA,BA m,XZ m.pts]=O at *;have q:=lh i.pts;have E:=lh (bg F D);obtain⟨W,f⟩:=eX (fA w d m r);rw [<-f]at Z;have br:W.cell? ⟨w+1,27,bA⟩=bz (bc m.pA m.pn m.pc):=mK
 have bk:W.cell? ⟨w+1,23,bA⟩=bz (be .u8 m.f0):=mK
 have bm:W.cell? ⟨w+1,24,bA⟩=bz (be .u8 m.f1):=mK
 have bo:W.cell? ⟨w+1,25,bA⟩=bz (be .u8 m.f2):=mK
 have bq:W.cell? ⟨w+1,26,bA⟩=bz (be .u8 m.f3):=mK
 have s:=lh (bg bk (bg bm (bg bo bq)));have b:=lh f;clear I a0 f i A a5 X F D bk bm bo bq;unfold fA at b;unfold df.v bI.v Rc.v;go_enter func84,ntmps84;go_upto_region 1 with fail
 rw [<-b.o];clear b;go_upto_region 3 with fail
 clear br;go_wp2;go_loopw [7,13] (λs7 s13 wr=>∃k:Nat,k<=m.pn/\s13=k/\s7=bb ⟨(XZ (m.pts.take k)).toArray⟩/\bH [] W wr) (λ_ s13 _=>m.pn-(intOf s13).toNat);case atStart=>exact⟨0,gn,rfl,rfl,bH.refl _ _⟩
 obtain⟨k,hk,rfl,rfl,T⟩:=hrel;by_cases S:k<m.pn
 .as_aux_lemma=>
  have a1:(k:Int)<(m.pn:Int):=gn
  obtain⟨g,o,U,hx,hy⟩:=((q.o.u Z.o.t).u T).2 k S;have C:=abI (l:=m.pts) (k:=k) (by have:=E.o.1;omega);have K:=Zz (m.pts.take k);rw [List.length_take]at K;have b6:=E.o.2;have a3:(⟨(XZ (m.pts.take k)).toArray⟩:BAr)++lu [(m.pts.getD k (0,0)).1,(m.pts.getD k (0,0)).2]=⟨(XZ (m.pts.take (k+1))).toArray⟩:=by rw [C,<-OC];rfl
  have Y:(⟨(XZ (m.pts.take k)).toArray⟩:BAr).size<=100000:=by show (XZ (m.pts.take k)).length<=100000;omega
  have G:=nT [(m.pts.getD k (0,0)).1,(m.pts.getD k (0,0)).2];generalize (m.pts.getD k (0,0)).1=x,(m.pts.getD k (0,0)).2=y at *;have d6:dn ((wr.alloc (bv #[x,y] 123)).alloc (bv #[x,y] 3)) (bz ⟨wr+1,0,bA⟩) 2 [x,y]:=by have:=Yl [x,y] (wr.alloc (bv #[x,y] 123));rw [aI]at this;exact this
  have a4:=lh (XX [x,y] _ 2 2 lG _ d6);have M:=lh ((T.alloc (bv #[x,y] 123)).alloc (bv #[x,y] 3));generalize lu [x,y]=nb,cG:(⟨(XZ (m.pts.take (k+1))).toArray⟩:BAr)=l1,(⟨(XZ (m.pts.take k)).toArray⟩:BAr)=l0 at *;have f1:¬9223372036854775807<l0.size+nb.size:=by simp only [List.length_cons,List.length_nil]at G;omega
  have Q:=lh (bg a3 cG);rw [U];clear C K a3 cG d6 Y G T;go_wp2_with (go_at_call 144;refine mR a4.o λw1 n=>?_)
  have a6:=E.o.2;go_roundw;case rel=>exact⟨k+1,gn,by go_num,by rw [Q.o.2,Q.o.1],M.o.t n⟩
  simp [intOf];omega
 obtain rfl:k=m.pn:=gn
 as_aux_lemma=>
 have B:m.pts.take m.pn=m.pts:=by rw [E.o.1,List.take_length]
 rw [B];obtain⟨a,j,c,e⟩:=s.o;have bk:=((bY T).1 _ _ (ai a)).t a;have bm:=((bY T).1 _ _ (ai j)).t j;have bo:=((bY T).1 _ _ (ai c)).t c;have bq:=((bY T).1 _ _ (ai e)).t e;have ba:=lh (aaS m.f0 m.f1 m.f2 m.f3 wr);have z:=T.alloc (bv #[be .u8 m.f0,be .u8 m.f1,be .u8 m.f2,be .u8 m.f3] 5);have R:=af2 m.f0 m.f1 m.f2 m.f3 (bE wr (bv #[be .u8 m.f0,be .u8 m.f1,be .u8 m.f2,be .u8 m.f3] 5));rw [<-L.o]at R;generalize wr.alloc (bv #[be .u8 m.f0,be .u8 m.f1,be .u8 m.f2,be .u8 m.f3] 5)=H at *;have a8:=bs.o H;have TB:=z.alloc (bv #[bb ⟨#[115,104,97,112,101]⟩,bb ⟨(BA m).toArray⟩,bb ⟨(XZ m.pts).toArray⟩] 9);have am:=lh (Zd ⟨#[115,104,97,112,101]⟩ ⟨(BA m).toArray⟩ ⟨(XZ m.pts).toArray⟩ H);generalize H.alloc (bv #[bb ⟨#[115,104,97,112,101]⟩,bb ⟨(BA m).toArray⟩,bb ⟨(XZ m.pts).toArray⟩] 9)=P at *;have av:=lh (J.o _ _ (Z.o.t.t TB) a8);have N:=lh (Z.o.t.t TB);generalize (⟨(BA m).toArray⟩:BAr)=FB,(⟨(XZ m.pts).toArray⟩:BAr)=PB at *;clear B a j c e z TB a8 J bs s q T Z;go_wp2_with (first
  |((with_reducible refine yA 38 (bc (bz ⟨wr,0,bA⟩) 4 4) H ?_ ?_);(next=>exact XI (t:=154) (x0:=.tmp 28) (x1:=.tmp 31) (x2:=.tmp 34) (x3:=.tmp 37) rfl rfl rfl rfl rfl ba.o);try go_frame)
  |((with_reducible refine yA 41 (bc (bz ⟨H,0,bA⟩) 3 3) P ?_ ?_);(next=>exact kY (t:=107) (x0:=.const (bb ⟨#[115,104,97,112,101]⟩)) (x1:=.tmp 39) (x2:=.tmp 40) rfl rfl rfl rfl am.o);try go_frame)
  |(go_at_call 82;refine mR av.o λw1 n=>?_))
 go_ret;exact⟨rfl,N.o.t n⟩
theorem ad9{w:bB}{base:Nat}{e:bP}{size:Nat}{v:bL}{n:Nat}{xs:List bL}(h:qJ w base e size v n xs): ∃A c,v=bc A n c/\n<=c:=by
 rcases h.2 with ⟨rfl,rfl⟩|⟨g,m,a,d,rfl,j,k,b,l,f,i⟩
 .exact⟨bA,0,rfl,aQ _⟩
 exact⟨_,a,rfl,b⟩
theorem afN{w:bB}{ty:bP}{A:Option Addr}{n c:Nat}(b:n<=c): (Builtin.append_ #[107,107] ty #[bc A n c,bc bA 0 0]).run bS w=.ok (bc A n c) w:=by
 obtain⟨i,Z,D,B,y⟩:=YG.info;have Q:prog.info? 9=bz i:=Z;cases A with
 |none=>simp [Builtin.append_,bR underlying107,sizeOf,typeInfo,Q,Builtin.lenOf,Builtin.firstCells,b]
 |some a=>simp [Builtin.append_,bR underlying107,sizeOf,typeInfo,Q,Builtin.lenOf,Builtin.firstCells,storeCells,b]
theorem XJ{X w:bB}{u:Nat}{v Y:bL}{l a:List (List UInt8)}(h:Yg w X.heap.size v l)(f:Yg w u Y a)(T:bH [] X w)(G:l.length+a.length<=100000)(ty:bP):
  ∃d w',(Builtin.append_ #[107,107] ty #[v,Y]).run bS w=.ok d w'/\Yg w' X.heap.size d (l++a)/\bH [] X w':=by
 rcases iK.form f with ⟨rfl,m⟩|⟨g,o,b,rfl,_,_,_,n⟩
 .have:a=[]:=by simpa [Yd]using m
  subst this;obtain⟨A,c,rfl,q⟩:=ad9 h.2;exact⟨_,w,afN q,by rw [List.append_nil];exact h,T⟩
 have i:(Yd a).length=a.length:=by simp [Yd]
 rw [i];obtain⟨d,w',e,z,N,s⟩:=zH (k:=YG) (t:=107) underlying107 h g o b a.length (news:=Yd a) i.symm (λr C=>f.1 r C) (λj r C=>n j r C) T.size (by simpa [Yd]using G) ty;exact⟨d,w',e,rT,fH T N (λg p=>(h.2.lt g p).1)⟩
theorem ZW:∀l:List (List UInt8),(Yd l).flatten=l.map sv
 | []=>rfl
 |a::l=>by rw [List.map_cons,<-ZW l];rfl
theorem Zx(l:List (List UInt8))(X w:bB)(T:bH [] X w)(e:l.length<=1000): Yg (w.alloc (bv ⟨l.map sv⟩ 9)) X.heap.size (bc (bz ⟨w,0,bA⟩) l.length l.length) l:=by
 refine⟨λq a=>?_,by rw [ZW];simp [Yd,YG],.inr ⟨w,0,l.length,⟨l.map sv⟩,?_,T.size,bE w _,by simp [Yd],by simp [maxLen];omega,by simp [YG],λj u o=>?_⟩⟩
 .obtain⟨s,_,rfl⟩:=List.mem_map.1 a;exact aa6 s
 .simp [Yd]
 rw [Nat.zero_add];rw [ZW]at o;simpa using o
theorem abX(d:df)(m:bI)(r:Rc)(a:List (List UInt8))(T:a.length<=90000)(a0:(Le (XY::a)).length<=100000000000)(w:bB)(l:YQ w)
  (q:∀u,bH [] w u->Calls bS 145 #[d.v,bc m.Xi m.Xh m.Xj,r.v] u λe w'=>(∃v,e=.returned v/\Yg w' u.heap.size v a)/\bH [] u w') :
  CR 86 #[d.v,m.v,r.v] w (bb ⟨(fM (XY::a)).toArray⟩):=by
 obtain⟨Z,U,J,B⟩:=lh4 (aav w d m r) q (λA n F u (t:bH [] w u) (h:DR u A n (XY::a))=>XM _ A n F a0 u h (l.u t)) T;obtain⟨W,g⟩:=eX (fA w d m r);rw [<-g]at Z;have bh:W.cell? ⟨w+1,15,bA⟩=bz (bc m.Xi m.Xh m.Xj):=mK
 have b3:=lh (YT ⟨#[103,114,111,117,112]⟩ W);have f:=(tR W).alloc (bv #[bb ⟨#[103,114,111,117,112]⟩] 9);have G:=lh (Zx [XY] W W (tR W) lG);have aD:(⟨[XY].map sv⟩:Array bL)=#[bb ⟨#[103,114,111,117,112]⟩]:=rfl;rw [aD]at G;have N:=((bY f).1 _ _ (ai bh)).t bh;generalize K:W.alloc (bv #[bb ⟨#[103,114,111,117,112]⟩] 9)=V,fM (XY::a)=O at *;have k:=lh (Z.o.u f);have a5:=lh (XP k.o.h0);have am:=lh (Ob k.o.h2);have c:=lh g;have j:=lh f;clear a0 g l q T aD f bh K;unfold fA at c;have a6:d.v=bt #[bc d.sA d.sn d.sc,d.root,d.next,bc d.lA d.ln d.lc]:=rfl;have p:m.v=bt ⟨m.row⟩:=rfl;have s:r.v=bt #[r.x0,r.y0,r.x1,r.y1]:=rfl;rw [a6,p,s]at *;clear a6 p s;go_enter func86,ntmps86;go_upto_region 1 with fail
 rw [<-c.o];clear c;go_wp2_with (first
  |((with_reducible refine yA 7 (bc (bz ⟨W,0,bA⟩) 1 1) V ?_ ?_);(next=>exact dV (t:=107) (x:=.const (bb ⟨#[103,114,111,117,112]⟩)) rfl rfl b3.o);try go_frame)
  |(refine lR 8 a5.o ?_)
  |(refine lR 11 am.o ?_)
  |(go_at_call 145;(with_reducible refine (U.o V (Z.o.t.t j.o)).mono ?_);rintro e Q ⟨⟨P,rfl,L⟩,y⟩;obtain⟨Y,i,C,D,E⟩:=XJ (G.o.u y) L (j.o.t y) (by have:=B.o;simp;omega) 107;obtain⟨b,I,c2,rfl,a8⟩:=D.strs;have a8:DR i b I (XY::a):=a8;have z:=lh C;have H:=lh (bg a8 (Z.o.t.t E)))
  |((with_reducible refine yA 13 (bc b I c2) i ?_ ?_);(next=>exact dL (.tmp 7) (.tmp 12) 107 rfl rfl rfl z.o);try go_frame)
  |(go_at_call 82;refine mR (J.o b I c2 i H.o.2 H.o.1) λR M=>?_))
 go_ret;exact⟨rfl,H.o.2.t M⟩
