import Derived.Test.YtaahejdimjbhhaaGreatDoorK28
set_option maxRecDepth 100000
set_option maxHeartbeats 0
set_option linter.all false
namespace Go.Proofs.YtaahejdimjbhhaaGreatDoor
open Tryz Go.RowKit Go.Den
open Go.Obj renaming cells->bb
open Go.Value renaming string->bc,slice->bd,int->be,pointer->bf,agg->bh,bool->bj
open Option renaming some->bk,none->bl
open Go renaming World->bm,heap_alloc_new->bo,Value->bp,run_loadAt_mid->bq,Addr->br,TypeId->bt,maxLen->bv
open Go.RowKit renaming intOf->bw,wrap64->bx,Below->bz
open Go.Proofs.Tryz renaming underlying154->bA,prog->bB,zeroCells181->bE,underlying80->bF,underlying5->bL,underlying9->bM
theorem afy(ps:List (List UInt8))(A:Option br)(n cap:Nat)(z:(Le ps).length<=100000000000)(w:bm)(j:DR w A n ps):
  CR 148 #[bd A n cap] w (bc ⟨(Le ps).toArray⟩):=by
 have O:n<=100000000000:=by have:=aa3 ps;have:=j.1;omega
 have q:=lh j.1;have y:=lh j;obtain⟨R,B⟩:∃R:BAr,R=⟨(Le ps).toArray⟩:=⟨_,rfl⟩;rw [<-B];have C:=lh B;clear B j;go_enter func148,ntmps148;go_upto_region 3 with fail
 go_wp2;go_loopw [3,4] (λs3 s4 wx=>∃k:Nat,k<=n/\s4=k/\s3=bc ⟨(Le (ps.take k)).toArray⟩/\bH [] w wx) (λ_ s4 _=>n-(bw s4).toNat);case atStart=>exact⟨0,gn,rfl,rfl,bH.refl _ _⟩
 obtain⟨k,I,rfl,rfl,TB⟩:=hrel;by_cases a5:k<n
 .as_aux_lemma=>
  have Y:(k:Int)<(n:Int):=gn
  obtain⟨g,o,rfl,b⟩:=(y.o.u TB).2 k a5;have a:=aby (l:=ps) (k:=k) ou;have e:=aax ps (k+1);rw [a]at e;simp only [aO,En]at e;generalize ps.getD k []=s at *;have ar:(⟨s.toArray⟩:BAr).size=s.length:=rfl;have p:=λu=>acr s.length gn u;have J:(⟨(Le (ps.take k)).toArray⟩:BAr).size=(Le (ps.take k)).length:=rfl;have T:(⟨(XA s.length 8).toArray⟩:BAr).size=8:=En _ _;have a3:(⟨(Le (ps.take k)).toArray⟩:BAr)++⟨(XA s.length 8).toArray⟩++⟨s.toArray⟩=⟨(Le (ps.take (k+1))).toArray⟩:=by rw [OC,OC,a]
  have G:IntKind.u64.wrap (s.length:Int)=(s.length:Int):=lD
  generalize cG:(⟨(Le (ps.take (k+1))).toArray⟩:BAr)=L,(Le (ps.take k)).length=v,(⟨(Le (ps.take k)).toArray⟩:BAr)=h,(⟨(XA s.length 8).toArray⟩:BAr)=d,(⟨s.toArray⟩:BAr)=S at *;generalize s.length=m at *;have E:¬9223372036854775807<v+8:=gn
  have F:¬9223372036854775807<v+8+m:=gn
  have U:=lh p;have Q:=lh (bg a3 cG);clear a p e a3 cG y q z;go_upto_region 5 with fail
  refine sN 14 (tR wr) λV i=>?_;refine fE 0 (bc h) ?_;refine fE 1 (bd (bk ⟨g,o,bl⟩) n cap) ?_;refine fE 2 (k:Int) ?_;refine fK 3 ?_;refine Xy 4 (bc S) (λw' c=>((bY c).1 _ _ (ai b)).t b) ?_;refine fE 5 (m:Int) ?_;refine fE 6 (be .u64 (m:Int)) ?_;refine fE 9 (bd (bk ⟨g,o,bl⟩) n cap) ?_;refine fE 10 (k:Int) ?_;refine fK 11 ?_;refine Xy 12 (bc S) (λw' c=>((bY c).1 _ _ (ai b)).t b) ?_;refine PR 7 (U.o _) λM i D=>?_
  refine fE 8 (bc (h++d)) ?_;refine fE 13 (bc (h++d++S)) ?_;refine eH 14 (λK f=>?_);go_simp;refine gZ f ?_;clear f K
  refine Wy ?_;have x:=TB.t i;clear U D b;go_wp2;go_roundw;case rel=>exact⟨k+1,gn,by go_num,by rw [Q.o.2,Q.o.1],x⟩
  simp [bw];omega
 obtain rfl:k=n:=gn
 rw [q.o,List.take_length,<-C.o];have H:=lh TB;rw [<-q.o];clear TB;go_wp2;go_ret;exact⟨rfl,H.o⟩
theorem ad1(ps:List (List UInt8))(A:Option br)(n cap:Nat)(g:(Le ps).length<=100000000000)(w:bm)(j:DR w A n ps):
  CR 88 #[bd A n cap] w (bc ⟨(fM ps).toArray⟩):=by
 have a:=lh (afy ps A n cap g w j);have G:=lh (λu=>ads (Le ps) gn u);have k:fM ps=YD (Le ps):=rfl;rw [k];generalize (⟨(YD (Le ps)).toArray⟩:BAr)=R,(⟨(Le ps).toArray⟩:BAr)=S at *;clear j k;go_enter func88,ntmps88;go_wp2_with (first
  |(go_at_call 148;refine mR a.o λe i=>?_)
  |(go_at_call 147;refine mR (G.o _) λb m=>?_))
 go_ret;exact⟨rfl,i.t m⟩
theorem adv(V:bm): (Instr.buildSlice 154 0 #[]).run bB V=.ok (bd (bk ⟨V,0,bl⟩) 0 0) (V.alloc (bb #[] 5)):=lB
theorem aeZ{w u:bm}{base n size:Nat}{e:bt}{v:bp}{xs:List bp}(h:w.ownsRow base e size v n xs)(T:bH [] w u): u.ownsRow base e size v n xs:=
 ⟨h.1,h.2.imp id (by
  rintro⟨g,a,b,l,d,c,r⟩;exact⟨g,a,b,l,d,T.ox c,r⟩)⟩
theorem ac7{X w u:bm}{B:Nat}(h:bz B X w)(T:bH [] w u)(v:B<=w.heap.size): bz B X u:=
 ⟨T.os.t h.os,T.tape.t h.tape,T.output.t h.output,aK h.size T.size,λj k=>(T.old j gn lz).t (h.block j k)⟩
theorem adb(a:List Int)(hp:jo a)(w:bm): CR 156 #[tv a] w (bc ⟨(XW a).toArray⟩):=by
 obtain⟨i0,hi,an,ao,ap⟩:=info_parts VG;obtain⟨v,hb⟩:=hp;have aD:=λk hk=>af8 v k hk;have a2:=aaE hb;have a6:(XW a).length=256:=by simp [XW,v]
 have a5:a.take 256=a:=by rw [<-v,List.take_length]
 have ax:∀q,q<256->(⟨a.map (Value.int .u8)⟩:Array bp)[q]?=bk (be .u8 (a.getD q 0)):=λq E=>by simp [List.getD,v,E]
 unfold tv;obtain⟨a8,m,n⟩:=lh3 aD (bg a2 (bg a6 a5)) ax;clear aD a2 a6 a5 hb ax;generalize (⟨a.map (Value.int .u8)⟩:Array bp)=l at *;have O:=(tR w).alloc (bb l 80);have a0:=bo w (bb l 80);have am:(w.alloc (bb l 80)).heap.size=w.heap.size+1:=aI _ _;generalize Z:w.alloc (bb l 80)=X at *;have M:=lh Z;have I:bz X.heap.size X (X.alloc (bb #[] 5)):=(Below.refl _ X).alloc (aQ _) _;have O0:(X.alloc (bb #[] 5)).ownsRow X.heap.size 5 1 (bd (bk ⟨X,0,bl⟩) 0 0) (0*4) ((a.take (0*4)).map (Value.int .u8)):=
  ⟨lz,.inr ⟨X,0,#[],lz,aQ _,bo X _,gn,lG,rfl,lz⟩⟩
 have ba:=lh (adv X);clear Z;go_enter func156,ntmps156;go_upto_region 1 with fail
 rw [M.o];go_upto_region 2 with ((with_reducible refine yA 5 (bd (bk ⟨X,0,bl⟩) 0 0) (X.alloc (bb #[] 5)) ?_ ?_);(next=>exact gm (vs:=#[]) rfl lz ba.o);try go_frame)
 clear M ba;have z:=lh (bg O (bg a0 am));clear O a0 am;go_wp2;go_loopw [3,4] (λs3 s4 wr=>∃k:Nat,k<=64/\s4=k/\wr.ownsRow X.heap.size 5 1 s3 (k*4) ((a.take (k*4)).map (Value.int .u8))/\bz X.heap.size X wr) (λ_ s4 _=>64-(bw s4).toNat);case atStart=>exact⟨0,gn,rfl,O0,I⟩
 clear O0 I;obtain⟨k,hk,rfl,d,TB⟩:=hrel;by_cases af:k<64
 .as_aux_lemma=>
  have aD:=a8.o k af;have b:wr.heap[w.heap.size]?=bk (bb l 80 (0,0)):=(TB.block _ (by have:=z.o.2.2;omega)).t z.o.2.1;have R:wr.cell? ⟨w,k*4,bl⟩=bk (be .u8 (a.getD (k*4) 0)):=nF
  have S:wr.cell? ⟨w,k*4+1,bl⟩=bk (be .u8 (a.getD (k*4+1) 0)):=nF
  have T:wr.cell? ⟨w,k*4+2,bl⟩=bk (be .u8 (a.getD (k*4+2) 0)):=nF
  have U:wr.cell? ⟨w,k*4+3,bl⟩=bk (be .u8 (a.getD (k*4+3) 0)):=nF
  generalize a.getD (k*4) 0=B,a.getD (k*4+1) 0=J,a.getD (k*4+2) 0=Q,a.getD (k*4+3) 0=D at *;have L:=lh aD;have aq:(k:Int)<64:=gn
  have G:=lh (bg d TB);have a3:w.heap.size∉dI u3:=λhm=>by have:=((qJ.of_own d).lt _ hm).1;have:=z.o.2.2;omega
  have aL:Hid (∀w',bH (dI u3) wr w'->∀i,w'.cell? ⟨w,i,bl⟩=wr.cell? ⟨w,i,bl⟩):=lh λw' t i=>by simp only [World.cell?];rw [t.old _ (ae.1 b).1 a3]
  clear aD d TB b a3;go_upto_region 5 with fail
  refine cu.start (λw'=>bH (dI u3) wr w') 19 lB ?_;have ad:bH [] wr wr.drew:=(tR wr).drawn 1;have Y:bH (dI u3) wr wr.drew:=ad.mono lz;generalize wr.drew=V at *;refine fE 0 u3 ?_;refine fE 1 (k:Int) ?_;refine fK 2 ?_;refine fK 3 ?_;refine Xy 4 (be .u8 B) (λw' f=>(aL.o w' f _).t R) ?_;refine fE 5 (k:Int) ?_;refine fK 6 ?_;refine fK 7 ?_;refine Xy 8 (be .u8 J) (λw' f=>(aL.o w' f _).t S) ?_;refine fE 9 (k:Int) ?_;refine fK 10 ?_;refine fK 11 ?_;refine Xy 12 (be .u8 Q) (λw' f=>(aL.o w' f _).t T) ?_;refine fE 13 (k:Int) ?_;refine fK 14 ?_;refine fK 15 ?_;refine Xy 16 (be .u8 D) (λw' f=>(aL.o w' f _).t U) ?_;have N:V.ownsRow X.heap.size 5 1 u3 (k*4) ((a.take (k*4)).map (Value.int .u8)):=aeZ G.o.1 ad;have y:bz X.heap.size X V:=ac7 G.o.2 ad G.o.2.size;have x:=N.alloc (bb #[be .u8 B,be .u8 J,be .u8 Q,be .u8 D] 5);have p:=y.alloc (o:=bb #[be .u8 B,be .u8 J,be .u8 Q,be .u8 D] 5) y.size;have W:=bo V (bb #[be .u8 B,be .u8 J,be .u8 Q,be .u8 D] 5);have sA:(V.alloc (bb #[be .u8 B,be .u8 J,be .u8 Q,be .u8 D] 5)).heap.size=V.heap.size+1:=aI _ _;have F:=Y.alloc (bb #[be .u8 B,be .u8 J,be .u8 Q,be .u8 D] 5);have ba:=lh (aaS B J Q D V);obtain⟨v',H,a1,a4,A,_⟩:=run_append_own (P:=bB) _ X.heap.size 154 154 5 i0 (be .u8 0) 1 1 bA hi an ao ap rfl lG u3 (k*4) _ x ⟨V,0,bl⟩ 4 4 [be .u8 B,be .u8 J,be .u8 Q,be .u8 D] rfl (λj u C=>by
   rw [Addr.add_lit,aA _ _ _ _ _ _ W];simpa using C) (λu hu=>by
   simp only [aS,List.mem_nil_iff,or_false]at hu;rcases hu with rfl|rfl|rfl|rfl<;>rfl) (by unfold bv;omega) gn p.size
  have a9:bz X.heap.size X H:=p.grown A p.size (λq E=>(x.lt q E).1);refine ty 17 rfl (XI (t:=154) (x0:=.tmp 14) (x1:=.tmp 18) (x2:=.tmp 22) (x3:=.tmp 26) rfl rfl rfl rfl rfl ba.o) λK c=>?_;refine gK c F ?_;clear c K
  refine ty 18 rfl (dL (.tmp 10) (.tmp 27) 154 rfl rfl rfl a1) λK c=>?_;have tW:bH (dI u3) wr H:=F.t (CJ A);refine gK c tW ?_;clear c K
  refine eH 19 (λK c=>?_);go_simp;refine gZ c ?_;clear c K
  refine Wy ?_;have O2:H.ownsRow X.heap.size 5 1 v' ((k+1)*4) ((a.take ((k+1)*4)).map (Value.int .u8)):=by rw [show (k+1)*4=k*4+4 by omega,L.o,List.map_append];exact a4
  clear a4 A a1 ba F sA W p x y N Y ad tW R S T U aL L G;go_wp2;go_roundw;case rel=>exact⟨k+1,gn,by go_num,O2,a9⟩
  simp [bw];omega
 obtain rfl:k=64:=gn
 as_aux_lemma=>
 rw [m.o.2.2,<-m.o.1]at d;have aa:=m.o.2.1;generalize aw:XW a=bs at *;have a7:=lh aw;clear aw;obtain⟨g,h,s,rfl,ac⟩:∃g h s,u3=bd (bk ⟨g,0,bl⟩) 256 h/\wr.heap[g]?=bk (bb s 5 (0,0)):=by
  rcases d.2 with ⟨_,b⟩|⟨g,h,s,e,_,hg,_⟩
  .omega
  exact⟨g,h,s,e,hg⟩
 have ab:=run_convert_bytes_back (P:=bB) wr 154 9 5 ⟨g,0,bl⟩ h bs bA bL bM (λj C=>d.cells rfl j _ (ET _ C));rw [aa]at ab;clear ac m d;go_wp2;go_ret;exact⟨by rw [a7.o];rfl,z.o.1.t (Yp (tR X) TB rfl)⟩
theorem aeM(a:List Int)(b:jo a)(w:bm): CR 155 #[tv a] w (bc ⟨(YD (XW a)).toArray⟩):=by
 have a2:=run_loadVar_row (P:=bB) _ w.heap.size 80 80 ⟨a.map (Value.int .u8)⟩ (0,0) _ (bo w _) bF rfl pJ;have Z:=lh (λu=>adb a b u);have G:=lh (λu=>ads (XW a) (by simp [XW,b.1]) u);have c:=(tR w).alloc (bb ⟨a.map (Value.int .u8)⟩ 80);have f:tv a=bh ⟨a.map (Value.int .u8)⟩:=rfl;rw [f]at Z ⊢;generalize (⟨a.map (Value.int .u8)⟩:Array bp)=d at *;obtain⟨W,m⟩:=eX (w.alloc (bb d 80));rw [<-m]at a2 c;have b8:=lh a2;have e:=lh m;clear m a2 f;generalize YD (XW a)=R at *;go_enter func155,ntmps155;go_upto_region 1 with fail
 rw [<-e.o];go_wp2_with (first
  |((with_reducible refine NR (v:=bh d) ?_ 80 (.tmp 1) ?_ ?_ b8.o ?_);(next=>rfl);(next=>rfl);(next=>rfl);try go_frame)
  |(go_at_call 156;refine mR (Z.o _) λh i=>?_)
  |(go_at_call 147;refine mR (G.o _) λj g=>?_))
 go_ret;exact⟨rfl,(c.t i).t g⟩
def ZJ(x y:Int): Rc:=⟨bx (8*x),bx (8*y),bx (bx (8*x)+8),bx (bx (8*y)+8)⟩
theorem ZM(z:Int): IntKind.i64.wrap z=bx z:=nI
def Y8(x y:Int): bp:=bh #[x,y]
def XD(a b:Rc): Bool:=!(a.meet b).empty
theorem acs(x y:Int)(w:bm): Calls bB 35 #[Y8 x y] w λe w'=>e=.returned (ZJ x y).v/\bH [] w w':=by
 unfold Y8 ZJ Rc.v;obtain⟨a,C⟩:=eX (bx (8*x));obtain⟨b,h⟩:=eX (bx (8*y));obtain⟨c,j⟩:=eX (bx (a+8));obtain⟨d,E⟩:=eX (bx (b+8));dsimp only;rw [<-C,<-h,<-j,<-E];have A:IntKind.i64.wrap (8*x)=a:=(ZM _).t C.symm;have F:IntKind.i64.wrap (8*y)=b:=(ZM _).t h.symm;have G:IntKind.i64.wrap (a+8)=c:=(ZM _).t j.symm;have jd:IntKind.i64.wrap (b+8)=d:=(ZM _).t E.symm;have H:=C.symm;have I:=h.symm;have L:=j.symm;have M:=E.symm;clear C h j E;obtain⟨W,m⟩:=eX ((w.alloc (bb #[x,y] 24)).alloc (bb #[(0:Int),(0:Int),(0:Int),(0:Int)] 59));have g:bH [] w W:=m▸((tR w).a _).a _;have k:W.heap[w.heap.size]?=bk (bb #[x,y] 24 (0,0)):=by rw [m];exact (((bH.refl [] (w.alloc (bb #[x,y] 24))).a _).old _ lz lz).t (bo _ _)
 have q:W.heap[w.heap.size+1]?=bk (bb #[(0:Int),(0:Int),(0:Int),(0:Int)] 59 (0,0)):=by rw [m,show w.heap.size+1=(w.alloc (bb #[x,y] 24)).heap.size by simp];exact bo _ _
 have B:W.cell? ⟨w,0,bl⟩=bk (be .i64 x):=by rw [aA _ _ _ _ _ _ k];rfl
 have c1:W.cell? ⟨w,1,bl⟩=bk (be .i64 y):=by rw [aA _ _ _ _ _ _ k];rfl
 have p:=lh m;clear m;go_enter func35,ntmps35;go_upto_region 1 with fail
 rw [<-p.o];refine sN 7 (tR W) λV l=>?_;refine fK 0 ?_;refine Xy 1 x (λw' n=>((bY n).1 _ _ (ai B)).t B) ?_;refine fE 2 a ?_;refine fK 3 ?_;refine Xy 4 y (λw' n=>((bY n).1 _ _ (ai c1)).t c1) ?_;refine fE 5 b ?_;refine fE 6 a ?_;refine eH 7 (λK s=>?_);go_simp;refine gZ s ?_;clear s K
 refine Wy ?_;have f:V.heap[w.heap.size+1]?=bk (bb #[(0:Int),(0:Int),(0:Int),(0:Int)] 59 (0,0)):=l.ox q;have u:=g.t l;clear B c1 k q p g l;have N:∀i,V.frozen? ⟨w+1,i,bl⟩=false:=λi=>by simp [World.frozen?,f]
 have J:V.cell? ⟨w+1,0,bl⟩=bk (be .i64 0):=nm
 have Q:V.cell? ⟨w+1,1,bl⟩=bk (be .i64 0):=nm
 have D:V.cell? ⟨w+1,2,bl⟩=bk (be .i64 0):=nm
 have z:V.cell? ⟨w+1,3,bl⟩=bk (be .i64 0):=nm
 have g:=u;go_wp2;refine ag (v:=bh #[a,b,c,d]) (by simp [results,results35,go_sem,J,Q,D,z]) rfl ⟨rfl,((((g.sc).sc).sc).sc)⟩
theorem adw(x y:Int)(w:bm): Calls bB 41 #[Y8 x y] w λe w'=>e=.returned (ZJ x y).v/\bH [] w w':=by unfold Y8 ZJ Rc.v;obtain⟨a,C⟩:=eX (bx (8*x));obtain⟨b,g⟩:=eX (bx (8*y));obtain⟨c,f⟩:=eX (bx (a+8));obtain⟨d,E⟩:=eX (bx (b+8));dsimp only;rw [<-C,<-g,<-f,<-E];have A:IntKind.i64.wrap (8*x)=a:=(ZM _).t C.symm;have F:IntKind.i64.wrap (8*y)=b:=(ZM _).t g.symm;have G:IntKind.i64.wrap (a+8)=c:=(ZM _).t f.symm;have jd:IntKind.i64.wrap (b+8)=d:=(ZM _).t E.symm;have H:=C.symm;have I:=g.symm;have m:=f.symm;have i:=E.symm;clear C g f E;have h:bH [] _ _:=((tR w).alloc (bb #[x,y] 24)).alloc (bb #[(0:Int),(0:Int),(0:Int),(0:Int)] 59);go_enter func41,ntmps41;go_wp2;exact ag (v:=bh #[a,b,c,d]) (by simp [results,results41,go_sem]) rfl ⟨rfl,((tR w).a _).a _⟩
theorem Yr(a b:Rc)(w:bm): CR 81 #[a.v,b.v] w (bj (XD a b)):=by
 have e:=λu=>xJ a b u;have k:=λu=>iF (a.meet b) u;have C:XD a b=!(a.meet b).empty:=rfl;rw [C];clear C;generalize (a.meet b).empty=q at *;generalize a.meet b=m at *;obtain⟨g,h,d,l⟩:=a;obtain⟨p,s,f,x⟩:=b;obtain⟨y,z,A,B⟩:=m;simp only [Rc.v]at *;have Z:=lh e;have j:=lh k;clear e k;have c:bH [] _ _:=((tR w).alloc (bb #[g,h,d,l] 59)).alloc (bb #[p,s,f,x] 59);go_enter func81,ntmps81;go_wp2_with (first
  |(go_at_call 128;refine mR (Z.o _) λD i=>?_)
  |(go_at_call 68;refine mR (j.o _) λE n=>?_))
 go_ret;exact⟨rfl,(c.t i).t n⟩
theorem YW(a b:Rc)(w:bm): CR 91 #[a.v,b.v] w (bj (XD a b)):=by
 have e:=λu=>Gl a b u;have k:=λu=>iM (a.meet b) u;have C:XD a b=!(a.meet b).empty:=rfl;rw [C];clear C;generalize (a.meet b).empty=q at *;generalize a.meet b=m at *;obtain⟨g,h,d,l⟩:=a;obtain⟨p,s,f,x⟩:=b;obtain⟨y,z,A,B⟩:=m;simp only [Rc.v]at *;have Z:=lh e;have j:=lh k;clear e k;have c:bH [] _ _:=((tR w).alloc (bb #[g,h,d,l] 59)).alloc (bb #[p,s,f,x] 59);go_enter func91,ntmps91;go_wp2_with (first
  |(go_at_call 149;refine mR (Z.o _) λD i=>?_)
  |(go_at_call 111;refine mR (j.o _) λE n=>?_))
 go_ret;exact⟨rfl,(c.t i).t n⟩
theorem XM(ps:List (List UInt8))(A:Option br)(n cap:Nat)(g:(Le ps).length<=100000000000)(w:bm)(j:DR w A n ps)(b:YQ w):
  CR 82 #[bd A n cap] w (bc ⟨(fM ps).toArray⟩):=by
 have q:=lh (abV ps A n cap g w j b);generalize (⟨(fM ps).toArray⟩:BAr)=R at *;clear j b;go_enter func82,ntmps82;go_wp2_with (go_at_call 32;refine mR q.o λe i=>?_)
 go_ret;exact⟨rfl,i⟩
theorem XQ(ps:List (List UInt8))(A:Option br)(n cap:Nat)(g:(Le ps).length<=100000000000)(w:bm)(j:DR w A n ps):
  CR 37 #[bh #[bj false],bd A n cap] w (bc ⟨(fM ps).toArray⟩):=by
 have c:=(tR w).alloc (bb #[bj false] 103);have q:=lh (ad1 ps A n cap g _ (j.u c));generalize (⟨(fM ps).toArray⟩:BAr)=R at *;clear j;go_enter func37,ntmps37;go_wp2_with (go_at_call 88;refine mR q.o λe i=>?_)
 go_ret;exact⟨rfl,c.t i⟩
theorem XX(l:List Int)(A:Option br)(n cap:Nat)(i:n<=100000)(w:bm)(h:dn w A n l):
  CR 144 #[bd A n cap] w (bc (lu l)):=by
 obtain⟨G,j⟩:=h;have y:=lh j;have q:=lh G;clear j G;go_enter func144,ntmps144;go_wp2_with fail
 go_loopw [3,8] (λs3 s8 wr=>∃k:Nat,k<=n/\s3=bc (lu (l.take k))/\s8=k/\bH [] w wr) (λ_ s8 _=>n-(bw s8).toNat);case atStart=>exact⟨0,gn,rfl,rfl,bH.refl _ _⟩
 obtain⟨k,d,rfl,rfl,T⟩:=hrel;by_cases a5:k<n
 .obtain⟨g,o,rfl,b⟩:=y.o k a5;have ax:wr.cell? ⟨g,o+k,bl⟩=bk (be .i64 (l.getD k 0)):=((bY T).1 g _ (ai b)).t b;have a:=JE (l.take k) (l.getD k 0);rw [NQ qe]at a;have D:=lh a;have ar:¬9223372036854775807<(lu (l.take k)).size+(MZ (l.getD k 0)).size:=by have e:=nT (l.take k);have f:=Oa (l.getD k 0);rw [List.length_take]at e;omega
  clear a b;generalize l.getD k 0=z at *;have c:=lh (λu=>NL z u);have H:=lh T;clear T;go_wp2_with (go_at_call 33;refine mR (c.o _) λm aR=>?_)
  go_roundw;case rel=>exact⟨k+1,gn,by rw [<-D.o],by go_num,H.o.t aR⟩
  simp [bw];omega
 obtain rfl:k=n:=gn
 have H:=lh T;clear T;go_wp2;go_ret;exact⟨qt,H.o⟩
theorem Yj(n:Int)(w:bm): CR 38 #[n] w (bc (MZ n)):=by
 obtain⟨C,v,B,L,aD⟩:=info_parts VG;have O:=AZ n;have z:∀(l:List UInt8),Qz n=l->(Value.string ⟨l.toArray⟩:bp)=bc (MZ n):=λl h=>by rw [<-h];rfl
 unfold Qz at z;have N:=Ju n;generalize Ii n=x at *;have E:=lh z;clear z;go_enter func38,ntmps38;have ba:=lh (adv w);have O0:(w.alloc (bb #[] 5)).ownsRow w.heap.size 5 1 (bd (bk ⟨w,0,bl⟩) 0 0) ([]:List UInt8).length (Lib.byteCells []):=
  ⟨by simp [Lib.byteCells],.inr ⟨w,0,#[],by simp,aQ _,bo w _,by simp,by decide,rfl,by simp [Lib.byteCells]⟩⟩
 have I:bz w.heap.size w (w.alloc (bb #[] 5)):=(Below.refl _ w).alloc (aQ _) _;go_upto_region 3 with ((with_reducible refine yA 5 (bd (bk ⟨w,0,bl⟩) 0 0) (w.alloc (bb #[] 5)) ?_ ?_);(next=>exact gm (vs:=#[]) rfl lz ba.o);try go_frame)
 clear ba;go_wp2;go_loopw [3,4] (λQ A wr=>∃(y:Nat) (pre:List UInt8),A=be .u64 y/\y<=x/\Lib.uvarint x=pre++Lib.uvarint y/\wr.ownsRow w.heap.size 5 1 Q pre.length (Lib.byteCells pre)/\bz w.heap.size w wr)
  (λ_ A _=>(bw A).toNat)
 case atStart=>exact⟨x,[],by first|rfl|(rw [N]),aQ _,rfl,O0,I⟩
 clear O0 I;obtain⟨y,pre,rfl,Y,s,p,V⟩:=hrel;have ao:=Lib.uvarint_length64 O;have U:pre.length+(Lib.uvarint y).length<=10:=by have F:=congrArg List.length s;rw [aO]at F;omega
 have Z:=Lib.uvarint_pos y;by_cases H:128<=y
 .have T:((y:Int)%128+128)%256=((y%128+128:Nat):Int):=by omega
  have W:IntKind.u8.wrap ((y:Int)%128+128)=((y%128+128:Nat):Int):=lD
  have X:IntKind.u64.wrap ((y:Int)%128+128)=((y%128+128:Nat):Int):=lD
  go_wp2_with (at_builtin;refine wpList_append_own _ rfl _ _ 154 rfl w.heap.size 5 C (be .u8 0) 1 1 bA v B L aD rfl lG _ _ _ rfl (p.alloc _) ⟨wr,0,bl⟩ 1 1 [Value.int .u8 ((y%128+128:Nat):Int)] rfl rfl ?c1 ?c2 ?c3 ?c4 ?c5 ?_)
  case c1=>
   intro j u a;match j,a with
   |0,a=>simp at a;subst a;simp [Addr.add]
  case c2=>intro u c;simp at c;subst c;rfl
  case c3=>unfold bv;omega
  case c4=>omega
  case c5=>have:=V.size;simp;omega
  intro D f d q _;have t:bz w.heap.size w f:=(V.alloc qw _).grown q pw (λk m=>(p.lt k m).1);go_wp2;go_roundw;case rel=>
   refine⟨y/128,pre++[(y%128+128).toUInt8],by go_num,by omega,by rw [s,Lib.uvarint_big H];simp,?_,t⟩;have G:((y%128+128:Nat):Int)=(y:Int)%128+128:=gn;rw [Lib.byteCells_snoc pre gn,aO,List.length_singleton,G];exact d
  simp [bw];omega
 have M:Lib.uvarint y=[y.toUInt8]:=Lib.uvarint_small gn;have af:=E.o (pre++[y.toUInt8]) (by rw [s,M]);go_wp2_with (at_builtin;refine wpList_append_own _ rfl _ _ 154 rfl w.heap.size 5 C (be .u8 0) 1 1 bA v B L aD rfl lG _ _ _ rfl (p.alloc _) ⟨wr,0,bl⟩ 1 1 [Value.int .u8 (y:Int)] rfl rfl ?c1 ?c2 ?c3 ?c4 ?c5 ?_)
 case c1=>
  intro j u a;match j,a with
  |0,a=>simp at a;subst a;simp [Addr.add]
 case c2=>intro u c;simp at c;subst c;rfl
 case c3=>unfold bv;omega
 case c4=>omega
 case c5=>have:=V.size;simp;omega
 intro D f d q _;have t:bz w.heap.size w f:=(V.alloc qw _).grown q pw (λk m=>(p.lt k m).1);have a8:=Lib.byteCells_snoc pre (show y<256 by omega);rw [<-a8]at d;obtain⟨g,b,i,rfl,S⟩:∃g b i,D=bd (bk ⟨g,0,bl⟩) (pre++[y.toUInt8]).length b/\f.heap[g]?=bk (bb i 5 (0,0)):=by
  rcases d.2 with ⟨_,R⟩|⟨g,b,i,e,_,K,_⟩
  .omega
  exact⟨g,b,i,by rw [e];simp,K⟩
 have J:=run_convert_bytes_back (P:=bB) f 154 9 5 ⟨g,0,bl⟩ b (pre++[y.toUInt8]) bA bL bM (λj a=>d.cells rfl j _ (ET _ a));rw [af,aO,List.length_singleton]at J;rw [aO,List.length_singleton];go_wp2;go_ret;exact⟨rfl,bH.of_below t⟩
theorem Y6(l:List Int)(A:Option br)(n cap:Nat)(i:n<=100000)(w:bm)(h:dn w A n l):
  CR 97 #[bd A n cap] w (bc (lu l)):=by
 obtain⟨G,j⟩:=h;have y:=lh j;have q:=lh G;clear j G;go_enter func97,ntmps97;go_wp2_with fail
 go_loopw [3,4] (λs3 s4 wr=>∃k:Nat,k<=n/\s3=bc (lu (l.take k))/\s4=k/\bH [] w wr) (λ_ s4 _=>n-(bw s4).toNat);case atStart=>exact⟨0,gn,rfl,rfl,bH.refl _ _⟩
 obtain⟨k,d,rfl,rfl,T⟩:=hrel;by_cases a5:k<n
 .have Y:(k:Int)<(n:Int):=by omega
  obtain⟨g,o,rfl,b⟩:=y.o k a5;have ax:wr.cell? ⟨g,o+k,bl⟩=bk (be .i64 (l.getD k 0)):=((bY T).1 g _ (ai b)).t b;have a:=JE (l.take k) (l.getD k 0);rw [NQ qe]at a;have D:=lh a;have ar:¬9223372036854775807<(lu (l.take k)).size+(MZ (l.getD k 0)).size:=by have e:=nT (l.take k);have f:=Oa (l.getD k 0);rw [List.length_take]at e;omega
  clear a b;generalize l.getD k 0=z at *;have c:=lh (λu=>Yj z u);have H:=lh T;clear T;go_wp2_with (go_at_call 38;refine mR (c.o _) λm aR=>?_)
  go_roundw;case rel=>exact⟨k+1,gn,by rw [<-D.o],by go_num,H.o.t aR⟩
  simp [bw];omega
 obtain rfl:k=n:=gn
 have H:=lh T;clear T;go_wp2;go_ret;exact⟨qt,H.o⟩
theorem aaH{P:Program}{o:Oper}{a:Act}{w w':bm}{t:bt}{x0 x1 x2 x3 x4 x5 x6:Operand}{y0 y1 y2 y3 y4 y5 y6 v:bp}(h:o.op=.buildSlice t 7 #[(0,x0),(1,x1),(2,x2),(3,x3),(4,x4),(5,x5),(6,x6)])(e:a.eval x0=y0)(b:a.eval x1=y1)(f:a.eval x2=y2)(g:a.eval x3=y3)(l:a.eval x4=y4)(c:a.eval x5=y5)(d:a.eval x6=y6)
  (C:(Instr.buildSlice t 7 #[(0,y0),(1,y1),(2,y2),(3,y3),(4,y4),(5,y5),(6,y6)]).run P w=.ok v w'):(execOp a.eval o).run P w=.ok (.value v) w':=
 gm h (by simp [e,b,f,g,l,c,d]) C
theorem aev(a b c d e f g:Int)(V:bm): (Instr.buildSlice 22 7 #[(0,a),(1,b),(2,c),(3,d),(4,e),(5,f),(6,g)]).run bB V=.ok (bd (bk ⟨V,0,bl⟩) 7 7) (V.alloc (bb #[a,b,c,d,e,f,g] 3)):=lB
theorem Yl(l:List Int)(V:bm): dn (V.alloc (bb ⟨l.map (Value.int .i64)⟩ 3)) (bk ⟨V,0,bl⟩) l.length l:=by refine⟨rfl,λj k=>⟨_,_,rfl,?_⟩⟩;rw [aA _ _ _ _ _ _ (bo V _),Nat.zero_add];simp [List.getD,k]
def Af.ns(p:Af): List Int:=[p.a,p.b,p.c,p.d,p.e,p.f,p.den]
theorem ZB(p:Af)(w:bm): CR 142 #[p.v] w (bc (lu p.ns)):=by
 have G:=λu (h:dn u (bk ⟨w+1,0,bl⟩) 7 p.ns)=>XX p.ns _ 7 7 lG u h;have m:=Yl p.ns (w.alloc (bb #[p.a,p.b,p.c,p.d,p.e,p.f,p.den] 40));rw [aI]at m;obtain⟨a,b,c,d,e,f,g⟩:=p;have k:=G _ m;have n:=aev a b c d e f g (w.alloc (bb #[a,b,c,d,e,f,g] 40));rw [aI]at n;simp only [Af.v,Af.ns,List.map]at *;generalize lu [a,b,c,d,e,f,g]=R at *;have q:=lh k;have D:=lh n;have i:bH [] _ _:=((tR w).alloc (bb #[a,b,c,d,e,f,g] 40)).alloc (bb #[a,b,c,d,e,f,g] 3);clear G m k n;go_enter func142,ntmps142;go_wp2_with (first
  |((with_reducible refine yA 17 (bd (bk ⟨w+1,0,bl⟩) 7 7) ((w.alloc (bb #[a,b,c,d,e,f,g] 40)).alloc (bb #[a,b,c,d,e,f,g] 3)) ?_ ?_);(next=>exact aaH (t:=22) (x0:=.tmp 4) (x1:=.tmp 6) (x2:=.tmp 8) (x3:=.tmp 10) (x4:=.tmp 12) (x5:=.tmp 14) (x6:=.tmp 16) rfl rfl rfl rfl rfl rfl rfl rfl D.o);try go_frame)
  |(go_at_call 144;refine mR q.o λl j=>?_))
 go_ret;exact⟨rfl,i.t j⟩
theorem aaI(p:Af)(w:bm): CR 94 #[p.v] w (bc (lu p.ns)):=by
 have G:=λu (h:dn u (bk ⟨w+1,0,bl⟩) 7 p.ns)=>Y6 p.ns _ 7 7 lG u h;have m:=Yl p.ns (w.alloc (bb #[p.a,p.b,p.c,p.d,p.e,p.f,p.den] 40));rw [aI]at m;obtain⟨a,b,c,d,e,f,g⟩:=p;have k:=G _ m;have n:=aev a b c d e f g (w.alloc (bb #[a,b,c,d,e,f,g] 40));rw [aI]at n;simp only [Af.v,Af.ns,List.map]at *;generalize lu [a,b,c,d,e,f,g]=R at *;have q:=lh k;have D:=lh n;have i:bH [] _ _:=((tR w).alloc (bb #[a,b,c,d,e,f,g] 40)).alloc (bb #[a,b,c,d,e,f,g] 3);clear G m k n;go_enter func94,ntmps94;go_wp2_with (first
  |((with_reducible refine yA 17 (bd (bk ⟨w+1,0,bl⟩) 7 7) ((w.alloc (bb #[a,b,c,d,e,f,g] 40)).alloc (bb #[a,b,c,d,e,f,g] 3)) ?_ ?_);(next=>exact aaH (t:=22) (x0:=.tmp 4) (x1:=.tmp 6) (x2:=.tmp 8) (x3:=.tmp 10) (x4:=.tmp 12) (x5:=.tmp 14) (x6:=.tmp 16) rfl rfl rfl rfl rfl rfl rfl rfl D.o);try go_frame)
  |(go_at_call 97;refine mR q.o λl j=>?_))
 go_ret;exact⟨rfl,i.t j⟩
def sv(s:List UInt8): bp:=bc ⟨s.toArray⟩
theorem afD:(prog.info? 9).map (λi=>(i.zero,i.size,i.bytes))=bk (bk (bc ⟨#[]⟩),1,16):=lB
def YG:kD:=⟨9,1,16,bc ⟨#[]⟩,afD,rfl,by decide,by decide,by decide⟩
theorem aa6(s:List UInt8): YG.Row [sv s]:=⟨rfl,λu o=>by
 simp only [aS,aW,or_false]at o;subst o;rfl⟩
def Yd(l:List (List UInt8)): List (List bp):=l.map λs=>[sv s]
def Yg(w:bm)(base:Nat)(v:bp)(l:List (List UInt8)): Prop:=iK YG w base v (Yd l)
theorem ZN(w:bm)(base:Nat): Yg w base (bd bl 0 0) []:=jU _ _ _
theorem Yg.u{w u:bm}{base:Nat}{v:bp}{l:List (List UInt8)}(h:Yg w base v l)(T:bH [] w u): Yg u base v l:=iK.u h T
theorem Yg.strs{w:bm}{base:Nat}{v:bp}{l:List (List UInt8)}(h:Yg w base v l): ∃A n a,v=bd A n a/\DR w A n l:=by
 rcases iK.form h with ⟨rfl,e⟩|⟨g,o,a,rfl,_,_,_,c⟩
 .have:l=[]:=by simpa [Yd]using e
  subst this;exact⟨bl,0,0,rfl,rfl,λj k=>gn⟩
 refine⟨bk ⟨g,o,bl⟩,(Yd l).length,a,rfl,by simp [Yd],λj k=>⟨g,o,rfl,?_⟩⟩;have p:j<l.length:=by simpa [Yd]using k
 have b:=c j [sv (l.getD j [])] (by simp [Yd,List.getD,p]) 0 (sv (l.getD j [])) rfl;rw [show o+j=o+j*YG.size+0 by simp [YG]];exact b
theorem agG{w:bm}{base:Nat}{v:bp}{l:List (List UInt8)}(h:Yg w base v l)(news:List (List UInt8))(g cap m:Nat)(i:m=news.length)(e:∀j,j<m->w.cell? ⟨g,j,bl⟩=bk (sv (news.getD j [])))
  (c:base<=w.heap.size) (G:l.length+m<=100000) (ty:bt) :
  ∃d w',(Builtin.append_ #[107,107] ty #[v,bd (bk ⟨g,0,bl⟩) m cap]).run bB w=.ok d w'/\Yg w' base d (l++news)/\bH (dI v) w w'/\(∀g∈dI d,g∈dI v\/w.heap.size<=g):=by
 obtain⟨d,w',a,z,N,b⟩:=zH (k:=YG) (t:=107) underlying107 h g 0 cap m (news:=Yd news) (by simp [Yd,i]) (λr C=>by
  obtain⟨s,_,rfl⟩:=List.mem_map.1 C;exact aa6 s) (λj r C q u o=>by
  obtain⟨f,rfl⟩:=ah.1 C;have p:j<news.length:=by simpa [Yd]using f
  have n:q=0/\u=sv (news.getD j []):=by
   cases q with
   |zero=>simp [Yd]at o;exact⟨rfl,by rw [<-o];simp [List.getD,p]⟩
   |succ q=>simp [Yd]at o
  obtain⟨rfl,rfl⟩:=n;rw [show 0+j*YG.size+0=j by simp [YG]];exact e j gn) c (by simpa [Yd]using G) ty
 exact⟨d,w',a,rT,N,b⟩
theorem Zo(a b:BAr)(V:bm): (Instr.buildSlice 107 2 #[(0,bc a),(1,bc b)]).run bB V=.ok (bd (bk ⟨V,0,bl⟩) 2 2) (V.alloc (bb #[bc a,bc b] 9)):=lB
theorem YT(a:BAr)(V:bm): (Instr.buildSlice 107 1 #[(0,bc a)]).run bB V=.ok (bd (bk ⟨V,0,bl⟩) 1 1) (V.alloc (bb #[bc a] 9)):=lB
theorem ab8(a b:Int)(V:bm): (Instr.buildSlice 22 2 #[(0,a),(1,b)]).run bB V=.ok (bd (bk ⟨V,0,bl⟩) 2 2) (V.alloc (bb #[a,b] 3)):=lB
theorem aaQ(a:Int)(V:bm): (Instr.buildSlice 22 1 #[(0,a)]).run bB V=.ok (bd (bk ⟨V,0,bl⟩) 1 1) (V.alloc (bb #[a] 3)):=lB
theorem Xw{P:Program}{o:Oper}{a:Act}{w w':bm}{t:bt}{x0 x1:Operand}{y0 y1 v:bp}(c:o.op=.buildSlice t 2 #[(0,x0),(1,x1)])(e:a.eval x0=y0)(b:a.eval x1=y1)
  (C:(Instr.buildSlice t 2 #[(0,y0),(1,y1)]).run P w=.ok v w'):(execOp a.eval o).run P w=.ok (.value v) w':=
 gm c (by simp [e,b]) C
def ZT(r:Rc)(t:dC): List (List UInt8):=if XD (ZJ t.x t.y) r=true then [H6 [t.x,t.y],YD (XW t.px)] else []
def ik(r:Rc)(c:List dC): List (List UInt8):=c.flatMap (ZT r)
theorem aei(r:Rc)(t:dC): (Le (ZT r t)).length<=68:=by
 unfold ZT;split
 .have e:=Dn [t.x,t.y];simp only [Le,List.flatMap_cons,List.flatMap_nil,aO,En,XN,List.length_nil];simp only [List.length_cons,List.length_nil]at e;omega
 simp [Le]
theorem ZX(r:Rc): ∀c:List dC,(Le (ik r c)).length<=68*c.length
 | []=>by simp [ik,Le]
 |t::c=>by
  have a:=aei r t;have f:=ZX r c;have e:Le (ik r (t::c))=Le (ZT r t)++Le (ik r c):=by simp [ik,Le]
  rw [e,aO,List.length_cons];omega
theorem Zt(r:Rc): ∀c:List dC,(ik r c).length<=2*c.length
 | []=>by simp [ik]
 |t::c=>by
  have f:=Zt r c;have a:(ZT r t).length<=2:=by unfold ZT;split<;>simp
  have e:ik r (t::c)=ZT r t++ik r c:=by simp [ik]
  rw [e,aO,List.length_cons];omega
theorem aaJ(r:Rc){c:List dC}{k:Nat}{t:dC}(h:c[k]?=bk t): ik r (c.take (k+1))=ik r (c.take k)++ZT r t:=by obtain⟨d,rfl⟩:=ah.1 h;unfold ik;rw [aT d,List.flatMap_append,List.flatMap_singleton]
theorem Ob{u:bm}{g:Nat}{r:Rc}(h:u.heap[g]?=bk (bb #[r.x0,r.y0,r.x1,r.y1] 59 (0,0))): (Instr.loadAt 59 (bf (bk ⟨g,0,bl⟩))).run bB u=.ok r.v u:=
 bq u g 0 59 [r.x0,r.y0,r.x1,r.y1] _ (λq x a=>oC) underlying59 rfl lB
theorem acm{u:bm}{g:Nat}{t:dC}(h:u.heap[g]?=bk (bb ⟨t.row⟩ 181 (0,0))): (Instr.loadAt 24 (bf (bk ⟨g,0,bl⟩))).run bB u=.ok (Y8 t.x t.y) u:=
 bq u g 0 24 [t.x,t.y] _ (λq x a=>by
  rw [aA _ _ _ _ _ _ h,Nat.zero_add];match q,a with
  |0,a=>simp at a;subst a;rfl
  |1,a=>simp at a;subst a;rfl) underlying24 rfl lB
theorem aau{u:bm}{g:Nat}{t:dC}(I:jo t.px)(h:u.heap[g]?=bk (bb ⟨t.row⟩ 181 (0,0))): (Instr.loadAt 80 (bf (bk ⟨g,2,bl⟩))).run bB u=.ok (tv t.px) u:=
 bq u g 2 80 (t.px.map (Value.int .u8)) _ (λq x a=>by
  rw [aA _ _ _ _ _ _ h,Nat.add_comm 2 q];simpa [dC.row]using a) bF rfl (by rw [iE];show bk 256=bk (t.px.map (Value.int .u8)).length;rw [aJ,I.1])
theorem acu(t:dC): ∀v∈t.row,v.oneCell'=true:=λv e=>by simp only [dC.row,aS,List.mem_map]at e;rcases e with rfl|rfl|⟨z,_,rfl⟩<;>rfl
structure fV(X wr:bm)(v:bp)(l:List (List UInt8)): Prop where
 t:bH [] X wr
 own:Yg wr X.heap.size v l
theorem aaF(e:List dC)(A:Option br)(n cap:Nat)(r:Rc)(hn:n<=5000)(w:bm)(L:dB w A n e)(Z:YQ w):
  CR 143 #[bh #[bd A n cap],r.v] w (bc ⟨(fM (ik r e)).toArray⟩):=by
 obtain⟨W,z⟩:=eX ((w.alloc (bb #[bd A n cap] 49)).alloc (bb #[r.x0,r.y0,r.x1,r.y1] 59));have T0:bH [] w W:=z▸((tR w).a _).a _;have a7:W.heap.size=w.heap.size+2:=by rw [z];simp
 have N:W.heap[w.heap.size]?=bk (bb #[bd A n cap] 49 (0,0)):=by rw [z];simp only [Xx,aI];rw [aF gn,aG lL]
 have R:W.heap[w.heap.size+1]?=bk (bb #[r.x0,r.y0,r.x1,r.y1] 59 (0,0)):=by rw [z];simp only [Xx,aI];rw [aG lL]
 have q0:W.cell? ⟨w,0,bl⟩=bk (bd A n cap):=by rw [aA _ _ _ _ _ _ N];rfl
 obtain⟨a6,HT,HG,HW,Q⟩:=lh5 L.1 L Z z (bg T0 (bg a7 R));have P0:fV W W (bd bl 0 0) (ik r (e.take 0)):=⟨bH.refl _ _,ZN _ _⟩;have HJ:Hid (∀(v:Option br) (m c:Nat) u,bH [] w u->DR u v m (ik r e)->CR 82 #[bd v m c] u (bc ⟨(fM (ik r e)).toArray⟩)):=lh λv m c u t h=>
  XM _ v m c (by have:=ZX r e;have:=L.1;omega) u h (Z.u t)
 unfold Rc.v;generalize (⟨(fM (ik r e)).toArray⟩:BAr)=O at *;clear L Z z T0 N R a7;go_enter func143,ntmps143;go_upto_region 1 with fail
 rw [<-HW.o];clear HW;go_wp2;go_loopw [5,11] (λs5 s11 wr=>∃k:Nat,k<=n/\s11=k/\fV W wr s5 (ik r (e.take k))) (λ_ s11 _=>n-(bw s11).toNat);case atStart=>exact⟨0,gn,rfl,P0⟩
 clear P0 q0;obtain⟨k,hk,rfl,P⟩:=hrel;by_cases aE:k<n
 .as_aux_lemma=>
  have ab:k<e.length:=by have:=a6.o;omega
  obtain⟨t,D⟩:∃t,e[k]?=bk t:=⟨_,aB ab⟩;obtain⟨I,g,o,rfl,hR⟩:=(HT.o.u (Q.o.1.t P.t)).2 k t D;have af:=aaJ r D;have ao:t.row.length=258:=sL
  have aq:(⟨t.row⟩:Array bp).all (·.oneCell')=true:=all_oneCell_toArray (cs:=t.row) (acu t);have b8:(Instr.alloc 181 true (.tuple #[])).run bB wr=.ok (bf (bk ⟨wr,0,bl⟩)) (wr.alloc (bb bE 181)):=mw
  have a2:(prog.info? 181).map (·.size)=bk t.row.length:=nE
  have a8:(Instr.storeAt 181 (bf (bk ⟨wr,0,bl⟩)) (bh ⟨t.row⟩)).run bB (wr.alloc (bb bE 181))=.ok () (wr.alloc (bb ⟨t.row⟩ 181)):=
   run_storeAt_new wr 181 bE ⟨t.row⟩ a2 mT aq
  have U:=(tR wr).alloc (bb ⟨t.row⟩ 181);have hb:=bo wr (bb ⟨t.row⟩ 181);have aD:(k:Int)<(n:Int):=gn
  obtain⟨ar,E,B⟩:=lh3 (bg I D) af P;clear af ao aq I D ab P;generalize ap:t.row=F at *;go_upto_region 5 with (first
   |(refine wpList_load_mid rfl 181 _ rfl _ _ rfl _ _ hR underlying181 rfl a2 ?_)
   |(refine bU rfl 181 _ _ rfl rfl rfl a8 ?_))
  clear hR b8 a8 a2;go_frame;have T:fV W (wr.alloc (bb ⟨F⟩ 181)) u5 (ik r (e.take k)):=⟨B.o.t.t U,B.o.own.u U⟩;have C:wr.heap.size∉dI u5:=λhm=>by have:=(B.o.own.2.lt _ hm).2.1;omega
  have ay:(wr.alloc (bb ⟨F⟩ 181)).heap.size=wr.heap.size+1:=aI _ _;have ax:W.heap.size<=wr.heap.size:=B.o.t.size;have aa:(wr.alloc (bb ⟨F⟩ 181)).heap[wr.heap.size]?=bk (bb ⟨t.row⟩ 181 (0,0)):=by rw [ap];exact hb
  have an:(wr.alloc (bb ⟨F⟩ 181)).heap[w.heap.size+1]?=bk (bb #[r.x0,r.y0,r.x1,r.y1] 59 (0,0)):=
   (T.t.old _ (by have:=Q.o.2.1;omega) lz).t Q.o.2.2
  have S:=lh T;have s:=lh (bg C (bg aa an));clear T C aa an hb U B ap ay ax;generalize wr.alloc (bb ⟨F⟩ 181)=W2,wr.heap.size=b at *;have am:=λu=>acs t.x t.y u;have ac:=λu=>Yr (ZJ t.x t.y) r u;have l:ZT r t=if XD (ZJ t.x t.y) r=true then [H6 [t.x,t.y],YD (XW t.px)] else []:=rfl
  generalize XD (ZJ t.x t.y) r=mb at *;generalize ZJ t.x t.y=q at *;obtain⟨a5,a3,H⟩:=lh3 am ac l;clear am ac l;refine sN 4 (tR W2) λV i=>?_;refine fK 0 ?_;refine Xz 1 (Y8 t.x t.y) (λw' p=>acm (p.ox s.o.2.1)) ?_;refine Xz 3 r.v (λw' p=>Ob (p.ox s.o.2.2)) ?_;refine PR 2 (a5.o _) λw1 i _=>?_
  refine eH 4 (λK d=>?_);go_simp;refine mR (a3.o _) λf t3=>?_;replace i:=i.t t3;refine gZ d ?_;clear d K t3
  refine Wy ?_;clear a5 a3;cases mb with
  |false=>
   have l:=H.o;simp only [Bool.false_eq_true,if_false]at l;have P3:fV W f u5 (ik r (e.take (k+1))):=qu;clear E l H S i s;as_aux_lemma=>
   go_wp2;go_roundw;case rel=>exact⟨k+1,gn,by go_num,P3⟩
   simp [bw];omega
  |true=>
   have l:=H.o;simp only [if_true]at l;rw [l]at E;have P3:fV W f u5 (ik r (e.take k)):=⟨S.o.t.t i,S.o.own.u i⟩;have a0:=i.ox s.o.2.1;have C:=s.o.1;clear l H S i s;as_aux_lemma=>
   (go_upto_region 6 with fail);obtain⟨I,D⟩:=ar.o;have b3:Hid (∀w',bH (dI u5) f w'->w'.heap[b]?=bk (bb ⟨t.row⟩ 181 (0,0))):=lh λw' h=>(h.old _ (ae.1 a0).1 C).t a0;have a1:=lh (λu (h:bH [] W u)=>afh t.px I u (HG.o.u (Q.o.1.t h)));refine cu.start (λw'=>bH (dI u5) f w') 14 lB ?_;have ad:bH [] f f.drew:=(tR f).drawn 1;have i:bH (dI u5) f f.drew:=ad.mono lz;generalize f.drew=V at *;refine fE 0 u5 ?_;refine fK 1 ?_;refine fK 2 ?_;refine fE 3 t.x ?_ rfl (j:=λw' p=>by have e0:w'.cell? ⟨b,0,bl⟩=bk (be .i64 t.x):=by { rw [aA _ _ _ _ _ _ (b3.o w' p)];rfl };go_simp);refine fK 4 ?_;refine fK 5 ?_;refine fE 6 t.y ?_ rfl (j:=λw' p=>by have e0:w'.cell? ⟨b,1,bl⟩=bk (be .i64 t.y):=by { rw [aA _ _ _ _ _ _ (b3.o w' p)];rfl };go_simp);refine fK 9 ?_;refine Xz 10 (tv t.px) (λw' p=>aau I (b3.o w' p)) ?_;have tA:=ad.alloc (bb #[t.x,t.y] 3);have d6:dn (V.alloc (bb #[t.x,t.y] 3)) (bk ⟨V,0,bl⟩) 2 [t.x,t.y]:=Yl [t.x,t.y] V;refine ty 7 rfl (Xw (t:=22) (x0:=.tmp 23) (x1:=.tmp 26) rfl rfl rfl (ab8 t.x t.y V)) λK d=>?_;refine d _ _ (λ_=>tA.mono lz) ?_;clear d K i ad;(try go_frame);generalize V.alloc (bb #[t.x,t.y] 3)=V2,V.heap.size=gv at *;have a4:=lh (XX [t.x,t.y] (bk ⟨gv,0,bl⟩) 2 2 lG V2 d6);clear d6;refine eH 8 (λK d=>?_);go_simp;refine mR a4.o λw4 t4=>?_;have J:=tA.t t4;refine d _ _ (λ_=>J.mono lz) ?_;clear d K t4 a4 tA;(try go_frame);refine eH 11 (λK d=>?_);go_simp;refine mR (a1.o _ (P3.t.t J)) λM t5=>?_;have a9:=J.t t5;refine d _ _ (λ_=>a9.mono lz) ?_;clear d K t5 a1 J;(try go_frame);have G:=a9.alloc (bb #[bc (lu [t.x,t.y]),bc ⟨(YD (XW t.px)).toArray⟩] 9);have hB:=bo M (bb #[bc (lu [t.x,t.y]),bc ⟨(YD (XW t.px)).toArray⟩] 9);have OB:=P3.own.u G;have TB:=P3.t.t G;refine ty 12 rfl (Xw (t:=107) (x0:=.tmp 28) (x1:=.tmp 31) rfl rfl rfl (Zo _ _ M)) λK d=>?_;refine d _ _ (λ_=>G.mono lz) ?_;clear d K a9;(try go_frame);generalize M.alloc (bb #[bc (lu [t.x,t.y]),bc ⟨(YD (XW t.px)).toArray⟩] 9)=V6,M.heap.size=g6 at *;obtain⟨v',w7,e1,X,Y,e4⟩:=agG OB [H6 [t.x,t.y],YD (XW t.px)] g6 2 2 rfl (λj hj=>by
    rw [aA _ _ _ _ _ _ hB];match j,hj with
    |0,_=>rfl
    |1,_=>rfl) TB.size (by have:=Zt r (e.take k);rw [List.length_take]at this;omega) 107
   rw [<-E.o]at X;have T7:bH [] W w7:=fH TB Y (λg hg=>(OB.2.lt g hg).1);have P7:fV W w7 v' (ik r (e.take (k+1))):=⟨T7,X⟩;have t7:bH (dI u5) f w7:=(G.mono lz).t Y;refine ty 13 rfl (dL (.tmp 20) (.tmp 32) 107 rfl rfl rfl e1) λK d=>?_;refine gK d t7 ?_;clear d K e1 X Y e4 T7 OB TB hB G;refine eH 14 (λK d=>?_);go_simp;refine gZ d ?_;clear d K t7;refine Wy ?_;clear b3 P3 a0 C E;as_aux_lemma=>
   go_wp2;go_roundw;case rel=>exact⟨k+1,gn,by go_num,P7⟩
   simp [bw];omega
 obtain rfl:k=n:=gn
 as_aux_lemma=>
 rw [a6.o,List.take_length]at P;obtain⟨V5,m5,c5,rfl,a8⟩:=P.own.strs;have av:=lh (HJ.o V5 m5 c5 wr (Q.o.1.t P.t) a8);have aw:=lh P.t;clear a8 P HJ;go_wp2_with (go_at_call 82;refine mR av.o λw1 t1=>?_)
 go_ret;exact⟨rfl,(Q.o.1.t aw.o).t t1⟩
namespace eF
def cA(s:eF): Nat->Option br|0=>s.a0|1=>s.a1|_=>s.a2
def cN(s:eF): Nat->Nat|0=>s.n0|1=>s.n1|_=>s.n2
def cC(s:eF): Nat->Nat|0=>s.c0|1=>s.c1|_=>s.c2
def cL(s:eF): Nat->List Int|0=>s.l0|1=>s.l1|_=>s.l2
def pre(s:eF): Nat->List Int|0=>[]|j+1=>s.pre j++((s.cN j:Int)::s.cL j)
def ns(s:eF): List Int:=s.pre 3++s.mTo++s.mFr
theorem cSAt{s:eF}{w:bm}(h:s.At w): ∀j,j<3->dn w (s.cA j) (s.cN j) (s.cL j)
 |0,_=>h.l0|1,_=>h.l1|2,_=>h.l2
end eF
theorem Yu(a b:List Int): lu (a++b)=lu a++lu b:=by unfold lu;rw [OC];simp [H6]
theorem kC(s:eF)(j:Nat)(k:j<3)(u:bm): (Instr.index 88 (bh #[bd s.a0 s.n0 s.c0,bd s.a1 s.n1 s.c1,bd s.a2 s.n2 s.c2]) j).run bB u=.ok (bd (s.cA j) (s.cN j) (s.cC j)) u:=
 match j,k with
 |0,_=>by kernel_rfl
 |1,_=>by kernel_rfl
 |2,_=>lB
theorem jQ(g o:Nat)(u:bm): (Instr.sliceAt 89 (bf (bk ⟨g,o,bl⟩)) bl bl bl).run bB u=.ok (bd (bk ⟨g,o,bl⟩) 9 9) u:=by
 have i:prog.arrayLen 89=9:=lB
 have J:∀u,(Go.sizeOf (prog.elem 89)).run bB u=.ok 1 u:=λu=>by rw [show prog.elem 89=3 by kernel_rfl];exact Tryz.sizeOf3 u
 rw [run_sliceAt_array_all u 89 ⟨g,o,bl⟩ lB,J,i];simp [Result.andThen,slicedAt,Addr.add_lit]
theorem afg{w:bm}{g:Nat}{s:eF}(h:w.heap[g]?=bk (bb ⟨s.row⟩ 91 (0,0)))(e:s.mTo.length=9)(f:s.mFr.length=9): dn w (bk ⟨g,3,bl⟩) 9 s.mTo/\dn w (bk ⟨g,12,bl⟩) 9 s.mFr:=by
 refine⟨⟨e.symm,λj k=>⟨g,3,rfl,?_⟩⟩,⟨f.symm,λj k=>⟨g,12,rfl,?_⟩⟩⟩
 .rw [aA _ _ _ _ _ _ h,Nat.add_comm 3 j];have:j<s.mTo.length:=by omega
  simp [eF.row,bD,this,List.getD]
 rw [aA _ _ _ _ _ _ h,show 12+j=(9+j)+3 by omega];have:j<s.mFr.length:=gn
 simp only [eF.row,List.getElem?_toArray,List.getElem?_cons_succ];rw [bG lO];simp [e,this,List.getD]
theorem acK(s:eF)(w:bm)(h:s.At w)(g:s.n0<=1000/\s.n1<=1000/\s.n2<=1000):
  CR 141 #[bh ⟨s.row⟩] w (bc (lu s.ns)):=by
 have C:∀j,j<3->s.cN j<=1000:=λj k=>match j,k with|0,_=>g.1|1,_=>g.2.1|2,_=>g.2.2
 have G:∀j,j<4->(s.pre j).length<=1001*j:=λj k=>by
  have l0:s.l0.length<=1000:=by have:=h.l0.1;omega
  have l1:s.l1.length<=1000:=by have:=h.l1.1;omega
  have l2:s.l2.length<=1000:=by have:=h.l2.1;omega
  match j,k with
  |0,_=>simp [eF.pre]
  |1,_=>simp [eF.pre,eF.cL];omega
  |2,_=>simp [eF.pre,eF.cL];omega
  |3,_=>simp [eF.pre,eF.cL];omega
 obtain⟨W,m⟩:=eX (w.alloc (bb ⟨s.row⟩ 91));have l:bH [] w W:=m▸(tR w).a _;have f:=YE m
 have q0:W.cell? ⟨w,0,bl⟩=bk (bd s.a0 s.n0 s.c0):=nm
 have q1:W.cell? ⟨w,1,bl⟩=bk (bd s.a1 s.n1 s.c1):=nm
 have q2:W.cell? ⟨w,2,bl⟩=bk (bd s.a2 s.n2 s.c2):=nm
 have D:=afg f h.h1 h.h2;have aL:lu s.ns=lu (s.pre 3)++lu s.mTo++lu s.mFr:=by unfold eF.ns;rw [Yu,Yu]
 obtain⟨v,Z,S,b3,y,P,q⟩:=lh7 aL D (h.u l) (bg C G) m l (bg h.h1 h.h2);generalize lu s.ns=O,a3:s.row=aa at *;clear m D aL h f C G g l a3;go_enter func141,ntmps141;go_upto_region 1 with fail
 rw [<-y.o];clear y;go_upto_region 3 with fail
 clear q0 q1 q2;go_wp2;go_loopw [3,8] (λs3 s8 wr=>∃j:Nat,j<=3/\s8=j/\s3=bc (lu (s.pre j))/\bH [] W wr) (λ_ s8 _=>3-(bw s8).toNat);case atStart=>exact⟨0,gn,rfl,rfl,bH.refl _ _⟩
 obtain⟨j,k,rfl,rfl,T⟩:=hrel;by_cases a5:j<3
 .as_aux_lemma=>
  have a9:(j:Int)<3:=gn
  have n:=(eF.cSAt S.o j a5).u T;have hN:=b3.o.1 j a5;have hP:=b3.o.2 j gn;have F:lu (s.pre (j+1))=lu (s.pre j)++(lu [(s.cN j:Int)]++lu (s.cL j)):=by rw [<-Yu,<-Yu];rfl
  have z0:=nT (s.pre j);have z1:=nT (s.cL j);have Q:=nT [(s.cN j:Int)];have a4:=n.1;obtain⟨M,A,I⟩:=lh3 (kC s j a5) (λu (h:dn u (bk ⟨wr,0,bl⟩) 1 [(s.cN j:Int)])=>XX [(s.cN j:Int)] (bk ⟨wr,0,bl⟩) 1 1 lG u h) (λu (t:bH [] wr u)=>XX (s.cL j) (s.cA j) (s.cN j) (s.cC j) gn u (n.u t));have d6:dn (wr.alloc (bb #[be .i64 (s.cN j:Int)] 3)) (bk ⟨wr,0,bl⟩) 1 [(s.cN j:Int)]:=Yl [(s.cN j:Int)] wr;have J:=lh (A.o _ d6);have ba:=lh (aaQ (s.cN j:Int) wr);have z:=(tR wr).alloc (bb #[be .i64 (s.cN j:Int)] 3);have p:=lh (bg T z);generalize cG:lu (s.pre (j+1))=l1,wr.alloc (bb #[be .i64 (s.cN j:Int)] 3)=R,lu [(s.cN j:Int)]=c,s.cL j=Y at *;generalize lu Y=e,lu (s.pre j)=b,s.cA j=U,s.cN j=cn,s.cC j=X at *;have f1:¬9223372036854775807<c.size+e.size:=qL
  have f2:¬9223372036854775807<b.size+(c.size+e.size):=qL
  have E:=lh (bg F cG);clear z0 z1 Q a4 hN hP n d6 z T A F cG;go_wp2_with (first
   |((with_reducible refine yA 10 (bd U cn X) wr ?_ ?_);(next=>exact abo (t:=88) (x:=.tmp 7) (i:=.tmp 8) rfl rfl rfl (M.o _));try go_frame)
   |((with_reducible refine yA 14 (bd (bk ⟨wr,0,bl⟩) 1 1) R ?_ ?_);(next=>exact dV (t:=22) (x:=.tmp 13) rfl rfl ba.o);try go_frame)
   |(go_at_call 144;with_reducible refine mR J.o λw1 H=>?_)
   |(go_at_call 144;with_reducible refine mR (I.o _ (p.o.2.t H)) λw2 t2=>?_))
  go_roundw;case rel=>exact⟨j+1,gn,by go_num,by rw [E.o.2,E.o.1],((p.o.1.t p.o.2).t H).t t2⟩
  simp [bw];omega
 obtain rfl:j=3:=gn
 as_aux_lemma=>
 have a7:=Z.o.1.u T;have a8:=Z.o.2.u T;have hz:=nT (s.pre 3);have a6:=b3.o.2 3 gn;have L:=nT s.mTo;have aD:=nT s.mFr;rw [q.o.1]at L;rw [q.o.2]at aD;have aL:=v.o;have A:=lh (λu (t:bH [] wr u)=>XX s.mTo (bk ⟨w,3,bl⟩) 9 9 lG u (a7.u t));have I:=lh (λu (t:bH [] wr u)=>XX s.mFr (bk ⟨w,12,bl⟩) 9 9 lG u (a8.u t));generalize lu (s.pre 3)=b,lu s.mTo=c,lu s.mFr=e at *;have N:=lh aL;have f1:¬9223372036854775807<b.size+c.size:=gn
 have f2:¬9223372036854775807<b.size+c.size+e.size:=gn
 clear a7 a8 hz a6 L aD aL v S b3 Z;go_upto_region 7 with fail
 refine sN 9 (tR wr) λV d=>?_;refine fE 0 (bc b) ?_;refine fK 1 ?_;refine Xy 2 (bd (bk ⟨w,3,bl⟩) 9 9) (λw' hw=>jQ w.heap.size 3 w') ?_;refine fK 5 ?_;refine Xy 6 (bd (bk ⟨w,12,bl⟩) 9 9) (λw' hw=>jQ w.heap.size 12 w') ?_;refine PR 3 (A.o _ d) λw1 d _=>?_
 refine fE 4 (bc (b++c)) ?_;refine PR 7 (I.o _ d) λw2 d _=>?_
 refine fE 8 (bc (b++c++e)) ?_;refine eH 9 (λK B=>?_);go_simp;refine gZ B ?_;clear B K
 refine Wy ?_;rw [<-N.o];go_wp2;go_ret;exact⟨rfl,(P.o.t T).t d⟩
theorem afV(x:BAr): (⟨#[]⟩:BAr)++x=x:=pm
theorem acH(x:BAr): x++(⟨#[]⟩:BAr)=x:=pm
theorem aeX(a b c:Int): MZ a++MZ b++MZ c=lu [a,b,c]:=by rw [show ([a,b,c]:List Int)=([]++[a]++[b])++[c] from rfl,<-JE,<-JE,<-JE,aaq,afV]
theorem aa1(f:Fv)(ks cs:List Int)(w:bm)(J:dn w f.kA f.kn ks)(I:dn w f.cA f.cn cs)(aD:f.kn<=100000)(ay:f.cn<=100000):
  CR 100 #[f.v] w (bc (U8 f ks cs)):=by
 unfold U8;obtain⟨ag1,Xf,kA,n,kc,d,h,cA,b,cc⟩:=f;simp only [Fv.v]at *;obtain⟨O,y⟩:=eX (lu [ag1,Xf,(n:Int)]++lu ks++lu [d,h,(b:Int)]++lu cs);rw [<-y];have l:=aeX ag1 Xf n;have x:=aeX d h b;obtain⟨a4,a8,a7,a2,a9,a1⟩:=lh6 (λu=>Yj ag1 u) (λu=>Yj Xf u) (λu=>Yj (n:Int) u) (λu=>Yj d u) (λu=>Yj h u) (λu=>Yj (b:Int) u);have z1:=Oa ag1;have z2:=Oa Xf;have z3:=Oa (n:Int);have z4:=Oa d;have z5:=Oa h;have z6:=Oa (b:Int);have aL:(lu [ag1,Xf,(n:Int)]).size<=30:=nT _;have aM:(lu [d,h,(b:Int)]).size<=30:=nT _;have zK:(lu ks).size<=1000000:=aK (nT _) (by have:=J.1;omega);generalize MZ ag1=P,MZ Xf=R,MZ (n:Int)=vn,MZ d=s,MZ h=G,MZ (b:Int)=vc,lu [ag1,Xf,(n:Int)]=s0,lu [d,h,(b:Int)]=s2 at *;obtain⟨HO,H1,H2⟩:=lh3 y l x;have X:¬9223372036854775807<P.size+R.size:=gn
 have Y:¬9223372036854775807<P.size+R.size+vn.size:=gn
 have z:=lh J;have C:=lh I;clear y l x J I z1 z2 z3;obtain⟨W,E⟩:=eX (w.alloc (bb #[ag1,Xf,bd kA n kc,d,h,bd cA b cc] 43));have U:bH [] w W:=E▸(tR w).a _;have ax:w.heap.size+1<=W.heap.size:=by rw [E];simp
 obtain⟨M,N,a6,ac,ad,af⟩:=WY (Rf E);go_enter func100,ntmps100;go_upto_region 1 with (fail)
 rw [<-E];clear E;refine sN 12 (tR W) λV i=>?_;refine fK 0 ?_;refine Xy 1 ag1 (λw' c=>((bY c).1 _ _ (ai M)).t M) ?_;refine fK 3 ?_;refine Xy 4 Xf (λw' c=>((bY c).1 _ _ (ai N)).t N) ?_;refine fK 7 ?_;refine Xy 8 (bd kA n kc) (λw' c=>((bY c).1 _ _ (ai a6)).t a6) ?_;refine fE 9 (n:Int) ?_;refine PR 2 (a4.o _) λaq i _=>?_
 refine PR 5 (a8.o _) λav i _=>?_
 refine fE 6 (bc (P++R)) ?_;refine PR 10 (a7.o _) λaw i _=>?_
 refine fE 11 (bc (P++R++vn)) ?_;refine eH 12 (λK D=>?_);go_simp;refine gZ D ?_;clear D K
 refine Wy ?_;have HQ:=lh (bg M (bg N (bg a6 (bg ac (bg ad af)))));clear X Y M N a6 ac ad af a4 a8 a7;rw [H1.o];have B:s0=s0++lu (ks.take 0):=uA
 have hV:=i;clear i;as_aux_lemma=>
 go_upto_region 3 with fail
 go_wp2;go_loopw [3,4] (λs3 s4 wr=>∃k:Nat,k<=n/\s4=k/\s3=bc (s0++lu (ks.take k))/\bH [] W wr) (λ_ s4 _=>n-(bw s4).toNat);case atStart=>exact⟨0,gn,rfl,by rw [<-B],hV⟩
 clear B hV;obtain⟨k,J,rfl,rfl,T⟩:=hrel;obtain⟨jp,F,H,m,p,e⟩:=HQ.o;have ap:=((bY T).1 _ _ (ai H)).t H;by_cases a5:k<n
 .as_aux_lemma=>
  have ao:(k:Int)<(n:Int):=gn
  obtain⟨g,o,rfl,I⟩:=(z.o.u (U.t T)).2 k a5;have q:=JE (ks.take k) (ks.getD k 0);rw [NQ (by rw [<-z.o.1];exact a5)]at q;have l:=nT (ks.take k);rw [List.length_take]at l;have x:=Oa (ks.getD k 0);have S:=lh (λu=>Yj (ks.getD k 0) u);have a3:s0++lu (ks.take k)++MZ (ks.getD k 0)=s0++lu (ks.take (k+1)):=tN
  generalize MZ (ks.getD k 0)=v at *;generalize ks.getD k 0=zz,cG:s0++lu (ks.take (k+1))=l1 at *;have ar:¬9223372036854775807<s0.size+(lu (ks.take k)).size+v.size:=gn
  generalize lu (ks.take k)=l0 at *;have A:=lh T;have Q:=lh (bg a3 cG);clear q l x a3 cG T jp F H m p e z C;go_wp2_with (go_at_call 38;refine mR (S.o _) λw1 aR=>?_)
  go_roundw;case rel=>exact⟨k+1,gn,by go_num,by rw [Q.o.2,Q.o.1],A.o.t aR⟩
  simp [bw];omega
 obtain rfl:k=n:=gn
 as_aux_lemma=>
 have ab:s0++lu (ks.take k)=s0++lu ks:=by rw [z.o.1,List.take_length]
 have aE:(s0++lu ks).size<=1000030:=lO
 rw [ab];have y:=HO.o;generalize s0++lu ks=s1 at *;have X:¬9223372036854775807<s1.size+s.size:=gn
 have Y:¬9223372036854775807<s1.size+s.size+G.size:=gn
 have n3:¬9223372036854775807<s1.size+s.size+G.size+vc.size:=gn
 have Z:=((bY T).1 _ _ (ai m)).t m;have a0:=((bY T).1 _ _ (ai p)).t p;have L:=((bY T).1 _ _ (ai e)).t e;have an:=lh y;clear ab HO y z jp F H m p e;go_upto_region 6 with fail
 refine sN 14 (tR wr) λV i=>?_;refine fE 0 (bc s1) ?_;refine fK 1 ?_;refine Xy 2 d (λw' c=>((bY c).1 _ _ (ai Z)).t Z) ?_;refine fK 5 ?_;refine Xy 6 h (λw' c=>((bY c).1 _ _ (ai a0)).t a0) ?_;refine fK 9 ?_;refine Xy 10 (bd cA b cc) (λw' c=>((bY c).1 _ _ (ai L)).t L) ?_;refine fE 11 (b:Int) ?_;refine PR 3 (a2.o _) λaq i _=>?_
 refine fE 4 (bc (s1++s)) ?_;refine PR 7 (a9.o _) λav i _=>?_
 refine fE 8 (bc (s1++s++G)) ?_;refine PR 12 (a1.o _) λaw i _=>?_
 refine fE 13 (bc (s1++s++G++vc)) ?_;refine eH 14 (λK D=>?_);go_simp;refine gZ D ?_;clear D K
 refine Wy ?_;have T2:=T.t i;have a3:s1++s++G++vc=s1++s2:=by rw [<-H2.o];simp only [ByteArray.append_assoc]
 rw [a3];have aa:=an.o;have b2:(s1++s2).size<=1000060:=lO
 generalize s1++s2=s4 at *;have am:=lh aa;clear a3 aa an X Y n3 ap Z a0 L H2 a2 a9 a1 i T;have B:s4=s4++lu (cs.take 0):=uA
 as_aux_lemma=>
 go_upto_region 8 with fail
 go_wp2;go_loopw [3,5] (λs3 s5 wr=>∃j:Nat,j<=b/\s5=j/\s3=bc (s4++lu (cs.take j))/\bH [] W wr) (λ_ s5 _=>b-(bw s5).toNat);case atStart=>exact⟨0,gn,rfl,by rw [<-B],T2⟩
 clear B T2;obtain⟨j,hj,rfl,rfl,T⟩:=hrel;obtain⟨jp,F,H,m,p,e⟩:=HQ.o;have L:=((bY T).1 _ _ (ai e)).t e;by_cases a5:j<b
 .as_aux_lemma=>
  have ao:(j:Int)<(b:Int):=gn
  obtain⟨g,o,rfl,I⟩:=(C.o.u (U.t T)).2 j a5;have q:=JE (cs.take j) (cs.getD j 0);rw [NQ (by rw [<-C.o.1];exact a5)]at q;have l:=nT (cs.take j);rw [List.length_take]at l;have x:=Oa (cs.getD j 0);have S:=lh (λu=>Yj (cs.getD j 0) u);have a3:s4++lu (cs.take j)++MZ (cs.getD j 0)=s4++lu (cs.take (j+1)):=tN
  generalize MZ (cs.getD j 0)=v at *;generalize cs.getD j 0=zz,cG:s4++lu (cs.take (j+1))=l1 at *;have ar:¬9223372036854775807<s4.size+(lu (cs.take j)).size+v.size:=gn
  generalize lu (cs.take j)=l0 at *;have A:=lh T;have Q:=lh (bg a3 cG);clear q l x a3 cG T jp F H m p e C;go_wp2_with (go_at_call 38;refine mR (S.o _) λw1 aR=>?_)
  go_roundw;case rel=>exact⟨j+1,gn,by go_num,by rw [Q.o.2,Q.o.1],A.o.t aR⟩
  simp [bw];omega
 obtain rfl:j=b:=gn
 rw [C.o.1,List.take_length,<-am.o,<-C.o.1];have A:=lh T;clear T jp F H m p e;go_wp2;go_ret;exact⟨rfl,U.t A.o⟩
theorem acz(s:eF)(w:bm)(h:s.At w)(G:s.n0<=1000/\s.n1<=1000/\s.n2<=1000):
  CR 93 #[bh ⟨s.row⟩] w (bc (lu s.ns)):=by
 have a6:∀j,j<3->s.cN j<=1000:=λj n=>match j,n with|0,_=>G.1|1,_=>G.2.1|2,_=>G.2.2
 have a8:∀j,j<4->(s.pre j).length<=1001*j:=λj n=>by
  have l0:s.l0.length<=1000:=by have:=h.l0.1;omega
  have S:s.l1.length<=1000:=by have:=h.l1.1;omega
  have l2:s.l2.length<=1000:=by have:=h.l2.1;omega
  match j,n with
  |0,_=>simp [eF.pre]
  |1,_=>simp [eF.pre,eF.cL];omega
  |2,_=>simp [eF.pre,eF.cL];omega
  |3,_=>simp [eF.pre,eF.cL];omega
 obtain⟨W,D⟩:=eX (w.alloc (bb ⟨s.row⟩ 91));have L:bH [] w W:=D▸(tR w).a _;have C:=YE D
 have q0:W.cell? ⟨w,0,bl⟩=bk (bd s.a0 s.n0 s.c0):=qT
 have q1:W.cell? ⟨w,1,bl⟩=bk (bd s.a1 s.n1 s.c1):=qT
 have q2:W.cell? ⟨w,2,bl⟩=bk (bd s.a2 s.n2 s.c2):=qT
 have hm:=afg C h.h1 h.h2;have hq:∀j,j<3->W.cell? ⟨w,j,bl⟩=bk (bd (s.cA j) (s.cN j) (s.cC j)):=λj n=>match j,n with|0,_=>q0|1,_=>q1|2,_=>q2
 have HQ:=lh hq;have aL:lu s.ns=lu (s.pre 3++s.mTo++s.mFr):=rfl;obtain⟨a9,Z,Y,b3,HW,aa,q⟩:=lh7 aL hm (h.u L) (bg a6 a8) D L (bg h.h1 h.h2);generalize lu s.ns=O,ac:s.row=af at *;clear D hm aL h C a6 a8 G L ac hq q0 q1 q2;go_enter func93,ntmps93;go_upto_region 1 with fail
 rw [<-HW.o];clear HW;go_upto_region 3 with fail
 go_wp2;go_loopw [3,4] (λs3 s4 wr=>∃j:Nat,j<=3/\s4=j/\s3=bc (lu (s.pre j))/\bH [] W wr) (λ_ s4 _=>3-(bw s4).toNat);case atStart=>exact⟨0,gn,rfl,rfl,bH.refl _ _⟩
 obtain⟨j,n,rfl,rfl,T⟩:=hrel;by_cases a5:j<3
 .as_aux_lemma=>
  have a7:(j:Int)<3:=gn
  have z:=(eF.cSAt Y.o j a5).u T;have hN:=b3.o.1 j a5;have hP:=b3.o.2 j gn;have jp:=HQ.o j a5;have F:=((bY T).1 _ _ (ai jp)).t jp;have d:lu (s.pre j)++lu [(s.cN j:Int)]++lu (s.cL j)=lu (s.pre (j+1)):=by rw [ByteArray.append_assoc,<-Yu,<-Yu];rfl
  have B:=nT (s.pre j);have J:=nT (s.cL j);have X:=nT [(s.cN j:Int)];have ab:=z.1;have a4:=lh (λu (t:bH [] wr u)=>Y6 (s.cL j) (s.cA j) (s.cN j) (s.cC j) gn u (z.u t));have a3:=lh (λg u (h:dn u (bk ⟨g,0,bl⟩) 1 [(s.cN j:Int)])=>Y6 [(s.cN j:Int)] (bk ⟨g,0,bl⟩) 1 1 lG u h);generalize cG:lu (s.pre (j+1))=S,lu [(s.cN j:Int)]=f,s.cL j=cl at *;generalize lu cl=m2,lu (s.pre j)=c,s.cA j=ca,s.cN j=b,s.cC j=cc at *;have N:¬9223372036854775807<c.size+f.size:=qH
  have f2:¬9223372036854775807<c.size+f.size+m2.size:=qH
  have E:=lh (bg d cG);clear B J X ab hN hP z d cG jp;go_upto_region 5 with fail
  refine sN 15 (tR wr) λV m=>?_;refine fE 0 (bc c) ?_;refine fE 1 (j:Int) ?_;refine fK 2 ?_;refine fK 3 ?_;refine Xy 4 (bd ca b cc) (λw' R=>((bY R).1 _ _ (ai F)).t F) ?_;refine fE 5 (b:Int) ?_;refine fE 9 (j:Int) ?_;refine fK 10 ?_;refine fK 11 ?_;refine Xy 12 (bd ca b cc) (λw' R=>((bY R).1 _ _ (ai F)).t F) ?_;have d6:dn (V.alloc (bb #[(b:Int)] 3)) (bk ⟨V,0,bl⟩) 1 [(b:Int)]:=Yl [(b:Int)] V;have tA:=m.alloc (bb #[(b:Int)] 3);refine ty 6 rfl (dV (t:=22) (x:=.tmp 16) rfl rfl (aaQ (b:Int) V)) λK y=>?_;refine gK y tA ?_;clear y K m
  generalize V.alloc (bb #[(b:Int)] 3)=V2,V.heap.size=gv at *;refine PR 7 (a3.o _ _ d6) λw1 m _=>?_;clear tA d6
  refine fE 8 (bc (c++f)) ?_;refine PR 13 (a4.o _ m) λw2 m _=>?_
  refine fE 14 (bc (c++f++m2)) ?_;refine eH 15 (λK y=>?_);go_simp;refine gZ y ?_;clear y K
  refine Wy ?_;have T2:=T.t m;clear a3 a4 F m T N f2;as_aux_lemma=>
  go_wp2;go_roundw;case rel=>exact⟨j+1,gn,by go_num,by rw [E.o.2,E.o.1],T2⟩
  simp [bw];omega
 obtain rfl:j=3:=gn
 rw [show ((3:Nat):Int)=3 from rfl];have ad:=b3.o.2 3 gn;clear HQ Y b3;as_aux_lemma=>
 generalize s.pre 3=Q at *;go_upto_region 7 with fail
 go_wp2;go_loopw [3,5] (λs3 s5 wr=>∃i:Nat,i<=9/\s5=i/\s3=bc (lu (Q++s.mTo.take i))/\bH [] W wr) (λ_ s5 _=>9-(bw s5).toNat);case atStart=>exact⟨0,gn,rfl,by rw [List.take_zero,List.append_nil],T⟩
 clear T;obtain⟨i,hi,rfl,rfl,T⟩:=hrel;by_cases a5:i<9
 .as_aux_lemma=>
  have a7:(i:Int)<9:=gn
  obtain⟨g,o,e,z⟩:=(Z.o.1.u T).2 i a5;obtain⟨rfl,rfl⟩:w.heap.size=g/\3=o:=uE
  have A:=NQ (l:=s.mTo) (k:=i) ou;have d:lu (Q++s.mTo.take i)++lu [s.mTo.getD i 0]=lu (Q++s.mTo.take (i+1)):=uh
  have B:=nT (Q++s.mTo.take i);simp only [aO,List.length_take]at B;have J:=nT [s.mTo.getD i 0];have d6:dn (wr.alloc (bb #[(s.mTo.getD i 0:Int)] 3)) (bk ⟨wr,0,bl⟩) 1 [s.mTo.getD i 0]:=Yl [s.mTo.getD i 0] wr;have H:=lh (Y6 [s.mTo.getD i 0] (bk ⟨wr,0,bl⟩) 1 1 lG _ d6);have ba:=lh (aaQ (s.mTo.getD i 0) wr);have p:=T.alloc (bb #[(s.mTo.getD i 0:Int)] 3);generalize wr.alloc (bb #[(s.mTo.getD i 0:Int)] 3)=M,cG:lu (Q++s.mTo.take (i+1))=S,lu (Q++s.mTo.take i)=c,lu [s.mTo.getD i 0]=f at *;generalize s.mTo.getD i 0=zz at *;have N:¬9223372036854775807<c.size+f.size:=qh
  have P:3+i=i+3:=gn
  have E:=lh (bg d cG);have I:=lh p;clear B J A d6 p T d cG e P;go_wp2_with (first
   |((with_reducible refine yA 35 (bd (bk ⟨wr,0,bl⟩) 1 1) M ?_ ?_);(next=>exact dV (t:=22) (x:=.tmp 34) rfl rfl ba.o);try go_frame)
   |(go_at_call 97;refine mR H.o λw1 U=>?_))
  go_roundw;case rel=>exact⟨i+1,gn,by go_num,by rw [E.o.2,E.o.1],I.o.t U⟩
  simp [bw];omega
 obtain rfl:i=9:=gn
 rw [show ((9:Nat):Int)=9 from rfl];have v:s.mTo.take 9=s.mTo:=by rw [<-q.o.1,List.take_length]
 rw [v];clear v;go_upto_region 11 with fail
 go_wp2;go_loopw [3,6] (λs3 s6 wr=>∃i:Nat,i<=9/\s6=i/\s3=bc (lu ((Q++s.mTo)++s.mFr.take i))/\bH [] W wr) (λ_ s6 _=>9-(bw s6).toNat);case atStart=>exact⟨0,gn,rfl,by rw [List.take_zero,List.append_nil],T⟩
 clear T;obtain⟨i,hi,rfl,rfl,T⟩:=hrel;by_cases a5:i<9
 .as_aux_lemma=>
  have a7:(i:Int)<9:=gn
  obtain⟨g,o,e,z⟩:=(Z.o.2.u T).2 i a5;obtain⟨rfl,rfl⟩:w.heap.size=g/\12=o:=uE
  have A:=NQ (l:=s.mFr) (k:=i) ou;have d:lu ((Q++s.mTo)++s.mFr.take i)++lu [s.mFr.getD i 0]=lu ((Q++s.mTo)++s.mFr.take (i+1)):=uh
  have B:=nT ((Q++s.mTo)++s.mFr.take i);simp only [aO,List.length_take]at B;have J:=nT [s.mFr.getD i 0];have d6:dn (wr.alloc (bb #[(s.mFr.getD i 0:Int)] 3)) (bk ⟨wr,0,bl⟩) 1 [s.mFr.getD i 0]:=Yl [s.mFr.getD i 0] wr;have H:=lh (Y6 [s.mFr.getD i 0] (bk ⟨wr,0,bl⟩) 1 1 lG _ d6);have ba:=lh (aaQ (s.mFr.getD i 0) wr);have p:=T.alloc (bb #[(s.mFr.getD i 0:Int)] 3);generalize wr.alloc (bb #[(s.mFr.getD i 0:Int)] 3)=M,cG:lu ((Q++s.mTo)++s.mFr.take (i+1))=S,lu ((Q++s.mTo)++s.mFr.take i)=c,lu [s.mFr.getD i 0]=f at *;generalize s.mFr.getD i 0=zz at *;have N:¬9223372036854775807<c.size+f.size:=qh
  have P:12+i=i+12:=gn
  have E:=lh (bg d cG);have I:=lh p;clear B J A d6 p T d cG e P;go_wp2_with (first
   |((with_reducible refine yA 47 (bd (bk ⟨wr,0,bl⟩) 1 1) M ?_ ?_);(next=>exact dV (t:=22) (x:=.tmp 46) rfl rfl ba.o);try go_frame)
   |(go_at_call 97;refine mR H.o λw1 U=>?_))
  go_roundw;case rel=>exact⟨i+1,gn,by go_num,by rw [E.o.2,E.o.1],I.o.t U⟩
  simp [bw];omega
 obtain rfl:i=9:=gn
 rw [show ((9:Nat):Int)=9 from rfl];have v:s.mFr.take 9=s.mFr:=by rw [<-q.o.2,List.take_length]
 rw [v];clear v;rw [<-a9.o];go_wp2;go_ret;exact⟨rfl,aa.o.t T⟩
