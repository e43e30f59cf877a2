import Derived.Laws.OwnMore
import Derived.Deep.RegionWith
import Derived.Test.YtaahejdimjbhhaaGreatDoorK27
set_option maxRecDepth 100000
set_option maxHeartbeats 0
set_option linter.all false
namespace Go.Proofs.YtaahejdimjbhhaaGreatDoor
open Tryz Go.RowKit Go.Den
open Go.Value renaming int->bm,pointer->bp,string->bq,agg->bw,slice->bx
open Go.Obj renaming cells->bz
open Option renaming none->bA,some->bB
open Go renaming World->bF,heap_alloc_new->bL,Value->bM,run_loadVar_row->bP
open Go.RowKit renaming intOf->bR
open Go.Proofs.Tryz renaming underlying154->bS,prog->bT,underlying5->bX,underlying9->ca
theorem ae9(x:Yb)(n:Nat)(b:0<n)(c:n<32)(w:bF): Calls bT 256 #[bm .u32 (x.toNat:Int),(n:Int)] w λe w'=>e=.returned (bm .u32 ((Lr x n).toNat:Int))/\w=w':=by
 have a:bits .or .u32 ((x.toNat:Int)/2 ^ n) ((x.toNat:Int)*2 ^ (32-n)%4294967296)=((Lr x n).toNat:Int):=by rw [aaZ,abB,Yt];rfl
 have l:IntKind.i64.wrap (32-(n:Int))=((32-n:Nat):Int):=lD
 have z:(32-(n:Int))=((32-n:Nat):Int):=gn
 go_enter func256,ntmps256;go_wp2;go_ret;exact⟨by rw [<-a];rfl,rfl⟩
theorem afC(j:Nat)(l:List UInt8)(x:UInt8): (List.replicate (j+1) 0++l).set j x=List.replicate j 0++x::l:=by rw [List.set_append_left _ _ lz,List.replicate_succ',List.set_append_right _ _ lz];simp
structure jB(w wr:bF)(M:List UInt8): Prop where
 t:bH [] w wr
 h:wr.heap[w.heap.size]?=bB (bz ⟨Lib.byteCells M⟩ 5 (0,0))
theorem jB.set{w wr:bF}{M:List UInt8}(P:jB w wr M)(j:Nat)(x:UInt8): jB w (wr.setCell ⟨w,j,bA⟩ (bm .u8 x.toNat)) (M.set j x):=nY
theorem ado(n b:Nat)(G:n<18446744073709551616)(D:0<b)(I:b<=8)(w:bF): CR 222 #[bm .u64 (n:Int),(b:Int)] w (bq ⟨(XA n b).toArray⟩):=by
 obtain⟨x,m,u,L,aD⟩:=info_parts VG;have bv:=run_makeSlice (P:=bT) w 154 5 x (bm .u8 0) bS m u .i64 .i64 (b:Int) (b:Int) gn (Int.le_refl _) (by rw [L];omega) (by rw [aD];omega) gn;simp only [L,Int.toNat_natCast,Nat.mul_one]at bv;have d:jB w (w.alloc (bz (madeCells (Value.int .u8 0).cells b) 5)) (List.replicate (b-0) 0++XA n 0):=⟨(tR w).a _,by
  rw [show (⟨Lib.byteCells (List.replicate (b-0) 0++XA n 0)⟩:Array bM)=madeCells (Value.int .u8 0).cells b by
   apply Array.ext';rw [show (Value.int .u8 0).cells=#[Value.int .u8 0] from rfl,toList_madeCells_one];simp [Lib.byteCells,XA]]
  exact bL _ _⟩
 generalize w.alloc (bz (madeCells (Value.int .u8 0).cells b) 5)=W at *;have A:IntKind.i64.wrap ((b:Int)-1)=(b:Int)-1:=lD
 obtain⟨R,B⟩:∃R:BAr,R=⟨(XA n b).toArray⟩:=⟨_,rfl⟩;rw [<-B];have C:=lh B;clear B;go_enter func222,ntmps222;go_upto_region 3 with fail
 go_wp2;go_loopw [0,6] (λs0 s6 wr=>∃j:Nat,j<=b/\s0=bm .u64 ((n/256 ^ j:Nat):Int)/\s6=bm .i64 ((b:Int)-1-(j:Int))/\jB w wr (List.replicate (b-j) 0++XA n j)) (λ_ s6 _=>(bR s6+1).toNat);case atStart=>exact⟨0,gn,lz,lz,d⟩
 clear d bv;obtain⟨j,F,rfl,rfl,P⟩:=hrel;by_cases a5:j<b
 .as_aux_lemma=>
  obtain⟨i,m⟩:=eX (b-1-j);rw [show (b:Int)-1-(j:Int)=(i:Int) by omega];have f:n/256 ^ (j+1)=n/256 ^ j/256:=by rw [Nat.pow_succ,Nat.div_div_eq_div_mul]
  have J:n/256 ^ j<18446744073709551616:=Nat.lt_of_le_of_lt (Nat.div_le_self _ _) G;have z:=P.set i (n/256 ^ j).toUInt8;rw [show b-j=i+1 by omega,afC i _ _,<-aao n j,show i=b-(j+1) by omega]at z;have g:∃v,wr.cell? ⟨w,i,bA⟩=bB v:=by simp only [World.cell?,P.h];have:i<(Lib.byteCells (List.replicate (b-j) 0++XA n j)).length:=(by simp [Lib.byteCells,En];omega);exact⟨(Lib.byteCells (List.replicate (b-j) 0++XA n j))[i],by simp [this]⟩
  obtain⟨v,s⟩:=g;have l:wr.frozen? ⟨w,i,bA⟩=false:=re
  have E:(i:Int)<b:=gn
  have e:(((n/256 ^ j).toUInt8.toNat:Nat):Int)=((n/256 ^ j:Nat):Int)%256:=lz
  rw [e,show b-(j+1)=i by omega]at z;have a6:=lh z;have c:=lh (bg m f);clear P z m f e;generalize n/256 ^ j=y at *;go_upto_region 4 with fail
  have P3:=a6.o;generalize wr.setCell ⟨w,i,bA⟩ (bm .u8 ((y:Int)%256))=u2 at *;clear a6 s l;go_wp2;go_roundw;case rel=>
   refine⟨j+1,gn,by rw [c.o.2];simp,?_,?_⟩
   .have:=c.o.1;go_num
   rw [show b-(j+1)=i by have:=c.o.1;omega];exact P3
  simp [bR]
 obtain rfl:j=b:=gn
 have B:(⟨(XA n j).toArray⟩:BAr)=R:=C.o.symm;have k:=run_convert_bytes_back (P:=bT) wr 154 9 5 ⟨w,0,bA⟩ j (XA n j) bS bX ca (λq p=>by
  rw [Addr.add_lit,Nat.zero_add,aA _ _ _ _ _ _ P.h,Nat.sub_self];simpa using ET _ p)
 rw [En,B]at k;have H:=lh P.t;rw [show (j:Int)-1-(j:Int)=-1 by omega];clear B P;go_wp2;go_ret;exact⟨rfl,H.o⟩
def adg:Array (Nat×Operand):=⟨(List.range 64).map λi=>(i,.const (wv (Yz.getD i 0)))⟩
def aeO:Array (Nat×bM):=⟨(List.range 64).map λi=>(i,wv (Yz.getD i 0))⟩
theorem afP(w:bF): (Instr.build 271 aeO).run bT w=.ok (bw ⟨Yz.map wv⟩) w:=lB
theorem agm{o:Oper}{a:Act}{w:bF}(e:o.op=.build 271 adg): (execOp a.eval o).run bT w=.ok (.value (bw ⟨Yz.map wv⟩)) w:=
 iU e (vs:=aeO) (by unfold adg aeO;rw [List.map_toArray,List.map_map];rfl) (afP w)
theorem abv(w:bF): CR 221 #[] w (bw ⟨Yz.map wv⟩):=by
 obtain⟨y,Q,bs⟩:=lh3 (aak w) (λ(o:Oper) (a:Act) (u:bF) (d:o.op=.build 271 adg)=>agm (a:=a) (w:=u) d) (abe Yz rfl w);have e:=bP (P:=bT) _ w.heap.size 271 271 ⟨Yz.map wv⟩ (0,0) _ (bL w _) underlying271 rfl un;have b:=(tR w).alloc (bz ⟨Yz.map wv⟩ 271);generalize c:Yz.map wv=K at *;have n:=lh (bg e b);clear e b c;go_enter func221,ntmps221;go_wp2_with (first
  |((with_reducible refine yA 0 (bp (bB ⟨w,0,bA⟩)) (w.alloc (bz ⟨XL []⟩ 271)) ?_ ?_);(next=>exact XC (t:=271) rfl y.o);try go_frame)
  |((with_reducible refine yA 1 (bw ⟨K⟩) (w.alloc (bz ⟨XL []⟩ 271)) ?_ ?_);(next=>exact Q.o _ _ _ lB);try go_frame)
  |((with_reducible refine bU (v:=bw ⟨K⟩) ?_ 271 (.tmp 0) (.tmp 1) ?_ ?_ ?_ bs.o ?_);(next=>rfl);(next=>rfl);(next=>rfl);(next=>rfl);try go_frame))
 obtain⟨e,b⟩:=n.o;exact ag (v:=bw ⟨K⟩) (by simp [results,results221,asAddr,e]) rfl ⟨rfl,b⟩
theorem adX(b:List UInt8)(i m o I p:Nat)(a:m=(b.getD (4*i) 0).toNat)(c:o=(b.getD (4*i+1) 0).toNat)(f:I=(b.getD (4*i+2) 0).toNat)(g:p=(b.getD (4*i+3) 0).toNat):
  ((m:Int)%4294967296*16777216+(o:Int)%4294967296*65536+(I:Int)%4294967296*256+(p:Int))%4294967296=((Zu b i).toNat:Int):=by
 have h:m<256:=by rw [a];exact UInt8.toNat_lt _
 have d:o<256:=by rw [c];exact UInt8.toNat_lt _
 have j:I<256:=by rw [f];exact UInt8.toNat_lt _
 have k:p<256:=by rw [g];exact UInt8.toNat_lt _
 have e:Zu b i=(BitVec.ofNat 32 m <<< 24)+(BitVec.ofNat 32 o <<< 16)+(BitVec.ofNat 32 I <<< 8)+BitVec.ofNat 32 p:=by rw [afc m o I p h d j k,a,c,f,g];rfl
 rw [e];simp only [BitVec.toNat_add,BitVec.toNat_shiftLeft,BitVec.toNat_ofNat,Nat.shiftLeft_eq];omega
theorem abW(x:Yb)(k:Int)(a:0<k)(b:k<32)(w:bF): Calls bT 256 #[bm .u32 (x.toNat:Int),k] w λe w'=>e=.returned (bm .u32 ((Lr x k.natAbs).toNat:Int))/\w=w':=by have h:=ae9 x k.natAbs gn gn w;rw [show ((k.natAbs:Nat):Int)=k by omega]at h;exact h
theorem Xx(w:bF)(o:Obj)(j:Nat): (w.alloc o).heap[j]?=if j=w.heap.size then bB o else w.heap[j]?:=by show (w.heap.push o)[j]?=_;rw [Array.getElem?_push]
structure dO(w wr:bF)(h:List bM)(l:List Yb): Prop where
 t:bH [] w wr
 h0:wr.heap[w.heap.size]?=bB (bz ⟨h⟩ 216 (0,0))
 h1:wr.heap[w.heap.size+1]?=bB (bz ⟨Yz.map wv⟩ 271 (0,0))
 h2:wr.heap[w.heap.size+2]?=bB (bz ⟨V8.z.row⟩ 216 (0,0))
 h3:wr.heap[w.heap.size+3]?=bB (bz ⟨XL l⟩ 271 (0,0))
theorem dO.u{w wr u:bF}{h:List bM}{l:List Yb}(P:dO w wr h l)(T:bH [] wr u): dO w u h l:=
 ⟨P.t.t T,T.ox P.h0,T.ox P.h1,T.ox P.h2,T.ox P.h3⟩
theorem dO.cell{w wr:bF}{h:List bM}{l:List Yb}(P:dO w wr h l){j:Nat}(k:j<l.length): wr.cell? ⟨w+3,j,bA⟩=bB (wv (l.getD j 0)):=by simp only [World.cell?,P.h3];simpa using aa8 k
theorem dO.any{w wr:bF}{h:List bM}{l:List Yb}(P:dO w wr h l){j:Nat}(k:j<64)(i:l.length<=64): ∃v,wr.cell? ⟨w+3,j,bA⟩=bB v:=by
 simp only [World.cell?,P.h3];have:j<(XL l).length:=by rw [aba i];exact k
 exact⟨(XL l)[j],by simp [this]⟩
theorem dO.set{w wr:bF}{h:List bM}{l:List Yb}(P:dO w wr h l)(i:l.length<64)(x:Yb): dO w (wr.setCell ⟨w+3,l.length,bA⟩ (wv x)) h (l++[x]):=by
 have q:∀g,g<w.heap.size+3->(wr.setCell ⟨w+3,l.length,bA⟩ (wv x)).heap[g]?=wr.heap[g]?:=λg d=>by simp only [World.setCell,au,aF (show ¬w.heap.size+3=g by omega)]
 refine⟨P.t.setCell _ (.inr (by show w.heap.size<=w.heap.size+3;omega)),(q _ gn).t P.h0,(q _ gn).t P.h1,(q _ gn).t P.h2,?_⟩;simp only [World.setCell,au,if_true,P.h3];simp [<-aaW i x]
theorem af9(e f g:Yb): bits .or .u32 (bits .and .u32 (e.toNat:Int) (f.toNat:Int)) (bits .and .u32 (4294967295-(e.toNat:Int)) (g.toNat:Int))=((e &&& f ^^^ ~~~e &&& g).toNat:Int):=by
 have G:(4294967295-(e.toNat:Int))=((~~~e).toNat:Int):=by have:=e.isLt;rw [BitVec.toNat_not];omega
 rw [G,Ya,Ya,Yt,<-ael,adJ]
theorem age(a b c:Yb): bits .or .u32 (bits .or .u32 (bits .and .u32 (a.toNat:Int) (b.toNat:Int)) (bits .and .u32 (a.toNat:Int) (c.toNat:Int))) (bits .and .u32 (b.toNat:Int) (c.toNat:Int))=((a &&& b ^^^ a &&& c ^^^ b &&& c).toNat:Int):=by rw [Ya,Ya,Ya,Yt,Yt,<-aey]
theorem afR(q s1 a c ww:Yb): (((q.toNat:Int)+(s1.toNat:Int)+(a.toNat:Int)+(c.toNat:Int))%4294967296+(ww.toNat:Int))%4294967296=((q+s1+a+c+ww).toNat:Int):=by simp [BitVec.toNat_add]
structure eU(w wr:bF)(c6:Nat)(h:List bM)(L:List Yb)(v:V8): Prop where
 p:dO w wr h L
 h6:wr.heap[c6]?=bB (bz ⟨v.row⟩ 216 (0,0))
 l6:w.heap.size+3<c6
theorem eU.u{w wr u:bF}{a:Nat}{h:List bM}{L:List Yb}{v:V8}(P:eU w wr a h L v)(T:bH [] wr u): eU w u a h L v:=⟨P.p.u T,T.ox P.h6,P.l6⟩
theorem eU.put{w wr:bF}{a:Nat}{h:List bM}{L:List Yb}{v:V8}(P:eU w wr a h L v)(u:V8): eU w (wr.setRow a ⟨u.row⟩) a h L u:=by have A:=P.l6;exact⟨⟨P.p.t.setRow _ (.inr gn),(ZG _ _ _ gn).t P.p.h0,(ZG _ _ _ gn).t P.p.h1,(ZG _ _ _ gn).t P.p.h2,(ZG _ _ _ gn).t P.p.h3⟩,abA _ P.h6,A⟩
theorem dO.k{w wr:bF}{h:List bM}{L:List Yb}(P:dO w wr h L)(i:Nat)(m:i<64): wr.cell? ⟨w+1,i,bA⟩=bB (wv (Yz.getD i 0)):=by rw [aA _ _ _ _ _ _ P.h1];have:i<Yz.length:=m;simp [List.getD,this]
theorem eU.set{w wr:bF}{a:Nat}{M L:List Yb}{v:V8}(P:eU w wr a (M.map wv) L v)(j:Nat)(x:Yb): eU w (wr.setCell ⟨w,j,bA⟩ (wv x)) a ((M.set j x).map wv) L v:=by
 have A:=P.l6;have q:∀g,g≠w.heap.size->(wr.setCell ⟨w,j,bA⟩ (wv x)).heap[g]?=wr.heap[g]?:=λg d=>by simp only [World.setCell,au,aF (show ¬w.heap.size=g by omega)]
 refine⟨⟨P.p.t.setCell _ (.inr (aQ _)),?_,(q _ gn).t P.p.h1,(q _ gn).t P.p.h2,(q _ gn).t P.p.h3⟩,(q _ gn).t P.h6,A⟩;simp only [World.setCell,au,if_true,P.p.h0];simp [List.map_set]
theorem ae0(h:V8)(b:List UInt8)(hb:b.length=64)(w:bF): CR 223 #[bw ⟨h.row⟩,bq ⟨b.toArray⟩,bw ⟨Yz.map wv⟩] w (bw ⟨(abj h b).row⟩):=by
 obtain⟨C,Q⟩:=eX (abj h b);rw [<-Q];have HC:=lh Q;clear Q;obtain⟨H,hH⟩:=eX h.row;obtain⟨K,m⟩:=eX (Yz.map wv);obtain⟨W,hW⟩:=eX ((((w.alloc (bz ⟨H⟩ 216)).alloc (bz ⟨K⟩ 271)).alloc (bz ⟨V8.z.row⟩ 216)).alloc (bz ⟨XL []⟩ 271));have P0:dO w W H (XB b 0):=by
  have s:∀(u:bF) (o:Obj),(u.alloc o).heap.size=u.heap.size+1:=λu o=>aI u o;rw [hW];refine⟨((((tR w).a _).a _).a _).a _,?_,?_,?_,?_⟩
  .simp only [Xx,aI];rw [aF gn,aF gn,aF gn,aG lL]
  .simp only [Xx,aI];rw [aF gn,aF gn,aG lL,m]
  .simp only [Xx,aI];rw [aF gn,aG lL]
  simp only [Xx,aI];rw [aG lL];rfl
 have hs:(⟨b.toArray⟩:BAr).size=64:=sJ
 have hg:∀j (hj:j<(⟨b.toArray⟩:BAr).size),((⟨b.toArray⟩:BAr)[j]).toNat=(b.getD j 0).toNat:=λj hj=>by
  have:j<b.length:=gn
  simp [List.getD,this];rfl
 generalize (⟨b.toArray⟩:BAr)=s at *;rw [<-hH,<-m];obtain⟨HG,a7,a4,HW,HH⟩:=lh5 hg aaY aak hW (bg hH m);clear hg hW hH m;go_enter func223,ntmps223;go_upto_region 2 with (first
  |((with_reducible refine yA 6 (bp (bB ⟨w+2,0,bA⟩)) (((w.alloc (bz ⟨H⟩ 216)).alloc (bz ⟨K⟩ 271)).alloc (bz ⟨V8.z.row⟩ 216)) ?_ ?_);(next=>exact XC (t:=216) rfl (by have:=a7.o ((w.alloc (bz ⟨H⟩ 216)).alloc (bz ⟨K⟩ 271));simpa only [aI]using this));try go_frame)
  |((with_reducible refine yA 7 (bp (bB ⟨w+3,0,bA⟩)) W ?_ ?_);(next=>exact XC (t:=271) rfl (by have:=a4.o (((w.alloc (bz ⟨H⟩ 216)).alloc (bz ⟨K⟩ 271)).alloc (bz ⟨V8.z.row⟩ 216));rw [HW.o];simpa only [aI]using this));try go_frame))
 clear a7 a4 HW;go_wp2;go_loopw [8] (λs8 wr=>∃i:Nat,i<=64/\s8=i/\dO w wr H (XB b i)) (λs8 _=>64-(bR s8).toNat);case atStart=>exact⟨0,gn,rfl,P0⟩
 clear P0;obtain⟨i,hi,rfl,P⟩:=hrel;by_cases a5:i<64
 .have aM:(i:Int)<64:=by omega
  by_cases aE:i<16
  .as_aux_lemma=>
   have aL:(i:Int)<16:=gn;have c0:(0:Int)<=4*(i:Int):=gn;have c1:4*(i:Int)<64:=gn;have c2:4*(i:Int)+1<64:=gn;have c3:4*(i:Int)+2<64:=gn;have c4:4*(i:Int)+3<64:=gn;have d1:(0:Int)<=4*(i:Int)+1:=gn;have d2:(0:Int)<=4*(i:Int)+2:=gn;have d3:(0:Int)<=4*(i:Int)+3:=gn;have q0:IntKind.i64.wrap (4*(i:Int))=4*(i:Int):=lD;have q1:IntKind.i64.wrap (4*(i:Int)+1)=4*(i:Int)+1:=lD;have q2:IntKind.i64.wrap (4*(i:Int)+2)=4*(i:Int)+2:=lD;have q3:IntKind.i64.wrap (4*(i:Int)+3)=4*(i:Int)+3:=lD;(go_upto_region 6 with fail);obtain⟨v,J⟩:=P.any (j:=i) gn mB;have hc:wr.drew.cell? ⟨w+3,i,bA⟩=bB v:=J;have hf:wr.drew.frozen? ⟨w+3,i,bA⟩=false:=(by show wr.frozen? _=_;simp [World.frozen?,P.h3]);have F:=(P.set mB (Zu b i)).u ((tR _).drawn 1);rw [VR,show XB b i++[Zu b i]=XB b (i+1) by rw [XB];unfold ZY;rw [VR,aG aE]]at F;have D:=adX b i s[4*i].toNat s[4*i+1].toNat s[4*i+2].toNat s[4*i+3].toNat (HG.o _ gn) (HG.o _ gn) (HG.o _ gn) (HG.o _ gn);have HP:=lh F;have am:=lh D;clear F P J D;go_region;rw [am.o];have F:dO w (wr.setCell ⟨w+3,i,bA⟩ (bm .u32 ((Zu b i).toNat:Int))).drew H (XB b (i+1)):=HP.o;generalize (wr.setCell ⟨w+3,i,bA⟩ (bm .u32 ((Zu b i).toNat:Int))).drew=u2 at *;clear hc hf HP am;as_aux_lemma=>
   go_wp2;go_roundw;case rel=>exact⟨i+1,gn,by go_num,F⟩
   simp [bR];omega
  as_aux_lemma=>
  obtain⟨j,rfl⟩:∃j,i=j+16:=⟨i-16,gn⟩;have aL:¬(((j+16:Nat):Int)<16):=gn
  have bh:IntKind.i64.wrap ((j:Int)+16-15)=((j+1:Nat):Int):=lD
  have q2:IntKind.i64.wrap ((j:Int)+16-2)=((j+14:Nat):Int):=lD
  have l0:(j:Int)+16<64:=gn
  have hx:=P.cell (j:=j+1) mB;have hy:=P.cell (j:=j+14) mB;have hz:=P.cell (j:=j) mB;have ht:=P.cell (j:=j+9) mB;have HP:=lh P;clear P;generalize hX:(XB b (j+16)).getD (j+1) 0=X,hY:(XB b (j+16)).getD (j+14) 0=Y,hZ:(XB b (j+16)).getD j 0=Z,hT:(XB b (j+16)).getD (j+9) 0=T at *;unfold wv at hx hy hz ht;have M:=lh abW;have n:bits .xor .u32 (bits .xor .u32 ((Lr X 7).toNat:Int) ((Lr X 18).toNat:Int)) ((X.toNat:Int)/8)=((Lr X 7 ^^^ Lr X 18 ^^^ X >>> 3).toNat:Int):=by have h3:=abB X 3;rw [show (2:Int) ^ 3=8 by decide]at h3;rw [h3,Xv,Xv]
  have af:=lh n;clear n;have hU:bits .xor .u32 (bits .xor .u32 ((Lr Y 17).toNat:Int) ((Lr Y 19).toNat:Int)) ((Y.toNat:Int)/1024)=((Lr Y 17 ^^^ Lr Y 19 ^^^ Y >>> 10).toNat:Int):=by have h3:=abB Y 10;rw [show (2:Int) ^ 10=1024 by decide]at h3;rw [h3,Xv,Xv]
  have ar:XB b (j+16)++[Z+(Lr X 7 ^^^ Lr X 18 ^^^ X >>> 3)+T+(Lr Y 17 ^^^ Lr Y 19 ^^^ Y >>> 10)]=XB b (j+16+1):=by rw [show XB b (j+16+1)=XB b (j+16)++[ZY b (XB b (j+16))] from rfl];unfold ZY;rw [VR,aF gn,show j+16-16=j by omega,show j+16-15=j+1 by omega,show j+16-7=j+9 by omega,show j+16-2=j+14 by omega,hX,hY,hZ,hT]
  have ac:=lh ar;have HU:=lh hU;clear hX hY hZ hT ar hU;have b1:(0:Int)<=(j:Int)+1:=gn
  have b2:(j:Int)+1<64:=gn
  have b3:(0:Int)<=(j:Int)+14:=gn
  have b4:(j:Int)+14<64:=gn
  generalize Lr X 7 ^^^ Lr X 18 ^^^ X >>> 3=S1,Lr Y 17 ^^^ Lr Y 19 ^^^ Y >>> 10=S2 at *;go_upto_region 7 with fail
  refine sN 17 (tR wr) λV n=>?_;refine fE 0 (bm .i64 ((j+16:Nat):Int)) ?_;refine fE 1 (bm .i64 ((j+1:Nat):Int)) ?_;refine fE 2 (bp (bB ⟨w+3,j+1,bA⟩)) ?_;refine Xy 3 (bm .u32 (X.toNat:Int)) (λw' D=>((bY D).1 _ _ (ai hx)).t hx) ?_;refine fE 5 (bm .i64 ((j+16:Nat):Int)) ?_;refine fE 6 (bm .i64 ((j+1:Nat):Int)) ?_;refine fE 7 (bp (bB ⟨w+3,j+1,bA⟩)) ?_;refine Xy 8 (bm .u32 (X.toNat:Int)) (λw' D=>((bY D).1 _ _ (ai hx)).t hx) ?_;refine fE 11 (bm .i64 ((j+16:Nat):Int)) ?_;refine fE 12 (bm .i64 ((j+1:Nat):Int)) ?_;refine fE 13 (bp (bB ⟨w+3,j+1,bA⟩)) ?_;refine Xy 14 (bm .u32 (X.toNat:Int)) (λw' D=>((bY D).1 _ _ (ai hx)).t hx) ?_;refine fE 15 (bm .u32 ((X.toNat:Int)/8)) ?_;refine eH 4 (λK m=>?_);go_simp;refine (M.o _ _ lG lG _).mono ?_;rintro e' w1 ⟨rfl,rfl⟩;refine gK m n ?_;clear m K
  refine eH 9 (λK m=>?_);go_simp;refine (M.o _ _ lG lG _).mono ?_;rintro e' w1 ⟨rfl,rfl⟩;refine gK m n ?_;clear m K
  refine fE 10 (bm .u32 (bits .xor .u32 ((Lr X 7).toNat:Int) ((Lr X 18).toNat:Int))) ?_;refine Xy 16 (bm .u32 (S1.toNat:Int)) (λw' D=>af.o) ?_;refine eH 17 (λK m=>?_);go_simp;refine gZ m ?_;clear m K
  refine Wy ?_;clear hx b1 b2 bh af;as_aux_lemma=>
  have TA:=n;clear n;have a1:=((bY TA).1 _ _ (ai hy)).t hy;go_upto_region 8 with fail
  refine sN 17 (tR V) λV2 n=>?_;refine fE 0 (bm .i64 ((j+16:Nat):Int)) ?_;refine fE 1 (bm .i64 ((j+14:Nat):Int)) ?_;refine fE 2 (bp (bB ⟨w+3,j+14,bA⟩)) ?_;refine Xy 3 (bm .u32 (Y.toNat:Int)) (λw' D=>((bY D).1 _ _ (ai a1)).t a1) ?_;refine fE 5 (bm .i64 ((j+16:Nat):Int)) ?_;refine fE 6 (bm .i64 ((j+14:Nat):Int)) ?_;refine fE 7 (bp (bB ⟨w+3,j+14,bA⟩)) ?_;refine Xy 8 (bm .u32 (Y.toNat:Int)) (λw' D=>((bY D).1 _ _ (ai a1)).t a1) ?_;refine fE 11 (bm .i64 ((j+16:Nat):Int)) ?_;refine fE 12 (bm .i64 ((j+14:Nat):Int)) ?_;refine fE 13 (bp (bB ⟨w+3,j+14,bA⟩)) ?_;refine Xy 14 (bm .u32 (Y.toNat:Int)) (λw' D=>((bY D).1 _ _ (ai a1)).t a1) ?_;refine fE 15 (bm .u32 ((Y.toNat:Int)/1024)) ?_;refine eH 4 (λK m=>?_);go_simp;refine (M.o _ _ lG lG _).mono ?_;rintro e' w1 ⟨rfl,rfl⟩;refine gK m n ?_;clear m K
  refine eH 9 (λK m=>?_);go_simp;refine (M.o _ _ lG lG _).mono ?_;rintro e' w1 ⟨rfl,rfl⟩;refine gK m n ?_;clear m K
  refine fE 10 (bm .u32 (bits .xor .u32 ((Lr Y 17).toNat:Int) ((Lr Y 19).toNat:Int))) ?_;refine Xy 16 (bm .u32 (S2.toNat:Int)) (λw' D=>HU.o) ?_;refine eH 17 (λK m=>?_);go_simp;refine gZ m ?_;clear m K
  refine Wy ?_;clear hy a1 b3 b4 q2 HU M;as_aux_lemma=>
  have TB:=TA.t n;have av:=((bY TB).1 _ _ (ai hz)).t hz;have aR:=((bY TB).1 _ _ (ai ht)).t ht;have P1:dO w V2 H (XB b (j+16)):=HP.o.u TB;have kz:V2.drew.cell? ⟨w+3,j,bA⟩=bB (bm .u32 (Z.toNat:Int)):=av;have kt:V2.drew.cell? ⟨w+3,j+9,bA⟩=bB (bm .u32 (T.toNat:Int)):=aR;obtain⟨v,J⟩:=P1.any (j:=j+16) gn mB;have hc:V2.drew.cell? ⟨w+3,j+16,bA⟩=bB v:=J;have hf:V2.drew.frozen? ⟨w+3,j+16,bA⟩=false:=by show V2.frozen? _=_;simp [World.frozen?,P1.h3]
  have F:=(P1.set mB (Z+S1+T+S2)).u ((tR _).drawn 1);rw [ac.o,VR]at F;have a6:=lh F;have bj:IntKind.i64.wrap ((j:Int)+16-16)=(j:Int):=lD
  have q7:IntKind.i64.wrap ((j:Int)+16-7)=((j+9:Nat):Int):=lD
  have HS:=lh (afu Z S1 T S2);clear P1 J F hz ht av aR HP ac TA TB n;go_upto_region 9 with fail
  go_region;rw [HS.o];have P3:dO w (V2.setCell ⟨w+3,j+16,bA⟩ (bm .u32 ((Z+S1+T+S2).toNat:Int))).drew H (XB b (j+16+1)):=a6.o;generalize (V2.setCell ⟨w+3,j+16,bA⟩ (bm .u32 ((Z+S1+T+S2).toNat:Int))).drew=u2 at *;clear hc hf a6 HS kz kt bj q7;as_aux_lemma=>
  go_wp2;go_roundw;case rel=>
   exact⟨j+16+1,gn,by go_num,P3⟩
  simp [bR];omega
 obtain rfl:i=64:=gn
 rw [show ((64:Nat):Int)=64 from rfl];obtain⟨L,hL⟩:=eX (XB b 64);have Q:=HC.o;rw [show abj h b=(Zv h (XB b 64) 64).add h from rfl,<-hL]at Q;rw [<-hL]at P;have b0:L.length=64:=by rw [hL,VR]
 have bE:=lh Q;clear Q HC hL HG;as_aux_lemma=>
 have h0:=P.h0;rw [HH.o.1]at h0;have a3:(loadVar 216 ⟨w,0,bA⟩).run bT wr=.ok (bw ⟨h.row⟩) wr:=aaG h0;have TA:=(tR wr).alloc (bz ⟨h.row⟩ 216);have l4:w.heap.size+3<wr.heap.size:=(ae.1 P.h3).1;have P1:eU w (wr.alloc (bz ⟨h.row⟩ 216)) wr.heap.size H L (Zv h L 0):=⟨P.u TA,bL _ _,l4⟩;have a8:=aaP wr h;rw [<-HH.o.1]at a3 a8 P1;obtain⟨b8,bs,a9⟩:=lh3 a3 a8 (aaY wr);clear h0 a3 TA l4 a8 P;go_upto_region 11 with (first
  |((with_reducible refine NR (v:=bw ⟨H⟩) ?_ 216 (.tmp 3) ?_ ?_ b8.o ?_);(next=>rfl);(next=>rfl);(next=>rfl);try go_frame)
  |((with_reducible refine yA 11 (bp (bB ⟨wr,0,bA⟩)) (wr.alloc (bz ⟨V8.z.row⟩ 216)) ?_ ?_);(next=>exact XC (t:=216) rfl a9.o);try go_frame)
  |((with_reducible refine bU (v:=bw ⟨H⟩) ?_ 216 (.tmp 11) (.tmp 105) ?_ ?_ ?_ bs.o ?_);(next=>rfl);(next=>rfl);(next=>rfl);(next=>rfl);try go_frame))
 clear b8 bs a9;generalize wr.alloc (bz ⟨H⟩ 216)=U,wr.heap.size=N at *;go_wp2;go_loopw [12] (λs12 wr=>∃i:Nat,i<=64/\s12=i/\eU w wr N H L (Zv h L i)) (λs12 _=>64-(bR s12).toNat);case atStart=>exact⟨0,gn,rfl,P1⟩
 clear P1;obtain⟨i,hi,rfl,P⟩:=hrel;by_cases a5:i<64
 .have aM:(i:Int)<64:=by omega
  have hr:Zv h L (i+1)=jw (Zv h L i) (Yz.getD i 0) (L.getD i 0):=rfl;generalize hX:Zv h L i=X at *;obtain⟨a,b,c,d,e,f,g,q⟩:=X;have gk:=P.p.k i a5;have kw:=P.p.cell (j:=i) gn;obtain⟨E,k1,k2,k3,S,k5,G,O⟩:=aaw P.h6;unfold wv at gk kw;generalize Yz.getD i 0=kk,L.getD i 0=ww at *;have HP:=lh P;have M:=lh abW;rw [show jw ⟨a,b,c,d,e,f,g,q⟩ kk ww=⟨(q+(Lr e 6 ^^^ Lr e 11 ^^^ Lr e 25)+(e &&& f ^^^ ~~~e &&& g)+kk+ww)+((Lr a 2 ^^^ Lr a 13 ^^^ Lr a 22)+(a &&& b ^^^ a &&& c ^^^ b &&& c)),a,b,c,d+(q+(Lr e 6 ^^^ Lr e 11 ^^^ Lr e 25)+(e &&& f ^^^ ~~~e &&& g)+kk+ww),e,f,g⟩ from rfl,<-BitVec.add_assoc]at hr;have n:bits .xor .u32 (bits .xor .u32 ((Lr e 6).toNat:Int) ((Lr e 11).toNat:Int)) ((Lr e 25).toNat:Int)=((Lr e 6 ^^^ Lr e 11 ^^^ Lr e 25).toNat:Int):=ta
  have hT:bits .xor .u32 (bits .xor .u32 ((Lr a 2).toNat:Int) ((Lr a 13).toNat:Int)) ((Lr a 22).toNat:Int)=((Lr a 2 ^^^ Lr a 13 ^^^ Lr a 22).toNat:Int):=ta
  generalize Lr e 6 ^^^ Lr e 11 ^^^ Lr e 25=s1,Lr a 2 ^^^ Lr a 13 ^^^ Lr a 22=t1 at *;obtain⟨HS,HT,ad⟩:=lh3 n hT hr;simp only at E k1 k2 k3 S k5 G O;have HK:=lh (bg gk kw);clear n hT hr P gk kw hX E k1 k2 k3 k5 G O;as_aux_lemma=>
  go_upto_region 14 with fail
  refine sN 11 (tR wr) λV n=>?_;refine fK 0 ?_;refine Xy 1 (bm .u32 (e.toNat:Int)) (λw' D=>((bY D).1 _ _ (ai S)).t S) ?_;refine fK 3 ?_;refine Xy 4 (bm .u32 (e.toNat:Int)) (λw' D=>((bY D).1 _ _ (ai S)).t S) ?_;refine fK 7 ?_;refine Xy 8 (bm .u32 (e.toNat:Int)) (λw' D=>((bY D).1 _ _ (ai S)).t S) ?_;refine eH 2 (λK m=>?_);go_simp;refine (M.o _ _ lG lG _).mono ?_;rintro e' w1 ⟨rfl,rfl⟩;refine gK m n ?_;clear m K
  refine eH 5 (λK m=>?_);go_simp;refine (M.o _ _ lG lG _).mono ?_;rintro e' w1 ⟨rfl,rfl⟩;refine gK m n ?_;clear m K
  refine fE 6 (bm .u32 (bits .xor .u32 ((Lr e 6).toNat:Int) ((Lr e 11).toNat:Int))) ?_;refine eH 9 (λK m=>?_);go_simp;refine (M.o _ _ lG lG _).mono ?_;rintro e' w1 ⟨rfl,rfl⟩;refine gK m n ?_;clear m K
  refine Xy 10 (bm .u32 (s1.toNat:Int)) (λw' D=>HS.o) ?_;refine eH 11 (λK m=>?_);go_simp;refine gZ m ?_;clear m K
  refine Wy ?_;clear HS S;as_aux_lemma=>
  obtain⟨E,k1,k2,k3,S,k5,G,O⟩:=aaw (HP.o.u n).h6;simp only at E k1 k2 k3 S k5 G O;go_upto_region 15 with fail
  go_upto_region 16 with fail
  rw [af9];generalize e &&& f ^^^ ~~~e &&& g=ch at *;have PV:=HP.o.u n;have z0:V.drew.cell? ⟨N,7,bA⟩=bB (bm .u32 q.toNat):=O;have gk:=((bY n).1 _ _ (ai HK.o.1)).t HK.o.1;have kw:=((bY n).1 _ _ (ai HK.o.2)).t HK.o.2;have z3:V.drew.cell? ⟨w+1,i,bA⟩=bB (bm .u32 kk.toNat):=gk;have z4:V.drew.cell? ⟨w+3,i,bA⟩=bB (bm .u32 ww.toNat):=kw;have a0:=lh PV;clear gk kw E k1 k2 k3 S k5 G O PV HK HP;go_region;rw [afR];generalize q+s1+ch+kk+ww=I at *;clear z0 z3 z4;have TV:=n.t ((tR V).drawn 1);have PV:eU w V.drew N H L ⟨a,b,c,d,e,f,g,q⟩:=a0.o.u ((tR V).drawn 1);clear a0 n;generalize V.drew=U2 at *;as_aux_lemma=>
  obtain⟨E,k1,k2,k3,S,k5,G,O⟩:=aaw PV.h6;simp only at E k1 k2 k3 S k5 G O;have a0:=lh PV;clear PV k1 k2 k3 S k5 G O;go_upto_region 17 with fail
  refine sN 11 (tR U2) λV3 n=>?_;refine fK 0 ?_;refine Xy 1 (bm .u32 (a.toNat:Int)) (λw' D=>((bY D).1 _ _ (ai E)).t E) ?_;refine fK 3 ?_;refine Xy 4 (bm .u32 (a.toNat:Int)) (λw' D=>((bY D).1 _ _ (ai E)).t E) ?_;refine fK 7 ?_;refine Xy 8 (bm .u32 (a.toNat:Int)) (λw' D=>((bY D).1 _ _ (ai E)).t E) ?_;refine eH 2 (λK m=>?_);go_simp;refine (M.o _ _ lG lG _).mono ?_;rintro e' w1 ⟨rfl,rfl⟩;refine gK m n ?_;clear m K
  refine eH 5 (λK m=>?_);go_simp;refine (M.o _ _ lG lG _).mono ?_;rintro e' w1 ⟨rfl,rfl⟩;refine gK m n ?_;clear m K
  refine fE 6 (bm .u32 (bits .xor .u32 ((Lr a 2).toNat:Int) ((Lr a 13).toNat:Int))) ?_;refine eH 9 (λK m=>?_);go_simp;refine mS (M.o _ _ lG lG _) ?_;refine gK m n ?_;clear m K
  refine Xy 10 (bm .u32 (t1.toNat:Int)) (λw' D=>HT.o) ?_;refine eH 11 (λK m=>?_);go_simp;refine gZ m ?_;clear m K
  refine Wy ?_;have a2:=a0.o.u n;clear a0 HT M E TV n;as_aux_lemma=>
  obtain⟨E,k1,k2,k3,S,k5,G,O⟩:=aaw a2.h6;simp only at E k1 k2 k3 S k5 G O;have a0:=lh a2;clear a2;go_upto_region 18 with fail
  go_upto_region 19 with fail
  rw [age];generalize a &&& b ^^^ a &&& c ^^^ b &&& c=mj at *;have e0:((I.toNat:Int)+(t1.toNat:Int))%4294967296=((I+t1).toNat:Int):=ZA I t1;have f0:IntKind.u32.wrap ((I.toNat:Int)+(t1.toNat:Int))=((I+t1).toNat:Int):=acJ I t1;have e2:((d.toNat:Int)+(I.toNat:Int))%4294967296=((d+I).toNat:Int):=ZA d I;have f2:IntKind.u32.wrap ((d.toNat:Int)+(I.toNat:Int))=((d+I).toNat:Int):=acJ d I;generalize I+t1=m0,d+I=m2 at *;have e1:((m0.toNat:Int)+(mj.toNat:Int))%4294967296=((m0+mj).toNat:Int):=ZA m0 mj;have f1:IntKind.u32.wrap ((m0.toNat:Int)+(mj.toNat:Int))=((m0+mj).toNat:Int):=acJ m0 mj;generalize m0+mj=m1 at *;have a8:=ac4 ⟨m1,a,b,c,m2,e,f,g⟩ a0.o.h6 rfl;have F:eU w (V3.setRow N ⟨(V8.mk m1 a b c m2 e f g).row⟩) N H L (Zv h L (i+1)):=by rw [ad.o];exact a0.o.put _
  have ab:=afk ⟨m1,a,b,c,m2,e,f,g⟩;dsimp only at ab;generalize (V8.mk m1 a b c m2 e f g).row=R at *;obtain⟨bs,aa,a6⟩:=lh3 a8 ab F;clear a8 ab F ad a0;go_upto_region 13 with (first
   |((with_reducible refine yA 196 (bw ⟨R⟩) V3 ?_ ?_);(next=>exact aas (t:=216) (x0:=.tmp 179) (x1:=.tmp 181) (x2:=.tmp 183) (x3:=.tmp 185) (x4:=.tmp 189) (x5:=.tmp 191) (x6:=.tmp 193) (x7:=.tmp 195) (p0:=bm .u32 (m1.toNat:Int)) (p1:=bm .u32 (a.toNat:Int)) (p2:=bm .u32 (b.toNat:Int)) (p3:=bm .u32 (c.toNat:Int)) (p4:=bm .u32 (m2.toNat:Int)) (p5:=bm .u32 (e.toNat:Int)) (p6:=bm .u32 (f.toNat:Int)) (p7:=bm .u32 (g.toNat:Int)) rfl rfl rfl rfl rfl rfl rfl rfl rfl (aa.o _));try go_frame)
   |((with_reducible refine bU (o:=⟨bA,.store _ _ _,_,_,_,_⟩) (p:=bp (bB ⟨N,0,bA⟩)) (v:=bw ⟨R⟩) ?_ 216 (.tmp 11) (.tmp 196) ?_ ?_ ?_ bs.o ?_);(next=>rfl);(next=>rfl);(next=>rfl);(next=>rfl);try go_frame))
  have P3:=a6.o;clear a6 bs aa E k1 k2 k3 S k5 G O e0 e1 e2 f0 f1 f2;generalize V3.setRow N ⟨R⟩=u2 at *;as_aux_lemma=>
  go_wp2;go_roundw;case rel=>exact⟨i+1,gn,by go_num,P3⟩
  simp [bR];omega
 obtain rfl:i=64:=gn
 rw [show ((64:Nat):Int)=64 from rfl];obtain⟨v,J⟩:∃v,Zv h L 64=v:=⟨_,rfl⟩;rw [J]at P;have Q:=bE.o;rw [J]at Q;clear J bE;have hH:H=h.l.map wv:=HH.o.1;rw [hH]at P;have P0:eU w wr N ((C.l.take 0++h.l.drop 0).map wv) L v:=P;have hg:∀j,j<8->C.l.getD j 0=h.l.getD j 0+v.l.getD j 0:=λj hj=>by rw [Q,BitVec.add_comm];exact adI v h j hj
 have aq:=λ(j:Nat) (hj:j<8)=>adB (A:=C.l) (B:=h.l) j hj rfl;have ap:=λ(j:Nat) (hj:j<8)=>adm (A:=C.l) (B:=h.l) j hj rfl;have hh:∀j,j<8->v.row[j]?=bB (wv (v.l.getD j 0)):=λj hj=>match j,hj with|0,_=>rfl|1,_=>rfl|2,_=>rfl|3,_=>rfl|4,_=>rfl|5,_=>rfl|6,_=>rfl|7,_=>rfl
 obtain⟨HG,aD,ay,HV⟩:=lh4 hg aq ap hh;have ax:Hid (C.l.take 8++h.l.drop 8=C.l):=lh rfl;clear Q hg aq ap hh P hH HH;generalize h.l=B,hA:C.l=A at *;have HA:=lh hA;clear hA;as_aux_lemma=>
 go_upto_region 21 with fail
 go_wp2;go_loopw [18] (λs18 wr=>∃j:Nat,j<=8/\s18=j/\eU w wr N ((A.take j++B.drop j).map wv) L v) (λs18 _=>8-(bR s18).toNat);case atStart=>exact⟨0,gn,rfl,P0⟩
 clear P0;obtain⟨j,hj,rfl,P⟩:=hrel;by_cases a5:j<8
 .as_aux_lemma=>
  have E:wr.cell? ⟨w,j,bA⟩=bB (wv (B.getD j 0)):=by rw [aA _ _ _ _ _ _ P.p.h0];simp only [List.getElem?_toArray,aP,ay.o j a5];rfl
  have G:wr.cell? ⟨N,j,bA⟩=bB (wv (v.l.getD j 0)):=by rw [aA _ _ _ _ _ _ P.h6];simpa using HV.o j a5
  have F:=(P.set j (A.getD j 0)).u ((tR _).drawn 1);rw [aD.o j a5,HG.o j a5]at F;have ao:∀q,wr.frozen? ⟨w,q,bA⟩=false:=λq=>by simp [World.frozen?,P.p.h0]
  have a6:=lh F;clear P F;unfold wv at G E;generalize B.getD j 0=x,v.l.getD j 0=y at *;go_upto_region 23 with fail
  have y0:wr.drew.cell? ⟨w,j,bA⟩=bB (bm .u32 x.toNat):=E;have y6:wr.drew.cell? ⟨N,j,bA⟩=bB (bm .u32 y.toNat):=G;have yf:wr.drew.frozen? ⟨w,j,bA⟩=false:=ao j;have l0:(j:Int)<8:=gn
  have HS:=lh (ZA x y);clear G E ao;go_region;rw [HS.o];have P3:eU w (wr.setCell ⟨w,j,bA⟩ (bm .u32 ((x+y).toNat:Int))).drew N ((A.take (j+1)++B.drop (j+1)).map wv) L v:=a6.o;generalize (wr.setCell ⟨w,j,bA⟩ (bm .u32 ((x+y).toNat:Int))).drew=u2 at *;clear y0 y6 yf a6 HS;go_wp2;go_roundw;case rel=>exact⟨j+1,gn,by go_num,P3⟩
  simp [bR];omega
 obtain rfl:j=8:=gn
 as_aux_lemma=>
 rw [ax.o,<-HA.o]at P;have h0:wr.heap[w.heap.size]?=bB (bz ⟨C.row⟩ 216 (0,0)):=P.p.h0;have hL:(loadVar 216 ⟨w,0,bA⟩).run bT wr=.ok (bw ⟨C.row⟩) wr:=aaG h0;have n:=ac4 C P.p.h2 rfl;have h5:=abA (w:=wr) (⟨C.row⟩:Array bM) P.p.h2;have J:=bP (P:=bT) _ (w.heap.size+2) 216 216 ⟨C.row⟩ (0,0) _ h5 underlying216 rfl (zero_of_info aaX).2;have TT:bH [] w (wr.setRow (w+2) ⟨C.row⟩):=P.p.t.setRow _ (.inr gn);obtain⟨HL,bs,HE⟩:=lh3 hL n (bg J TT);clear hL n J TT h5 h0 P;generalize an:C.row=R at *;have aw:=lh an;clear an;go_wp2_with (first
  |((with_reducible refine NR (v:=bw ⟨R⟩) ?_ 216 (.tmp 3) ?_ ?_ HL.o ?_);(next=>rfl);(next=>rfl);(next=>rfl);try go_frame)
  |((with_reducible refine bU (v:=bw ⟨R⟩) ?_ 216 (.tmp 6) (.tmp 210) ?_ ?_ ?_ bs.o ?_);(next=>rfl);(next=>rfl);(next=>rfl);(next=>rfl);try go_frame))
 obtain⟨J,TT⟩:=HE.o;exact ag (v:=bw ⟨R⟩) (by simp [results,results223,asAddr,J]) rfl ⟨by rw [aw.o],TT⟩
theorem aeU(n:Nat)(G:n<18446744073709551616)(w:bF): CR 222 #[bm .u64 (n:Int),(4:Int)] w (bq ⟨(XA n 4).toArray⟩):=ado n 4 G lG lG w
theorem acr(n:Nat)(G:n<18446744073709551616)(w:bF): CR 222 #[bm .u64 (n:Int),(8:Int)] w (bq ⟨(XA n 8).toArray⟩):=ado n 8 G lG lG w
def ZO(j:Nat): List UInt8:=128::List.replicate j 0
theorem adP(j:Nat): ZO j++[0]=ZO (j+1):=by unfold ZO;rw [List.cons_append,<-List.replicate_succ']
theorem afH(u:bF): (Instr.build 216 #[(0,bm .u32 1779033703),(1,bm .u32 3144134277),(2,bm .u32 1013904242),(3,bm .u32 2773480762),(4,bm .u32 1359893119),(5,bm .u32 2600822924),(6,bm .u32 528734635),(7,bm .u32 1541459225)]).run bT u=.ok (bw ⟨Yv.row⟩) u:=lB
structure gq(w:bF)(c4:Nat)(wr:bF)(v:V8): Prop where
 t:bH [] w wr
 h0:wr.heap[w.heap.size]?=bB (bz ⟨v.row⟩ 216 (0,0))
 h1:wr.heap[c4]?=bB (bz ⟨Yz.map wv⟩ 271 (0,0))
 l:w.heap.size<c4
theorem gq.u{w wr u:bF}{c4:Nat}{v:V8}(P:gq w c4 wr v)(T:bH [] wr u): gq w c4 u v:=⟨P.t.t T,T.ox P.h0,T.ox P.h1,P.l⟩
theorem gq.put{w wr:bF}{c4:Nat}{v:V8}(P:gq w c4 wr v)(u:V8): gq w c4 (wr.setRow w ⟨u.row⟩) u:=by have l:=P.l;exact⟨P.t.setRow _ (.inr (aQ _)),abA _ P.h0,(ZG _ _ _ gn).t P.h1,l⟩
theorem agw{u:bF}{g:Nat}(h:u.heap[g]?=bB (bz ⟨Yz.map wv⟩ 271 (0,0))): (Instr.loadAt 271 (bp (bB ⟨g,0,bA⟩))).run bT u=.ok (bw ⟨Yz.map wv⟩) u:=
 run_loadAt_mid u g 0 271 (Yz.map wv) _ (λq x a=>oC) underlying271 rfl un
def lenOf:bM->Nat | bx _ n _=>n|_=>0
theorem adE(a:Int)(V:bF): (Instr.buildSlice 154 1 #[(0,bm .u8 a)]).run bT V=.ok (bx (bB ⟨V,0,bA⟩) 1 1) (V.alloc (bz #[bm .u8 a] 5)):=lB
def iH(X wr:bF)(v:bM)(j:Nat): Prop:=wr.ownsRow X.heap.size 5 1 v (j+1) (Lib.byteCells (ZO j))/\Below X.heap.size X wr
theorem afA(X:bF): iH X (X.alloc (bz #[bm .u8 128] 5)) (bx (bB ⟨X,0,bA⟩) 1 1) 0:=
 ⟨⟨by simp [Lib.byteCells,ZO],.inr ⟨X,1,#[bm .u8 128],rfl,aQ _,bL X _,by omega,by decide,rfl,rfl⟩⟩,(Below.refl _ X).alloc (aQ _) _⟩
theorem iH.form{X wr:bF}{v:bM}{j:Nat}(B:iH X wr v j): ∃g a,v=bx (bB ⟨g,0,bA⟩) (j+1) a:=by
 rcases B.1.2 with ⟨_,c⟩|⟨g,a,b,e,_⟩
 .omega
 exact⟨g,a,e⟩
theorem ads(s:List UInt8)(hs:s.length<=1000000000000)(w:bF): CR 147 #[bq ⟨s.toArray⟩] w (bq ⟨(YD s).toArray⟩):=by
 obtain⟨i0,hi,bb,bc,bd⟩:=info_parts VG;obtain⟨S,i⟩:=eX (⟨s.toArray⟩:BAr);obtain⟨n,W⟩:=eX s.length;have bj:S.size=n:=by rw [i,W];rfl
 rw [<-W]at hs;rw [<-i];obtain⟨O,C⟩:∃O:BAr,O=⟨(YD s).toArray⟩:=⟨_,rfl⟩;rw [<-C];obtain⟨G,N,af,Z,a9⟩:=lh5 C W i afH (aaY w);have a8:=aaP w Yv;obtain⟨R,hR⟩:=eX Yv.row;rw [<-hR]at Z a8;have am:=lh a8;have ab:=lh abv;have T1:=(tR w).alloc (bz ⟨R⟩ 216);have h1:=bL w (bz ⟨R⟩ 216);have s1:(w.alloc (bz ⟨R⟩ 216)).heap.size=w.heap.size+1:=aI _ _;generalize hX:w.alloc (bz ⟨R⟩ 216)=X1 at *;obtain⟨HX,HR,a7,a4,ba⟩:=lh5 hX hR (abe Yz rfl) aak (adE 128);obtain⟨K,b⟩:=eX (Yz.map wv);rw [<-b]at ab a7;have HK:=lh b;clear i W C a8 hX hR b;go_enter func147,ntmps147;go_upto_region 2 with (first
  |((with_reducible refine yA 10 (bw ⟨R⟩) w ?_ ?_);(next=>exact aas (t:=216) rfl rfl rfl rfl rfl rfl rfl rfl rfl (Z.o _));try go_frame)
  |((with_reducible refine yA 3 (bp (bB ⟨w,0,bA⟩)) (w.alloc (bz ⟨V8.z.row⟩ 216)) ?_ ?_);(next=>exact XC (t:=216) rfl a9.o);try go_frame)
  |((with_reducible refine bU (v:=bw ⟨R⟩) ?_ 216 (.tmp 3) (.tmp 10) ?_ ?_ ?_ am.o ?_);(next=>rfl);(next=>rfl);(next=>rfl);(next=>rfl);try go_frame))
 go_upto_region 3 with (first
  |(go_at_call 221;refine mR (ab.o _) λe f=>?_)
  |((with_reducible refine yA 4 (bp (bB ⟨e,0,bA⟩)) (e.alloc (bz ⟨XL []⟩ 271)) ?_ ?_);(next=>exact XC (t:=271) rfl (a4.o _));try go_frame)
  |((with_reducible refine bU (v:=bw ⟨K⟩) ?_ 271 (.tmp 4) (.tmp 11) ?_ ?_ ?_ (a7.o _) ?_);(next=>rfl);(next=>rfl);(next=>rfl);(next=>rfl);try go_frame))
 have a1:=(tR e).alloc (bz ⟨K⟩ 271);have ay:=bL e (bz ⟨K⟩ 271);have sz:=f.size;have F:gq w e.heap.size (e.alloc (bz ⟨K⟩ 271)) Yv:=
  ⟨(T1.t f).t a1,by rw [<-HR.o];exact (f.t a1).ox h1,by rw [<-HK.o];exact ay,by omega⟩
 generalize e.alloc (bz ⟨K⟩ 271)=I at *;have br:=lh F;clear a1 ay sz F T1 h1 s1 f Z a9 am ab HX a7 a4 HR;generalize e.heap.size=c4 at *;have B0:iH I (I.alloc (bz #[bm .u8 128] 5)) (bx (bB ⟨I,0,bA⟩) 1 1) 0:=afA I;go_upto_region 4 with ((with_reducible refine yA 12 (bx (bB ⟨I,0,bA⟩) 1 1) (I.alloc (bz #[bm .u8 128] 5)) ?_ ?_);(next=>exact dV (t:=154) (x:=.const (bm .u8 128)) rfl rfl (ba.o _));try go_frame)
 clear ba;obtain⟨z,hz⟩:=eX ((119-n%64)%64);go_wp2;go_loopw [5] (λs5 wr=>∃j:Nat,j<=z/\iH I wr s5 j) (λs5 _=>64-lenOf s5);case atStart=>exact⟨0,gn,B0⟩
 clear B0;obtain⟨j,T,B⟩:=hrel;obtain⟨g,a0,rfl⟩:=B.form;have aw:(((n:Int)+((j+1:Nat):Int))%64=56)↔j=z:=gn
 by_cases a5:j<z
 .as_aux_lemma=>
  have aD:¬((n:Int)+((j:Int)+1))%64=56:=gn
  have b1:IntKind.i64.wrap ((n:Int)+((j:Int)+1))=(n:Int)+((j:Int)+1):=lD
  have y:=lh B;clear aw B;go_upto_region 5 with fail
  go_wp2_with (first
   |((with_reducible refine yA 21 (bx (bB ⟨wr,0,bA⟩) 1 1) (wr.alloc (bz #[bm .u8 0] 5)) ?_ ?_);(next=>exact dV (t:=154) (x:=.const (bm .u8 0)) rfl rfl (adE 0 _));try go_frame)
   |(at_builtin;refine wpList_append_own _ rfl _ _ 154 rfl I.heap.size 5 i0 (bm .u8 0) 1 1 bS hi bb bc bd rfl lG _ _ _ rfl (y.o.1.alloc _) ⟨wr,0,bA⟩ 1 1 [bm .u8 0] rfl rfl ?c1 ?c2 ?c3 ?c4 ?c5 ?_))
  case c1=>
   intro q u E;match q,E with
   |0,E=>simp at E;subst E;simp [Addr.add]
  case c2=>intro u hu;simp at hu;subst hu;rfl
  case c3=>unfold maxLen;omega
  case c4=>omega
  case c5=>have:=y.o.2.size;simp;omega
  intro v' u1 aE av _;have B2:iH I u1 v' (j+1):=⟨by rw [<-adP,Lib.byteCells_append];exact aE,(y.o.2.alloc y.o.2.size _).grown av (by have:=y.o.2.size;simp;omega) (λk hk=>(y.o.1.lt k hk).1)⟩;have hl:=B2.form;clear av aE y;go_wp2;go_roundw;case rel=>exact⟨j+1,by omega,B2⟩
  obtain⟨g',be,rfl⟩:=hl;show 64-(j+1+1)<64-(j+1);omega
 obtain rfl:j=z:=gn
 as_aux_lemma=>
 have aD:((n:Int)+((j:Int)+1))%64=56:=gn
 have b1:IntKind.i64.wrap ((n:Int)+((j:Int)+1))=(n:Int)+((j:Int)+1):=lD
 have ar:∀u,bH [] wr u->(convert 154 9 (bx (bB ⟨g,0,bA⟩) (j+1) a0)).run bT u=.ok (bq ⟨(ZO j).toArray⟩) u:=λu t=>by
  have h:=run_convert_bytes_back (P:=bT) u 154 9 5 ⟨g,0,bA⟩ a0 (ZO j) bS bX ca (λq E=>by
   have D:=B.1.cells rfl q _ (ET _ E);rw [Addr.add_lit]at D ⊢;exact ((bY t).1 _ _ (ai D)).t D)
  rwa [show (ZO j).length=j+1 by simp [ZO]]at h
 have TB:gq w c4 wr Yv:=br.o.u (Yp (tR I) B.2 rfl);have aR:aci s=s++(ZO j++XA (n*8) 8):=by have:=N.o;rw [aag];unfold adi ZO;rw [<-this,hz]
 have ac:=lh aR;obtain⟨p,m⟩:=eX (aci s);have b0:S++⟨(ZO j).toArray⟩++⟨(XA (n*8) 8).toArray⟩=⟨p.toArray⟩:=by rw [af.o,OC,OC,m,ac.o,List.append_assoc]
 have b5:(⟨(ZO j).toArray⟩:BAr).size=j+1:=by show (ZO j).length=j+1;simp [ZO]
 have b9:(⟨(XA (n*8) 8).toArray⟩:BAr).size=8:=En _ _;have J:=λu=>acr (n*8) gn u;generalize (⟨(ZO j).toArray⟩:BAr)=H,(⟨(XA (n*8) 8).toArray⟩:BAr)=BG at *;have f1:¬9223372036854775807<S.size+H.size:=gn
 have f2:¬9223372036854775807<S.size+H.size+BG.size:=gn
 have f3:¬9223372036854775807<n+(j+1):=gn
 have f4:¬9223372036854775807<n+(j+1)+8:=gn
 have f5:IntKind.u64.wrap (n:Int)=(n:Int):=lD
 have f6:IntKind.u64.wrap (8*(n:Int))=((n*8:Nat):Int):=lD
 obtain⟨U,aa,ao,aM⟩:=lh4 J ar TB (bg m b0);clear aw B J ar TB aR ac m b0 br hz;go_upto_region 6 with fail
 refine sN 10 (tR wr) λV i=>?_;refine fE 0 (bq S) ?_;refine fE 1 (bx (bB ⟨g,0,bA⟩) (j+1) a0) ?_;refine Xy 2 (bq H) (λw' L=>aa.o w' L) ?_;refine fE 3 (bq (S++H)) ?_;refine fE 4 (bq S) ?_;refine fE 5 (n:Int) ?_;refine fE 6 (bm .u64 (n:Int)) ?_;refine fE 7 (bm .u64 ((n*8:Nat):Int)) ?_;refine eH 8 (λK b=>?_);go_simp;refine mR (U.o _) λw2 t2=>?_;have i:=i.t t2;refine gK b i ?_;clear b K
 refine fE 9 (bq (S++H++BG)) ?_;refine eH 10 (λK b=>?_);go_simp;refine gZ b ?_;clear b K
 refine Wy ?_;rw [aM.o.2];have F:=ao.o.u i;have m:=aM.o.1;have C:O=⟨((Yi Yv (p.length/64) p).l.flatMap λx=>XA x.toNat 4).toArray⟩:=by rw [G.o,m];rfl
 have a6:p.length=64*(p.length/64):=tF
 have b6:p.length<=2000000000000:=tF
 have X:=lh C;clear ao aM C m G N af aa U f1 f2 f3 f4 f5 f6 aD b1 b5 b9 t2;clear i;obtain⟨c,D⟩:=eX (p.length/64);rw [<-D]at X a6;have M:=lh a6;clear D a6;generalize f9:(⟨p.toArray⟩:BAr)=PP at *;have bk:PP.size=64*c:=by rw [<-f9,<-M.o];rfl
 have ad:=lh f9;have bf:c<=40000000000:=by have:=M.o;omega
 clear f9 b6;have A:gq w c4 w2 (Yi Yv 0 p):=F;clear F;as_aux_lemma=>
 go_upto_region 8 with fail
 go_wp2;go_loopw [7] (λs7 wr=>∃k:Nat,k<=c/\s7=bm .i64 (64*(k:Int))/\gq w c4 wr (Yi Yv k p)) (λs7 _=>64*c-(bR s7).toNat);case atStart=>exact⟨0,gn,lz,A⟩
 clear A;obtain⟨k,hk,rfl,P⟩:=hrel;by_cases a5:k<c
 .as_aux_lemma=>
  have q0:64*(k:Int)<64*(c:Int):=gn
  have q1:IntKind.i64.wrap (64*(k:Int)+64)=64*(k:Int)+64:=lD
  have q2:64*(k:Int)+64<=64*(c:Int):=gn
  have q3:(0:Int)<=64*(k:Int):=gn
  have q4:(0:Int)<=64*(k:Int)+64:=gn
  have q5:64*(k:Int)<=64*(k:Int)+64:=gn
  obtain⟨B,Q⟩:=eX ((p.drop (64*k)).take 64);have a2:B.length=64:=by rw [Q];simp;have:=M.o;omega
  have b7:PP.extract (64*(k:Int)).toNat (64*(k:Int)+64).toNat=⟨B.toArray⟩:=by rw [show (64*(k:Int)).toNat=64*k by omega,show (64*(k:Int)+64).toNat=64*k+64 by omega,<-ad.o,Q,Yk,show 64*k+64-64*k=64 by omega]
  have aq:=aa7 Yv p k;rw [<-Q]at aq;generalize Yi Yv k p=v at *;have G:=lh aq;have ap:=λu=>ae0 v B a2 u;generalize abj v B=Y at *;have aL:=lh ap;have an:=lh P;clear ap Q aq P a2;generalize b3:(⟨B.toArray⟩:BAr)=BB at *;clear b3;go_upto_region 10 with fail
  refine sN 8 (tR wr) λV i=>?_;refine Xz 0 (bw ⟨v.row⟩) (λw' L=>aaG (an.o.u L).h0) ?_;refine fE 1 (bq PP) ?_;refine fE 2 (bm .i64 (64*(k:Int))) ?_;refine fE 3 (bm .i64 (64*(k:Int))) ?_;refine fE 4 (bm .i64 (64*(k:Int)+64)) ?_;refine fE 5 (bq BB) ?_;refine Xz 6 (bw ⟨Yz.map wv⟩) (λw' L=>agw (an.o.u L).h1) ?_;refine eH 7 (λK b=>?_);go_simp;refine mR (aL.o _) λe f=>?_;have i:=i.t f;refine gK b i ?_;clear b K
  have A:=an.o.u i;have a8:=ac4 Y A.h0 rfl;have P3:gq w c4 (e.setRow w ⟨Y.row⟩) (Yi Yv (k+1) p):=by rw [G.o];exact A.put Y
  refine eH 8 (λK b=>?_);refine fO (d:=bA) rfl 216 (.tmp 3) (.tmp 46) rfl rfl rfl a8 ?_;refine gZ b ?_;clear b K a8 A
  refine Wy ?_;clear G aL an i f;generalize e.setRow w ⟨Y.row⟩=u2 at *;clear b7 q3 q4 q5 q2;go_wp2;go_roundw;case rel=>exact⟨k+1,gn,by go_num,P3⟩
  simp [bR];omega
 obtain rfl:k=c:=gn
 as_aux_lemma=>
 have hf:=X.o;generalize Yi Yv k p=v at *;have HF:=lh hf;clear hf X M ad;have b2:Hid (∀j,j<8->((v.l.take (j+1)).flatMap λx=>XA x.toNat 4)=((v.l.take j).flatMap λx=>XA x.toNat 4)++XA (v.l.getD j 0).toNat 4):=lh λj T=>by rw [aT (show j<v.l.length from T),List.flatMap_append,List.flatMap_singleton];simp [List.getD,show j<v.l.length from T]
 have bt:Hid (∀j,((v.l.take j).flatMap λx=>XA x.toNat 4).length<=32):=lh λj=>by
  have:∀l:List Yb,(l.flatMap λx=>XA x.toNat 4).length=4*l.length:=λl=>by
   induction l with
   |nil=>rfl
   |cons a l ih=>rw [List.flatMap_cons,aO,ih,En,List.length_cons];omega
  rw [this,List.length_take];show 4*min j 8<=32;omega
 go_upto_region 13 with fail
 go_wp2;go_loopw [8,9] (λs8 s9 wr=>∃j:Nat,j<=8/\s9=j/\s8=bq ⟨((v.l.take j).flatMap λx=>XA x.toNat 4).toArray⟩/\gq w c4 wr v) (λ_ s9 _=>8-(bR s9).toNat);case atStart=>exact⟨0,gn,rfl,rfl,P⟩
 clear P;obtain⟨j,T,rfl,rfl,P⟩:=hrel;by_cases a5:j<8
 .as_aux_lemma=>
  have bl:=b2.o j a5;have b4:(⟨((v.l.take j).flatMap λx=>XA x.toNat 4).toArray⟩:BAr).size<=32:=bt.o j;have ax:wr.cell? ⟨w,j,bA⟩=bB (wv (v.l.getD j 0)):=by rw [aA _ _ _ _ _ _ P.h0];match j,a5 with|0,_=>rfl|1,_=>rfl|2,_=>rfl|3,_=>rfl|4,_=>rfl|5,_=>rfl|6,_=>rfl|7,_=>rfl
  generalize v.l.getD j 0=x at *;have b8:=x.isLt;have J:=λu=>aeU x.toNat gn u;have bh:IntKind.u64.wrap (x.toNat:Int)=(x.toNat:Int):=lD
  have a2:(⟨(XA x.toNat 4).toArray⟩:BAr).size=4:=En _ _;have a3:=OC ((v.l.take j).flatMap λx=>XA x.toNat 4) (XA x.toNat 4);rw [<-bl]at a3;generalize cG:(⟨((v.l.take (j+1)).flatMap λx=>XA x.toNat 4).toArray⟩:BAr)=l1 at *;generalize (⟨((v.l.take j).flatMap λx=>XA x.toNat 4).toArray⟩:BAr)=l0 at *;generalize (⟨(XA x.toNat 4).toArray⟩:BAr)=bs at *;have f1:¬9223372036854775807<l0.size+4:=gn
  obtain⟨U,HP,HA⟩:=lh3 J P (bg a3 cG);unfold wv at ax;have bo:(j:Int)<8:=gn
  clear bl J P b8 a3 cG b4;go_upto_region 14 with (go_at_call 222;refine mR (U.o _) λe f=>?_)
  have P3:=HP.o.u f;clear HP U f ax;go_wp2;go_roundw;case rel=>exact⟨j+1,gn,by go_num,by rw [HA.o.2,<-HA.o.1],P3⟩
  simp [bR];omega
 obtain rfl:j=8:=gn
 have e8:v.l.take 8=v.l:=rfl;rw [e8,<-HF.o];have HT:=lh P.t;clear e8 P;go_wp2;go_ret;exact⟨rfl,HT.o⟩
