import Derived.Great.BuildSlice
import Derived.Test.YtaahejdimjbhhaaGreatDoorK07
set_option maxRecDepth 100000
set_option maxHeartbeats 0
set_option linter.all false
namespace Go.Proofs.YtaahejdimjbhhaaGreatDoor
open Tryz Go.RowKit Go.Den
open Go.Value renaming slice->bo,int->bp,agg->bq,bool->br
open Option renaming some->bt,none->bv
open Go renaming World->bw,Value->bx,TypeId->bz,Program->bA,execOp->bB,Operand->bE,Oper->bF,yielded->bL,Addr->bM,heap_alloc_new->bP,Exit->bR
open Go.Obj renaming cells->bS
open Bool renaming true->bT,false->bX
theorem Il.ints'{w:bw}{base:Nat}{A:Option bM}{n cap:Nat}{xs:List Int}(h:Il w base (bo A n cap) xs): dn w A n xs:=by obtain⟨a,c,b,e,f⟩:=h.ints;injection e with l z N;rw [l,z];exact f
theorem Il.tail{w:bw}{base g o n cap:Nat}{x:Int}{rest:List Int}(h:Il w base (bo (bt ⟨g,o,bv⟩) n cap) (x::rest)): Il w base (bo (if cap=1 then bt ⟨g,o,bv⟩ else bt ⟨g,o+1,bv⟩) rest.length (cap-1)) rest:=by
 rcases h.2 with ⟨i,_⟩|⟨O,v,p,b,e,c,f,G,s,t,m⟩
 .cases i
 injection e with l z N;injection l with l;injection l with l C q;subst l;subst C;subst N;simp only [List.length_cons]at G;by_cases d:cap=1
 .subst d;have k:rest=[]:=List.eq_nil_of_length_eq_zero gn;subst k;exact⟨rfl,.inr ⟨g,o,0,b,rfl,c,f,aQ _,Nat.zero_le _,gn,λj u a=>tP⟩⟩
 rw [aF d];refine⟨lz,.inr ⟨g,o+1,cap-1,b,rfl,c,f,gn,gn,gn,λj u a=>?_⟩⟩;have:=m (j+1) u (by simpa using a);rw [<-this,Nat.add_assoc,Nat.add_comm 1 j]
theorem Il.kept{w w':bw}{base:Nat}{v:bx}{xs:List Int}{b:List Nat}(h:Il w base v xs)(T:bH b w w')(E:∀g∈dI v,g∉b): Il w' base v xs:=
 h.keep λg d=>T.old g (h.lt g d).2.1 (E g d)
structure Q7(Wd:bw)(ls:List bI)(id:Int)(v u:bx)(wr:bw)(xs todo:List Int): Prop where
 iv:Il wr Wd.heap.size v xs
 iu:Il wr Wd.heap.size u todo
 inv:nZ ls id xs todo
 ap:∀g∈dI v,g∉dI u
 t:bH [] Wd wr
theorem Bo{P:bA}{o:bF}{a:Act}{w w':bw}{K:Act->bw->Prop}{Q:bR->Act->bw->Prop}{d:Option Tmp}(E:o.dst=d)(s x:bE)(t:bz){v y b:bx}
  (c:o.op=Op.call { callee:=Callee.builtin Builtin.append,args:=#[s,x],argTypes:=#[t,t] }) (n:a.eval s=v) (e:a.eval x=y)
  (g:(Builtin.append_ #[t,t] o.type #[v,y]).run P w=.ok b w') (h:K (a.put d b) w'):Oper.wp P o a w K Q:=by
 subst E;unfold Oper.wp;simp [bB,c,resolve,invoke,builtin,n,e,g,Result.andThen];exact h
theorem pF{W w w':bw}{b:Nat}(h:bH [] W w)(k:bH [b] w w')(a:W.heap.size<=b): bH [] W w':=
 fH h k λg d=>by
  have:g=b:=mH
  omega
theorem kN{W w w' wx:bw}{base:Nat}{v:bx}{xs:List Int}(h:bH [] W w)(k:bH (dI v) w w')(m:Il wx base v xs)(a:W.heap.size<=base): bH [] W w':=
 fH h k λg d=>aK a (m.lt g d).1
theorem Gs(u:bw)(x:Int): dn (u.alloc (bS #[x] 3)) (bt ⟨u,0,bv⟩) 1 [x]:=by
 refine⟨rfl,λj k=>?_⟩;obtain rfl:j=0:=gn
 refine⟨_,_,rfl,?_⟩;rw [aA _ _ _ _ 3 (0,0) (bP u _)];rfl
def slen(v:bx): Nat:=match v with | bo _ n _=>n|_=>0
theorem Il.slen{w:bw}{base:Nat}{v:bx}{xs:List Int}(h:Il w base v xs): slen v=xs.length:=by rcases h.form with ⟨rfl,rfl⟩|⟨g,o,a,rfl,_⟩<;>rfl
theorem G6(d:df)(id:Int)(w:bw)(h:d.At w)(D:oP d.agY): Calls prog 62 #[d.v,id,br bX] w λe w'=>∃v A,e=.returned v/\Il w' w.heap.size v A/\(∀y,y∈A↔iY d.agY id y)/\A.length<=2500/\bH [] w w':=by
 have i:=λid=>MX d id;have a6:=lh h;clear h;obtain⟨n,s,p,ag2,l,next,f,k,j,agY⟩:=d;simp only [df.v]at *;have T0:=(tR w).alloc (bS #[bo n s p,l,next,bo f k j] 29);have HS:=lh i;clear i;go_enter func62,ntmps62;go_wp2_with (go_at_call 119;refine (HS.o _ _ (a6.o.u (T0.a _))).mono ?_;rintro e w1 ⟨v1,rfl,a1,aR⟩)
 have X:(w.alloc (bS #[bo n s p,l,next,bo f k j] 29)).cell? ⟨w,0,bv⟩=bt (bo n s p):=mu
 have q1:(w.alloc (bS #[bo n s p,l,next,bo f k j] 29)).cell? ⟨w,1,bv⟩=bt (bp .i64 l):=mu
 have q2:(w.alloc (bS #[bo n s p,l,next,bo f k j] 29)).cell? ⟨w,2,bv⟩=bt (bp .i64 next):=mu
 have q3:(w.alloc (bS #[bo n s p,l,next,bo f k j] 29)).cell? ⟨w,3,bv⟩=bt (bo f k j):=mu
 have hE:=mg (w.alloc (bS #[bo n s p,l,next,bo f k j] 29));have hz:(w.alloc (bS #[bo n s p,l,next,bo f k j] 29)).heap.size=w.heap.size+1:=tX
 generalize w.alloc (bS #[bo n s p,l,next,bo f k j] 29)=F at *;have R0:Q7 F agY id (bo (bt ⟨w+1,0,bv⟩) 0 0) v1 w1 [] (eP agY id):=by
  rw [hz]at hE;refine⟨by rw [hz];exact hE.u aR,a1.base oU,.start D id,λg hg Q=>?_,((tR F).a _).t aR⟩;have N:g=w.heap.size+1:=by simpa [dI,Value.ownBlock]using hg
  have h2:=(a1.lt g Q).1;simp only [aI]at h2;omega
 clear hE a1 aR;go_loopw [7,8] (λs7 s8 wr=>∃A a3,Q7 F agY id s7 s8 wr A a3) (λs7 s8 _=>(2501-slen s7)*51+slen s8);case atStart=>exact⟨_,_,R0⟩
 clear R0;obtain⟨A,a3,R⟩:=hrel;have ar:=R.inv.short D;have a2:=R.iv;have G:=R.iu;obtain⟨J,I,M,rfl,a0⟩:=a2.ints;have am:=a0.1;cases a3 with
 |nil=>
  obtain⟨A8,n8,c8,rfl,ab⟩:=G.ints;obtain rfl:n8=0:=ab.1;have C:=lh R;clear R a2 G a0 ab ar;go_wp2;go_ret;exact⟨_,_,rfl,C.o.iv.base gn,C.o.inv.done,(C.o.inv.short D).1,T0.t C.o.t⟩
 |cons x rest=>
  rcases G.form with ⟨_,h0⟩|⟨g,o,E,rfl,hg,aD,ay,ax⟩
  .cases h0
  have hx:=ax 0 lz;have O:=G.tail;have hx:wr.cell? ⟨g,o,bv⟩=bt (bp .i64 x):=by simpa using hx
  have b2:=ar.2;have aM:=ar.1;simp only [List.length_cons]at *;generalize Q:rest.length=m at *;have b0:(0:Int)<(m:Int)+1:=gn
  have d0:decide ((0:Int)<(m:Int)+1)=bT:=aC b0;have b1:(m:Int)+1<=(E:Int):=gn
  have a8:=KG A x J I M gn wr a0;obtain⟨C,L,a7,ao,HM⟩:=lh5 R a8 O am Q;clear R a2 G O a8 ax ar am Q;have af:∀q∈dI (bo (if E=1 then bt ⟨g,o,bv⟩ else bt ⟨g,o+1,bv⟩) m (E-1)),q=g:=by
   intro q b;by_cases hc:E=1
   .rw [aG hc]at b;simpa [dI,Value.ownBlock]using b
   rw [aF hc]at b;simpa [dI,Value.ownBlock]using b
  have an:=lh af;clear af;go_upto_region 6 with (fail)
  generalize (if E=1 then bt (Addr.mk g o bv) else bt (Addr.mk g (o+1) bv))=W at *;have ad:∀q∈dI (bo J I M),q∉dI (bo W m (E-1)):=by intro q b H;have N:=an.o q H;subst N;exact C.o.ap q b mo
  have a5:=lh ad;clear ad;by_cases S:x∈A
  .rw [aC S]at L;(go_wp2_with (go_at_call 61;refine mR L.o λw2 z=>?_;rw [z];clear z));refine⟨⟨A,rest,C.o.iv,a7.o,C.o.inv.seen S,a5.o,C.o.t⟩,?_⟩;simp [slen]
  rw [ak S]at L;have a9:=Gs wr x;have ac:=C.o.iv.u ((tR wr).alloc (bS #[x] 3));have aw:F.heap.size<=wr.heap.size:=C.o.t.size;go_upto_region 8 with (first
   |(go_at_call 61;refine mR L.o λw2 z=>?_;rw [z];clear z)
   |(refine yB (v:=bo J I M) rfl _ _ rfl rfl ac rfl a9 oU gn ?_;intro v' V hV hT hB))
  have B:bH [] F V:=fH (C.o.t.a _) hT (λq b=>(C.o.iv.lt q b).1);have O:Il V F.heap.size (bo W m (E-1)) rest:=(a7.o.u ((tR wr).a _)).kept hT (λq b H=>a5.o q H b);have D0:Hid (∀w',bH [] V w'->w'.cell? ⟨w,0,bv⟩=bt (bo n s p)):=lh λw' T=>by rw [(bY (B.t T)).1 _ _ (ai X)];exact X
  have D1:Hid (∀w',bH [] V w'->w'.cell? ⟨w,1,bv⟩=bt (bp .i64 l)):=lh λw' T=>by rw [(bY (B.t T)).1 _ _ (ai X)];exact q1
  have D2:Hid (∀w',bH [] V w'->w'.cell? ⟨w,2,bv⟩=bt (bp .i64 next)):=lh λw' T=>by rw [(bY (B.t T)).1 _ _ (ai X)];exact q2
  have D3:Hid (∀w',bH [] V w'->w'.cell? ⟨w,3,bv⟩=bt (bo f k j)):=lh λw' T=>by rw [(bY (B.t T)).1 _ _ (ai X)];exact q3
  have aq:=a6.o.u (T0.t B);have HV:=lh hV;clear ac a9 hT hB hV;refine cu.start (λw'=>bH [] V w') 8 lB ?_;have i:=(tR V).drawn 1;change bH [] V V.drew at i;generalize V.drew=Y at *;refine fE 1 (bo W m (E-1)) ?_;refine fE 3 (bq #[bo n s p,l,next,bo f k j]) ?_ (j:=λw' z=>by have e0:=D0.out _ z;have e1:=D1.out _ z;have e2:=D2.out _ z;have e3:=D3.out _ z;go_simp);refine fE 4 x ?_;refine fE 5 (br bX) ?_;have P:V.heap.size<=Y.heap.size:=i.size;have P:V.heap.size<=Y.heap.size:=i.size;refine eH 0 λK c=>?_;go_simp;refine c _ _ (λ_=>i.a _) ?_;clear c K;try go_frame
  obtain⟨v2,w5,e2,E2,U,f2⟩:=iQ (cap:=E-1) (mg Y) (O.u (i.alloc (bS #[] 3))).ints' oU (by have:=HM.o;simp;omega) 22;have U:bH [Y.heap.size] (Y.alloc (bS #[] 3)) w5:=U;have S5:bH [] V w5:=pF (i.a _) U P;refine eH 2 λK c=>?_;refine Bo (d:=bt 33) rfl _ _ 22 rfl rfl rfl e2 ?_;refine gK c S5 ?_;clear c K
  rw [List.nil_append]at E2;have av:Y.heap.size<=w5.heap.size:=by have:=U.size;simp only [aI]at this;omega
  refine eH 6 λK c=>?_;go_simp;refine (HS.o x _ (aq.u S5)).mono ?_;rintro e w6 ⟨v3,rfl,E3,t3⟩;have S6:=S5.t t3;refine gK c S6 ?_;clear c K
  have a4:=E2.u t3;obtain⟨A3,n3,c3,rfl,aa⟩:=E3.ints;have aE:=aa.1;have aL:=oJ D x;obtain⟨v4,w7,e4,Z,t4,f4⟩:=iQ (cap:=c3) a4 aa (by have:=t3.size;omega) (by have:=HM.o;omega) 22;have S7:bH [] V w7:=kN S6 t4 a4 P;refine eH 7 λK c=>?_;refine Bo (d:=bt 38) rfl _ _ 22 rfl rfl rfl e4 ?_;refine gK c S7 ?_;clear c K
  clear i;have i:=S7;refine Yo ?_
  go_wp2_with fail
  refine⟨⟨A++[x],rest++eP agY x,HV.o.u i,Z.base (by have:=P;have:=B.size;omega),C.o.inv.fresh D S,λq b H=>?_,B.t i⟩,?_⟩
  .have N:=(HV.o.lt q b).2.1;have h2:=(Z.lt q H).1;omega
  have N:=HV.o.slen;have h2:=Z.slen;have h3:=oJ D x;have h4:=C.o.iv.slen;have h5:=HM.o;have h6:=(C.o.inv.short D).1;have h7:slen (bo J I M)=I:=rfl;have h8:=ao.o;simp only [slen,aO,List.length_cons,List.length_nil]at *;omega
theorem kP{s:Nat}: ∀{L:List (List bx)},(∀r∈L,r.length=s)->∀j i,i<s->L.flatten[j*s+i]?=(L[j]?).bind (·[i]?)
 | [],_,j,i,_=>by simp
 |r::L,h,0,i,hi=>by have C:=h r lz;rw [List.flatten_cons,Nat.zero_mul,Nat.zero_add,bD gn];rfl
 |r::L,h,j+1,i,hi=>by have C:=h r lz;rw [List.flatten_cons,Nat.add_mul,Nat.one_mul,bG gn,C,show j*s+s+i-s=j*s+i by omega,kP (λr C=>h r up) j i hi];rfl
theorem oz{s:Nat}: ∀{L:List (List bx)},(∀r∈L,r.length=s)->L.flatten.length=L.length*s
 | [],_=>by simp
 |r::L,h=>by have C:=h r lz;rw [List.flatten_cons,aO,oz (λr C=>h r up),List.length_cons,Nat.add_mul,C];omega
structure kD where
 e:bz
 size:Nat
 bytes:Nat
 Z:bx
 hi:(prog.info? e).map (λi=>(i.zero,i.size,i.bytes))=bt (bt Z,size,bytes)
 hz:Z.cells.size=size
 hs:0<size
 hb:size<=1000
 hc:bytes<=4096
theorem kD.info(k:kD): ∃i,prog.info? k.e=bt i/\i.zero=bt k.Z/\i.size=k.size/\i.bytes=k.bytes:=by
 have h:=k.hi;cases m:prog.info? k.e with
 |none=>rw [m]at h;cases h
 |some i=>
  rw [m]at h;simp only [Option.map_some,Option.some.injEq,Prod.mk.injEq]at h;exact⟨i,rfl,h.1,h.2.1,h.2.2⟩
structure kD.Row(k:kD)(r:List bx): Prop where
 len:r.length=k.size
 one:∀u∈r,u.oneCell'=bT
def iK(k:kD)(w:bw)(base:Nat)(v:bx)(a:List (List bx)): Prop:=(∀r∈a,k.Row r)/\qJ w base k.e k.size v a.length a.flatten
theorem iK.u{k:kD}{w w':bw}{base:Nat}{v:bx}{a:List (List bx)}(h:iK k w base v a)(T:bH [] w w'): iK k w' base v a:=
 ⟨h.1,h.2.keep λg d=>T.old g (h.2.lt g d).2.1 lz⟩
theorem iK.kept{k:kD}{w w':bw}{base:Nat}{v:bx}{a:List (List bx)}{b:List Nat}(h:iK k w base v a)(T:bH b w w')(E:∀g∈dI v,g∉b): iK k w' base v a:=
 ⟨h.1,h.2.keep λg d=>T.old g (h.2.lt g d).2.1 (E g d)⟩
theorem jU(k:kD)(w:bw)(base:Nat): iK k w base (bo bv 0 0) []:=⟨λr h=>qc,lz,.inl ⟨rfl,rfl⟩⟩
theorem iK.form{k:kD}{w:bw}{base:Nat}{v:bx}{a:List (List bx)}(h:iK k w base v a): (v=bo bv 0 0/\a=[])\/∃g o b,v=bo (bt ⟨g,o,bv⟩) a.length b/\base<=g/\g<w.heap.size/\a.length<=b/\∀j r,a[j]?=bt r->w.rangeAt g (o+j*k.size) r:=by
 rcases h.2.2 with ⟨rfl,l⟩|⟨g,q,b,f,rfl,m,c,G,s,t,p⟩
 .exact .inl ⟨rfl,List.eq_nil_of_length_eq_zero l⟩
 refine .inr ⟨g,q,b,rfl,m,(ae.1 c).1,G,λj r C i u d=>?_⟩;have n:i<k.size:=by rw [<-(h.1 r (aH C)).len];exact (ah.1 d).1
 rw [aA w g _ f k.e (0,0) c,Nat.add_assoc];refine p _ u ?_;rw [kP (λr C=>(h.1 r C).len) j i n,C];exact d
theorem zH{k:kD}{t:bz}(B:prog.underlying t=bt (.slice k.e)){w:bw}{base:Nat}{v:bx}{c news:List (List bx)}(h:iK k w base v c)(g o cap m:Nat)(f:m=news.length)(b:∀r∈news,k.Row r)
  (s:∀j r,news[j]?=bt r->w.rangeAt g (o+j*k.size) r) (q:base<=w.heap.size) (G:c.length+m<=100000) (ty:bz) :
  ∃d w',(Builtin.append_ #[t,t] ty #[v,bo (bt ⟨g,o,bv⟩) m cap]).run prog w=.ok d w'/\iK k w' base d (c++news)/\bH (dI v) w w'/\(∀g∈dI d,g∈dI v\/w.heap.size<=g):=by
 obtain⟨i,Z,F,E,D⟩:=k.info;have l:news.flatten.length=m*k.size:=by rw [oz λr C=>(b r C).len,f]
 obtain⟨d,w',n,z,N,p⟩:=oq (P:=prog) (ty:=ty) B Z F E D k.hz k.hs h.2 ⟨g,o,bv⟩ m cap news.flatten l (λj u a=>by
  have y:j<m*k.size:=by rw [<-l];exact (ah.1 a).1
  have A:j/k.size<news.length:=by rw [<-f];exact Nat.div_lt_of_lt_mul (by rw [Nat.mul_comm];exact y)
  have C:=Nat.mod_lt j k.hs;have x:j/k.size*k.size+j%k.size=j:=ro
  rw [<-x,kP (λr C=>(b r C).len) _ _ C]at a;have G:news[j/k.size]?=bt news[j/k.size]:=aB A;rw [G]at a;rw [Addr.add_lit];have:=s _ _ G _ u a;rw [show o+j=o+j/k.size*k.size+j%k.size by omega];exact this) (λu a=>by
  obtain⟨r,C,a⟩:=List.mem_flatten.1 a;exact (b r C).one u a) (aK G lG) (by
  have:=k.hc;have:(c.length+m)*k.bytes<=100000*4096:=Nat.mul_le_mul G this;omega) q
 refine⟨d,w',n,⟨λr C=>?_,?_⟩,N,p⟩
 .rcases aV.1 C with C|C
  .exact h.1 r C
  exact b r C
 rw [aO,List.flatten_append,<-f];exact z
theorem Nl(n:Nat)(Z:Array bx)(T:List bx)(d:Z.size=n)(b:T.length=n): Instr.fill (λi=>bt (i*n,n)) Z [(0,bq ⟨T⟩)]=bt ⟨T⟩:=by
 have k:(Value.agg ⟨T⟩).cells=⟨T⟩:=rfl;simp only [Instr.fill,k,Nat.zero_mul];rw [aF (by simp [b,d])];congr 1;refine Array.ext_getElem? λi=>?_;rw [<-Array.foldl_toList,Array.toList_zipIdx,Go.Den.CV,b,d];by_cases h:i<n
 .rw [aG gn];simp
 rw [aF gn,Array.getElem?_eq_none gn];simp;omega
theorem nG{k:kD}{t:bz}(o:prog.underlying t=bt (.slice k.e)){r:List bx}(C:k.Row r)(w:bw): (Instr.buildSlice t 1 #[(0,bq ⟨r⟩)]).run prog w=.ok (bo (bt ⟨w,0,bv⟩) 1 1) (w.alloc (bS ⟨r⟩ k.e)):=by obtain⟨i,Z,D,B,y⟩:=k.info;have a:=k.hs;have f:=k.hb;refine run_buildSlice w t k.e 1 _ ⟨r⟩ i _ o Z D (by rw [B];omega) (by rw [B];omega) ?_;rw [B];exact Nl k.size _ r lz C.len
theorem jT(w:bw)(r:List bx)(e:bz): (w.alloc (bS ⟨r⟩ e)).rangeAt w.heap.size 0 r:=by intro j u o;rw [Nat.zero_add,aA _ _ _ ⟨r⟩ e (0,0) (bP w _)];simpa using o
theorem kV{k:kD}{t:bz}(o:prog.underlying t=bt (.slice k.e)){w:bw}{base:Nat}{v:bx}{c:List (List bx)}(h:iK k w base v c){r:List bx}(m:k.Row r)(n:base<=w.heap.size)(G:c.length+1<=100000)(ty:bz):
  ∃d w',(Builtin.append_ #[t,t] ty #[v,bo (bt ⟨w,0,bv⟩) 1 1]).run prog (w.alloc (bS ⟨r⟩ k.e))=.ok d w'/\iK k w' base d (c++[r])/\bH (dI v) w w'/\(∀g∈dI d,g∈dI v\/w.heap.size<=g):=by
 have T:=(tR w).alloc (bS ⟨r⟩ k.e);obtain⟨d,w',l,z,N,C⟩:=zH (news:=[r]) o (h.u T) w.heap.size 0 1 1 rfl (λf b=>by
  rw [aN]at b;subst b;exact m) (λj f b=>by
  cases j with
  |succ j=>simp at b
  |zero=>
   have b:r=f:=rK;subst b;rw [Nat.zero_mul];exact jT w r k.e) lO G ty
 refine⟨d,w',l,z,?_,λg i=>(C g i).imp id λh=>?_⟩
 .exact ((bH.refl (dI v) w).a _).t N
 simp at h;omega
theorem bQ{P:bA}{b:Array bF}{rest:List bF}{o:bF}{a:Act}{w w':bw}{Q:bR->Act->bw->Prop}{v:bx}(d:o.guard=bv)(C:(bB a.eval o).run P w=.ok (.value v) w')(h:wpList P b Q rest (a.put o.dst v) w'): wpList P b Q (o::rest) a w:=
 wpList_plain d λK c=>sS
theorem bZ{P:bA}{o:bF}{a:Act}{w u:bw}{K:Act->bw->Prop}{Q:bR->Act->bw->Prop}{d:Option Tmp}(E:o.dst=d){v:bx}(C:(bB a.eval o).run P w=.ok (.value v) u)(h:K (a.put d v) u): o.wp P a w K Q:=by subst E;unfold Oper.wp;rw [C];exact h
theorem iU{P:bA}{o:bF}{a:Act}{w w':bw}{t:bz}{ps:Array (Nat×bE)}{vs:Array (Nat×bx)}{v:bx}(e:o.op=.build t ps)(b:(ps.map λ(i,x)=>(i,a.eval x))=vs)(C:(Instr.build t vs).run P w=.ok v w'): (bB a.eval o).run P w=.ok (.value v) w':=by obtain⟨d,l,ty,m,k,g⟩:=o;simp only at e;subst e;show (Sem.bind (Instr.build t (ps.map λ(i,x)=>(i,a.eval x))) _).run P w=_;rw [b,Sem.run_bind',C];rfl
theorem gm{P:bA}{o:bF}{a:Act}{w w':bw}{t:bz}{n:Nat}{ps:Array (Nat×bE)}{vs:Array (Nat×bx)}{v:bx}(e:o.op=.buildSlice t n ps)(b:(ps.map λ(i,x)=>(i,a.eval x))=vs)(C:(Instr.buildSlice t n vs).run P w=.ok v w'): (bB a.eval o).run P w=.ok (.value v) w':=by obtain⟨d,l,ty,m,k,g⟩:=o;simp only at e;subst e;show (Sem.bind (Instr.buildSlice t n (ps.map λ(i,x)=>(i,a.eval x))) _).run P w=_;rw [b,Sem.run_bind',C];rfl
theorem dV{P:bA}{o:bF}{a:Act}{w w':bw}{t:bz}{x:bE}{y v:bx}(e:o.op=.buildSlice t 1 #[(0,x)])(b:a.eval x=y)(C:(Instr.buildSlice t 1 #[(0,y)]).run P w=.ok v w'): (bB a.eval o).run P w=.ok (.value v) w':=
 gm e sw C
theorem oN{P:bA}{o:bF}{a:Act}{w w':bw}{t:bz}{i j:Nat}{x y:bE}{p q v:bx}(e:o.op=.build t #[(i,x),(j,y)])(b:a.eval x=p)(hy:a.eval y=q)(C:(Instr.build t #[(i,p),(j,q)]).run P w=.ok v w'): (bB a.eval o).run P w=.ok (.value v) w':=
 iU e (by simp [b,hy]) C
theorem dL{P:bA}{o:bF}{a:Act}{w w':bw}(s x:bE)(t:bz){v y d:bx}(b:o.op=Op.call { callee:=Callee.builtin Builtin.append,args:=#[s,x],argTypes:=#[t,t] })(n:a.eval s=v)(c:a.eval x=y)
  (g:(Builtin.append_ #[t,t] o.type #[v,y]).run P w=.ok d w'):(bB a.eval o).run P w=.ok (.value d) w':=by
 simp [bB,b,resolve,invoke,builtin,n,c,g,Result.andThen]
theorem PN(n m:Nat)(Z:Array bx)(A B:List bx)(d:Z.size=n+m)(j:A.length=n)(v:B.length=m): Instr.fill (#[(0,n),(n,m)][·]?) Z [(0,bq ⟨A⟩),(1,bq ⟨B⟩)]=bt ⟨A++B⟩:=by
 have k:(Value.agg ⟨A⟩).cells=⟨A⟩:=rfl;have g:(Value.agg ⟨B⟩).cells=⟨B⟩:=rfl;simp only [Instr.fill,k,g];have s1:(#[(0,n),(n,m)]:Array (Nat×Nat))[0]?=bt (0,n):=rfl;have s2:(#[(0,n),(n,m)]:Array (Nat×Nat))[1]?=bt (n,m):=rfl;rw [s1,s2];simp only;obtain⟨C,c⟩:∃C:Array bx,C=(⟨A⟩:Array bx).zipIdx.foldl (λ(b:Array bx) (x:bx×Nat)=>b.setIfInBounds (0+x.2) x.1) Z:=⟨_,rfl⟩;have o:∀i:Nat,C[i]?=if i<n then A[i]? else Z[i]?:=by
  intro i;rw [c,<-Array.foldl_toList,Array.toList_zipIdx,Go.Den.CV,j,d];by_cases h:i<n
  .rw [aG gn,aG h];simp
  rw [aF gn,aF h]
 have f:C.size=n+m:=by
  have p:∀(l:List (bx×Nat)) (a:Array bx),(l.foldl (λ(b:Array bx) (x:bx×Nat)=>b.setIfInBounds (0+x.2) x.1) a).size=a.size:=by
   intro l;induction l with
   |nil=>intro a;rfl
   |cons x l ih=>intro a;rw [List.foldl_cons,ih];simp
  rw [c,<-Array.foldl_toList,p,d]
 rw [aF (by simp [j,d]),<-c,aF (by simp [v,f])];congr 1;refine Array.ext_getElem? λi=>?_;rw [<-Array.foldl_toList,Array.toList_zipIdx,Go.Den.CV,f,o];rw [show (⟨A++B⟩:Array bx)[i]?=(A++B)[i]? by simp];show (if n+0<=i/\i<n+0+B.length/\i<n+m then B[i-(n+0)]? else _)=_;rw [v,Nat.add_zero];by_cases e:i<n
 .rw [aF gn,aG e,bD gn]
 by_cases q:i<n+m
 .rw [aG gn,bG gn,j]
 rw [aF gn,aF e,Array.getElem?_eq_none gn,bC lO]
theorem RG:(prog.info? 181).map (λi=>(i.zero,i.size,i.bytes))=bt (bt (bq zeroCells181),258,272):=lB
noncomputable def kJ:kD:=⟨181,258,272,bq zeroCells181,RG,by kernel_rfl,by decide,by decide,by decide⟩
theorem jA{t:dC}(h:jo t.px): kJ.Row t.row:=by
 refine⟨by show t.row.length=258;simp [dC.row,h.1],λv e=>?_⟩;rcases aS.1 e with rfl|e
 .rfl
 rcases aS.1 e with rfl|e
 .rfl
 obtain⟨x,_,rfl⟩:=List.mem_map.1 e;rfl
theorem OO(w:bw): ∃a,prog.underlying 181=bt (.struct a)/\(a.mapM λf=>do pure (f.offset,<-sizeOf f.type):Sem (Array (Nat×Nat))).run prog w=.ok #[(0,2),(2,256)] w:=⟨_,underlying181,lB⟩
theorem Fa(x y:Int)(a:List Int)(i:a.length=256)(w:bw): (Instr.build 181 #[(0,bq #[x,y]),(1,bq ⟨a.map (Value.int .u8)⟩)]).run prog w=.ok (bq ⟨(dC.mk x y a).row⟩) w:=by obtain⟨c,o,b⟩:=OO w;unfold Instr.build;rw [Sem.run_bind,(zero_of_info oV).1];simp only [Result.andThen,Sem.run_bind,run_underlying o];rw [b];have l:=PN 2 256 zeroCells181 [x,y] (a.map (Value.int .u8)) lB rfl (by rw [aJ,i]);simp only [Value.cells]at l ⊢;rw [l];rfl
def JI(w:bw)(base:Nat)(v:bx)(c:List dC): Prop:=(∀t∈c,jo t.px)/\iK kJ w base v (c.map dC.row)
theorem JI.at{w:bw}{base:Nat}{v:bx}{c:List dC}(h:JI w base v c): ∃A n a,v=bo A n a/\dB w A n c:=by
 rcases h.2.form with ⟨rfl,e⟩|⟨g,o,a,rfl,_,_,_,C⟩
 .have:c=[]:=by simpa using e
  subst this;exact⟨bv,0,0,rfl,nX w⟩
 refine⟨_,_,_,rfl,lz,λj t b=>⟨h.1 t (aH b),g,o,rfl,?_⟩⟩;exact C j t.row (by rw [aP,b];rfl)
structure lM(w wr:bw)(A:Option bM)(n cap:Nat)(x y:Int)(px:List Int)(v:bx)(ts:List dC): Prop where
 t:bH [] w wr
 h0:wr.heap[w.heap.size]?=bt (bS #[bo A n cap] 49 (0,0))
 h1:wr.heap[w.heap.size+1]?=bt (bS #[x,y] 24 (0,0))
 h2:wr.heap[w.heap.size+2]?=bt (bS ⟨px.map (Value.int .u8)⟩ 80 (0,0))
 h3:wr.heap[w.heap.size+3]?=bt (bS #[bo bv 0 0] 49 (0,0))
 h4:wr.heap[w.heap.size+4]?=bt (bS #[v] 49 (0,0))
 own:JI wr (w.heap.size+5) v ts
theorem lM.lt{w wr:bw}{A:Option bM}{n cap:Nat}{x y:Int}{a:List Int}{v:bx}{c:List dC}(h:lM w wr A n cap x y a v c): w.heap.size+5<=wr.heap.size:=(ae.1 h.h4).1
theorem lM.keep{w wr w':bw}{A:Option bM}{n cap:Nat}{x y:Int}{k:List Int}{v d:bx}{o E:List dC}{f:List Nat}(h:lM w wr A n cap x y k v o)(T:bH f wr w')(j:∀g∈f,w.heap.size+5<=g)(e:JI w' (w.heap.size+5) d E):
  lM w (w'.setCell ⟨w+4,0,bv⟩ d) A n cap x y k d E:=by
 have p:=h.lt;have a:∀i,i<5->w'.heap[w.heap.size+i]?=wr.heap[w.heap.size+i]?:=λi m=>T.old _ gn λl=>by have:=j _ l;omega
 have b:∀i,i<4->(w'.setCell ⟨w+4,0,bv⟩ d).heap[w.heap.size+i]?=w'.heap[w.heap.size+i]?:=λi m=>by simp only [World.setCell,au];rw [aF gn]
 refine⟨?_,?_,?_,?_,?_,?_,?_⟩
 .exact (fH h.t T (λg c=>by have:=j g c;omega)).sc
 .exact (b 0 gn).t ((a 0 gn).t h.h0)
 .exact (b 1 gn).t ((a 1 gn).t h.h1)
 .exact (b 2 gn).t ((a 2 gn).t h.h2)
 .exact (b 3 gn).t ((a 3 gn).t h.h3)
 .simp only [World.setCell,au,if_true,(a 4 gn).t h.h4];rfl
 refine⟨e.1,e.2.1,e.2.2.keep λg c=>?_⟩;have:=(e.2.2.lt g c).1;simp only [World.setCell,au];rw [aF gn]
theorem lM.drawn{w wr w':bw}{A:Option bM}{n cap:Nat}{x y:Int}{b:List Int}{v:bx}{c:List dC}(h:lM w wr A n cap x y b v c)(T:bH [] wr w'): lM w w' A n cap x y b v c:=by have d:=h.lt;have a:∀i,i<5->w'.heap[w.heap.size+i]?=wr.heap[w.heap.size+i]?:=λi m=>T.old _ gn lz;exact⟨h.t.t T,(a 0 gn).t h.h0,(a 1 gn).t h.h1,(a 2 gn).t h.h2,(a 3 gn).t h.h3,(a 4 gn).t h.h4,h.own.1,h.own.2.u T⟩
theorem lM.cells{w wr:bw}{A:Option bM}{n cap:Nat}{x y:Int}{a:List Int}{v:bx}{c:List dC}(h:lM w wr A n cap x y a v c):
  wr.cell? ⟨w,0,bv⟩=bt (bo A n cap)/\wr.cell? ⟨w+1,0,bv⟩=bt (bp .i64 x)/\wr.cell? ⟨w+1,1,bv⟩=bt (bp .i64 y)/\wr.cell? ⟨w+3,0,bv⟩=bt (bo bv 0 0)/\wr.cell? ⟨w+4,0,bv⟩=bt v/\
   wr.frozen? ⟨w+3,0,bv⟩=bX/\wr.frozen? ⟨w+4,0,bv⟩=bX:=by
 refine⟨?_,?_,?_,?_,?_,?_,?_⟩
 .rw [aA _ _ _ _ _ _ h.h0];rfl
 .rw [aA _ _ _ _ _ _ h.h1];rfl
 .rw [aA _ _ _ _ _ _ h.h1];rfl
 .rw [aA _ _ _ _ _ _ h.h3];rfl
 .rw [aA _ _ _ _ _ _ h.h4];rfl
 .simp [World.frozen?,h.h3]
 simp [World.frozen?,h.h4]
theorem nN{r:List bx}(C:kJ.Row r)(w:bw): (Instr.buildSlice 47 1 #[(0,bq ⟨r⟩)]).run prog w=.ok (bo (bt ⟨w,0,bv⟩) 1 1) (w.alloc (bS ⟨r⟩ 181)):=nG (k:=kJ) underlying47 C w
theorem lM.app{w u:bw}{A:Option bM}{n cap:Nat}{x y:Int}{e:List Int}{v:bx}{c:List dC}(h:lM w u A n cap x y e v c)(t:dC)(o:jo t.px)(G:c.length<=5000):
  ∃d a,(Builtin.append_ #[47,47] 47 #[v,bo (bt ⟨u,0,bv⟩) 1 1]).run prog (u.alloc (bS ⟨t.row⟩ 181))=.ok d a/\lM w (a.setCell ⟨w+4,0,bv⟩ d) A n cap x y e d (c++[t])/\bH (dI v) u a/\
   a.cell? ⟨w+4,0,bv⟩=bt v/\a.frozen? ⟨w+4,0,bv⟩=bX:=by
 have s:=h.lt;obtain⟨d,a,f,z,N,C⟩:=kV (k:=kJ) (t:=47) underlying47 h.own.2 (jA o) gn lO 47;have b:∀g∈dI v,w.heap.size+5<=g:=λg i=>(h.own.2.2.lt g i).1;have l:a.heap[w.heap.size+4]?=bt (bS #[v] 49 (0,0)):=(N.old _ gn (λj=>by have:=b _ j;omega)).t h.h4;refine⟨d,a,f,h.keep N b ⟨λp m=>?_,?_⟩,N,?_,?_⟩
 .rcases aV.1 m with q|q
  .exact h.own.1 p q
  rw [aN]at q;subst q;exact o
 .rw [List.map_append];exact z
 .rw [aA _ _ _ _ _ _ l];rfl
 simp [World.frozen?,l]
section
section
variable {P:bA} {ops:Array bF} {Q:bR->Act->bw->Prop} {md:Region.Mode} {S:bw->Prop} {z:Nat}
theorem cu.two{i j:Nat}{l f:bF}{n:Nat}{done:Array Bool}{a:Act}{w:bw}(t:ops[i]?=bt l)(u:ops[j]?=bt f)(C:(Region.ready md ops done==[i,j])=bT)(m:Region.wanted l (bL ops a.tmps)=bT)(o:Region.wanted f (bL ops a.tmps)=bT)
  (p:∀K:Act->bw->Prop,(∀b w',(i≠z->S w')->cu P md ops Q S z n (done.setIfInBounds i bT) b w'->K b w')->Oper.wp P l a w K Q)
  (s:∀K:Act->bw->Prop,(∀b w',(j≠z->S w')->cu P md ops Q S z n (done.setIfInBounds j bT) b w'->K b w')->Oper.wp P f a w K Q):cu P md ops Q S z (n+1) done a w:=by
 have k:Region.ready md ops done=[i,j]:=by simpa using C
 refine⟨λg=>(by rw [k]at g;cases g),λq h=>?_⟩;rw [k,aS,aN]at h;rcases h with rfl|rfl
 .refine wpOp_step t λK d=>?_;rw [aG m];exact p K λb w' e c=>d b w' ⟨e,c⟩
 refine wpOp_step u λK d=>?_;rw [aG o];exact s K λb w' e c=>d b w' ⟨e,c⟩
theorem tj(i j:Nat){l c:bF}{n:Nat}{done:Array Bool}{a:Act}{w:bw}(e:∀K:Act->bw->Prop,(∀b w',(i≠z->S w')->cu P md ops Q S z n (done.setIfInBounds i bT) b w'->K b w')->Oper.wp P l a w K Q)(f:∀K:Act->bw->Prop,(∀b w',(j≠z->S w')->cu P md ops Q S z n (done.setIfInBounds j bT) b w'->K b w')->Oper.wp P c a w K Q)(d:ops[i]?=bt l:=by rfl)(k:ops[j]?=bt c:=by rfl)(C:(Region.ready md ops done==[i,j])=bT:=by kernel_rfl)(m:Region.wanted l (bL ops a.tmps)=bT:=by rfl)(o:Region.wanted c (bL ops a.tmps)=bT:=by rfl): cu P md ops Q S z (n+1) done a w:=cu.two d k C m o e f
end
theorem di{P:bA}{o:bF}{a:Act}{w w':bw}{t:bz}{v:bx}(e:o.op=.alloc t)(C:(Instr.alloc t bT (.tuple #[])).run P w=.ok v w'): (bB a.eval o).run P w=.ok (.value v) w':=by simp only [bB,e,Sem.run_bind,C,Result.andThen];rfl
theorem fO{P:bA}{o:bF}{a:Act}{w w':bw}{K:Act->bw->Prop}{Q:bR->Act->bw->Prop}{d:Option Tmp}(E:o.dst=d)(t:bz)(x y:bE)(e:o.op=.store t x y){p v:bx}(b:a.eval x=p)(hy:a.eval y=v)(C:(Instr.storeAt t p v).run P w=.ok () w')(h:K (a.put d undef) w'): o.wp P a w K Q:=by subst E;unfold Oper.wp;simp only [bB,e,b,hy,Sem.run_bind,C,Result.andThen];exact h
end
def jJ(ls:List bI)(id:Int)(i:Nat): Nat:=(((ls.take i).map (·.ag0)).flatten).count id
def pM(ls:List bI)(f:Int)(l:bI): Bool:=l.ag0.all (λk=>(mW (ls.map (·.id)) k).isSome)&&(if l.id=f then jJ ls l.id ls.length==0 else jJ ls l.id ls.length==1)
theorem wW{ls:List bI}{id:Int}{i:Nat}{l:bI}(a:ls[i]?=bt l): jJ ls id (i+1)=jJ ls id i+l.ag0.count id:=by unfold jJ;obtain⟨e,f⟩:=ah.1 a;rw [aT e,f];simp [List.count_append]
theorem BC{c:List Int}{id:Int}{k:Nat}(d:k<c.length): (c.take (k+1)).count id=(c.take k).count id+if c.getD k 0=id then 1 else 0:=by
 rw [aT d,List.count_append];have:c.getD k 0=c[k]:=by simp [List.getD,d]
 rw [this,List.count_singleton];simp
theorem G9(q n:Nat): ((q:Int)==(n:Int))=(q==n):=by
 cases h:(q==n)with
 |true=>
  have:q=n:=om
  subst this;exact beq_self_eq_true _
 |false=>
  have a:¬q=n:=λe=>by subst e;rw [beq_self_eq_true]at h;cases h
  have f:¬(q:Int)=(n:Int):=gn
  exact beq_eq_false_iff_ne.2 f
theorem PS(d:df)(l:bI)(w:bw)(h:d.At w)(hl:l.At w): CR 59 #[d.v,l.v] w (br (pM d.agY d.root l)):=by
 have hA:=λx=>uD d x;have hC:=λh1=>h.agY.cell h1;have hn:=h.agY.1;have bm:=h.small;have ao:d.ids=d.agY.map (·.id):=rfl;have HD:=lh h;clear h;generalize b5:d.ids=a2 at *;obtain⟨p,A,s,ag2,f,next,m,e,n,agY⟩:=d;simp only [df.v]at *;have Q:=jg l (w.alloc (bS #[bo p A s,f,next,bo m e n] 29)) 51;have D:=((tR w).alloc (bS #[bo p A s,f,next,bo m e n] 29)).alloc (bS ⟨l.row⟩ 51);have q0:((w.alloc (bS #[bo p A s,f,next,bo m e n] 29)).alloc (bS ⟨l.row⟩ 51)).cell? ⟨w,0,bv⟩=bt (bo p A s):=mu
 have q1:((w.alloc (bS #[bo p A s,f,next,bo m e n] 29)).alloc (bS ⟨l.row⟩ 51)).cell? ⟨w,1,bv⟩=bt (bp .i64 f):=mu
 have q2:((w.alloc (bS #[bo p A s,f,next,bo m e n] 29)).alloc (bS ⟨l.row⟩ 51)).cell? ⟨w,2,bv⟩=bt (bp .i64 next):=mu
 have q3:((w.alloc (bS #[bo p A s,f,next,bo m e n] 29)).alloc (bS ⟨l.row⟩ 51)).cell? ⟨w,3,bv⟩=bt (bo m e n):=mu
 have hz:(w.alloc (bS #[bo p A s,f,next,bo m e n] 29)).heap.size=w.heap.size+1:=tX
 rw [hz]at Q;have p0:=kQ Q 0 l.id rfl;have a3:=kQ Q 15 (bo l.Xi l.Xh l.Xj) rfl;have bh:=hl.Xk;have av:=hl.ag0;clear Q hz;unfold bI.v;generalize l.row=ba,l.Xi=kA,l.Xh=B,l.Xj=kc at *;obtain⟨HK,HA,HC,HN,a6⟩:=lh5 av hA hC hn ao;clear av hA hC hn ao hl b5;go_enter func59,ntmps59;go_wp2_with fail
 generalize (w.alloc (bS #[bo p A s,f,next,bo m e n] 29)).alloc (bS ⟨ba⟩ 51)=W at *;have C:∀{b i:Nat} {v:bx},W.cell? ⟨b,i,bv⟩=bt v->∀w',bH [] W w'->w'.cell? ⟨b,i,bv⟩=bt v:=λh w' T=>oA
 have X:Hid (∀w',bH [] W w'->dn w' kA B l.ag0):=lh λw' T=>HK.o.u (D.t T);clear HK;have a7:(l.ag0.all λk=>(mW (agY.map (·.id)) k).isSome)=bX->pM agY f l=bX:=λh=>by unfold pM;rw [h];rfl
 have aM:=lh a7;clear a7;go_loopw [5] (λs5 wr=>∃k:Nat,k<=B/\s5=k/\bH [] W wr/\∀j,j<k->(mW (agY.map (·.id)) (l.ag0.getD j 0)).isSome=bT) (λs5 _=>B-(intOf s5).toNat);case atStart=>exact⟨0,gn,rfl,tR W,λj O=>absurd O (aU j)⟩
 obtain⟨k,hk,rfl,T,aa⟩:=hrel;have a4:=lh aa;clear aa;have L:=C q0 _ T;have H:=C q1 _ T;have V:=C q2 _ T;have Y:=C q3 _ T;have U:=C a3 _ T;by_cases b7:k<B
 .obtain⟨g,o,rfl,hK⟩:=(X.o wr T).cell gn;have P:=hK wr (tR wr) k b7;have ax:l.ag0.getD k 0∈l.ag0:=by have:k<l.ag0.length:=(by have:=(X.o wr T).1;omega);simp [List.getD,this]
  have HM:=lh ax;clear hK ax;generalize R:l.ag0.getD k 0=x at *;have HX:=lh R;clear R;have b0:(0:Int)<=(k:Int):=gn
  have b1:(k:Int)<(B:Int):=gn
  have am:∀{b i:Nat} {v:bx},wr.cell? ⟨b,i,bv⟩=bt v->∀w',bH [] wr w'->w'.cell? ⟨b,i,bv⟩=bt v:=λh w' T=>oA
  have K:Hid (∀w',bH [] wr w'->(w'.cell? ⟨w,0,bv⟩=bt (bo p A s)/\w'.cell? ⟨w,1,bv⟩=bt (bp .i64 f)/\w'.cell? ⟨w,2,bv⟩=bt (bp .i64 next)/\w'.cell? ⟨w,3,bv⟩=bt (bo m e n)/\w'.cell? ⟨w+1,15,bv⟩=bt (bo (bt ⟨g,o,bv⟩) B kc)/\w'.cell? ⟨g,o+k,bv⟩=bt (bp .i64 x))):=
   lh λw' T=>⟨am L w' T,am H w' T,am V w' T,am Y w' T,am U w' T,am P w' T⟩
  clear am;have F:=HA.o x wr.drew (HD.o.u ((D.t T).drawn 1));have E:=(tR wr).drawn 1;cases M:mW a2 x with
  |none=>
   have I:sQ a2 x=-1:=(by unfold sQ;rw [M]);rw [I]at F;have S:=lh F;clear F I;(go_upto_region 4 with (fail));clear C L H V Y U q0 q1 q2 q3 p0 a3 P;go_region_held3 (λw'=>w'.cell? ⟨w,0,bv⟩=bt (bo p A s)/\w'.cell? ⟨w,1,bv⟩=bt (bp .i64 f)/\w'.cell? ⟨w,2,bv⟩=bt (bp .i64 next)/\w'.cell? ⟨w,3,bv⟩=bt (bo m e n)/\w'.cell? ⟨w+1,15,bv⟩=bt (bo (bt ⟨g,o,bv⟩) B kc)/\w'.cell? ⟨g,o+k,bv⟩=bt (bp .i64 x)) (first|exact K.o _ E|exact K.o _ (E.t aR)) (first
    |(go_at_call 60;refine mR S.o λw1 aR=>?_))
   go_wp2;go_ret;exact⟨by rw [aM.o (List.all_eq_false.2 ⟨x,HM.o,by rw [<-a6.o,M];simp⟩)];rfl,(D.t T).t (E.t aR)⟩
  |some j=>
   have I:sQ a2 x=(j:Int):=(by unfold sQ;rw [M]);rw [I]at F;have S:=lh F;have d0:decide ((j:Int)<0)=bX:=ak gn;clear F I;(go_upto_region 4 with (fail));clear C L H V Y U P;go_region_held3 (λw'=>w'.cell? ⟨w,0,bv⟩=bt (bo p A s)/\w'.cell? ⟨w,1,bv⟩=bt (bp .i64 f)/\w'.cell? ⟨w,2,bv⟩=bt (bp .i64 next)/\w'.cell? ⟨w,3,bv⟩=bt (bo m e n)/\w'.cell? ⟨w+1,15,bv⟩=bt (bo (bt ⟨g,o,bv⟩) B kc)/\w'.cell? ⟨g,o+k,bv⟩=bt (bp .i64 x)) (first|exact K.o _ E|exact K.o _ (E.t aR)) (first
    |(go_at_call 60;refine mR S.o λw1 aR=>?_))
   go_wp2;go_roundw;case rel=>exact⟨k+1,gn,by go_num,T.t (E.t aR),λi hi=>by
    by_cases h:i<k
    .exact a4.o i h
    obtain rfl:i=k:=gn;rw [HX.o,<-a6.o,M];rfl⟩
   simp [intOf];omega
 obtain rfl:k=B:=gn
 have pL:=C p0 _ T;have ab:(l.ag0.all λx=>(mW (agY.map (·.id)) x).isSome)=bT:=by rw [aZ];intro y hy;obtain⟨j,O,rfl⟩:=List.getElem_of_mem hy;have:=a4.o j (by have:=(X.o wr T).1;omega);simpa [List.getD,O]using this
 have b2:=lh ab;have aL:jJ agY l.id 0=0:=by simp [jJ]
 have HZ:=lh aL;clear ab aL C q0 q1 q2 q3 p0 a3;go_upto_region 8 with (fail)
 go_loopw [6,7] (λs6 s7 v=>∃i:Nat,i<=e/\s7=i/\s6=bp .i64 (jJ agY l.id i)/\jJ agY l.id i<=50*i/\∃q,v=wr.drewN q) (λ_ s7 _=>e-(intOf s7).toNat);case atStart=>exact⟨0,gn,rfl,by rw [HZ.o];rfl,by rw [HZ.o];omega,0,rfl⟩
 obtain⟨i,hi,rfl,rfl,be,qd,rfl⟩:=hrel;by_cases bf:i<e
 .obtain⟨g,o,rfl,hL⟩:=HC.o gn;have aw:i<agY.length:=by have:=HN.o;omega
  obtain⟨a,a1⟩:∃a,agY[i]?=bt a:=⟨agY[i],by simp [aw]⟩;obtain⟨Z,hR⟩:=hL wr (D.t T) i a a1;have b8:wr.cell? ⟨g,o+i*31+15,bv⟩=bt (bo a.Xi a.Xh a.Xj):=by simpa [Nat.add_assoc]using hR 15 _ rfl
  have ay:=wW (id:=l.id) a1;have bj:=Z.Xk;have a8:=Z.ag0;have G:=lh a8;have bs:=lh ay;have c0:(0:Int)<=(i:Int):=gn
  have c1:(i:Int)<(e:Int):=gn
  clear hL hR Z a8 ay a1 aw;generalize hq:jJ agY l.id i=q at *;have HQ:=lh hq;clear hq;go_upto_region 11 with (fail)
  go_loopw [6,8] (λs6 s8 v=>∃j:Nat,j<=a.Xh/\s8=j/\s6=bp .i64 (q+(a.ag0.take j).count l.id:Nat)/\∃z,v=wr.drewN z) (λ_ s8 _=>a.Xh-(intOf s8).toNat);case atStart=>exact⟨0,gn,rfl,lz,_,rfl⟩
  obtain⟨j,O,rfl,rfl,z,rfl⟩:=hrel;by_cases b6:j<a.Xh
  .obtain⟨g2,o2,an,a9⟩:=G.o.cell gn;have P:=a9 wr (tR wr) j b6;have ac:=BC (c:=a.ag0) (id:=l.id) (k:=j) sM;have b4:(a.ag0.take j).count l.id<=50:=aK List.count_le_length (by have:=G.o.1;simp;omega);have a5:=lh ac;clear a9 ac;rw [an]at b8;clear an;generalize R:a.ag0.getD j 0=x,hy:(a.ag0.take j).count l.id=y at *;have L:(0:Int)<=(j:Int):=gn;have H:(j:Int)<(a.Xh:Int):=gn;clear R;by_cases aE:x=l.id
   .subst aE;(go_wp2_with fail);go_quiet (fail)
    (go_wp2_with fail);exact⟨⟨j+1,gn,by go_num,congrArg (Value.int .i64) (by have:=a5.o;simp only [if_true]at this;rw [this];omega),_,rfl⟩,by simp [intOf];omega⟩
   (go_wp2_with fail);go_quiet (fail)
   (go_wp2_with fail);exact⟨⟨j+1,gn,by go_num,congrArg (Value.int .i64) (by have:=a5.o;rw [aF aE]at this;rw [this];omega),_,rfl⟩,by simp [intOf];omega⟩
  have ar:j=a.Xh:=gn
  have aD:a.ag0.take j=a.ag0:=aY sM;have b4:a.ag0.count l.id<=50:=aK List.count_le_length sM;rw [aD];have HJ:=lh ar;have bd:=lh bs.o;have H:(a.Xh:Int)=(j:Int):=gn
  clear aD ar;generalize ad:a.ag0.count l.id=y at *;have bb:=lh ad;clear ad;go_wp2_with fail
  exact⟨⟨i+1,gn,by go_num,congrArg (Value.int .i64) (by rw [bs.o]),by rw [bs.o];omega,_,rfl⟩,by simp [intOf];omega⟩
 have aq:i=agY.length:=nk
 have af:pM agY f l=(if l.id=f then jJ agY l.id i==0 else jJ agY l.id i==1):=by unfold pM;rw [b2.o,<-aq];rfl
 have N:=lh af;have ap:i=e:=gn
 have bc:=lh ap;have b9:(e:Int)=(i:Int):=gn
 clear af aq ap;generalize jJ agY l.id i=q at *;by_cases J:l.id=f
 .rw [aG J]at N;rw [J]at pL;have hb:∃b,((q:Int)==0)=b/\(q==0)=b:=⟨_,G9 q 0,rfl⟩;obtain⟨b,b3,a0⟩:=hb;rw [a0]at N;cases b with
  |true=>
   go_wp2;go_ret;exact⟨qF,(D.t T).drawn _⟩
  |false=>
   go_wp2;go_ret;exact⟨qF,(D.t T).drawn _⟩
 rw [aF J]at N;have bk:(l.id==f)=bX:=rL
 have bl:(l.id != f)=bT:=rL
 have hb:∃b,((q:Int)==1)=b/\(q==1)=b:=⟨_,G9 q 1,rfl⟩;obtain⟨b,b3,a0⟩:=hb;rw [a0]at N;cases b with
 |true=>
  go_wp2;go_ret;exact⟨qF,(D.t T).drawn _⟩
 |false=>
  go_wp2;go_ret;exact⟨qF,(D.t T).drawn _⟩
def kW:List BAr:=[⟨#[]⟩,⟨#[97]⟩,⟨#[98]⟩,⟨#[99]⟩,⟨#[100]⟩,⟨#[101]⟩,⟨#[102]⟩,⟨#[103]⟩,⟨#[104]⟩]
theorem afS(c:UInt8)(e:97<=c.toNat)(f:c.toNat<=122): jE ⟨#[c]⟩:=⟨by show 1<=12;decide,λj k=>by
 have:j=0:=by have:j<1:=k;omega
 subst this;exact⟨e,f⟩⟩
theorem abN(s:BAr)(h:s∈kW): jE s:=by
 simp only [kW,aS,aW,or_false]at h;rcases h with rfl|rfl|rfl|rfl|rfl|rfl|rfl|rfl|rfl
 .exact⟨by show 0<=12;decide,λj k=>absurd k (aU j)⟩
 all_goals exact afS _ lG lG
theorem OU(s:BAr)(h:s∈kW)(w:bw): CR 116 #[.string s] w (br bT):=adT s (abN s h) w
theorem kX(s:BAr)(h:s∈kW)(w:bw): CR 248 #[.string s] w (br bT):=ac8 s (abN s h) w
structure bI.Tidy(l:bI)(ns:Int): Prop where
 ag1:1<=l.ag1/\l.ag1<=5
 name:l.name∈kW
 opac:0<=l.Xl/\l.Xl<=255
 mode:0<=l.mode/\l.mode<=15
 agZ:l.ag1=1\/l.ag1=4->l.agZ.ok=bT
 noplace:l.ag1≠1->l.ag1≠4->l.agZ=⟨0,0,0,0,0,0,0⟩
 space:0<=l.space/\l.space<=ns
 Xp:l.ag1≠1->l.space=0/\l.tn=0
 Xq:l.ag1≠2->l.Xh=0
 noof:l.ag1≠4->l.of=0
 Xr:l.ag1≠3->l.Xg=⟨0,0,bv,0,0,0,0,bv,0,0⟩
 Xo:l.ag1≠5->l.pn=0/\l.f0=0/\l.f1=0/\l.f2=0/\l.f3=0
 path:l.ag1=5->jy l.pts=bT
 nomask:l.Xt=bX->l.mn=0
theorem J5(l:bI)(ns:Int)(h:l.Tidy ns)(w:bw): CR 117 #[l.v] w (br bT):=by
 have m:=h.ag1;have g:=jg l w 51;have n:=kQ g 1 l.ag1 rfl;have M:=kQ g 7 l.agZ.a rfl;have N:=kQ g 8 l.agZ.b rfl;have O:=kQ g 9 l.agZ.c rfl;have p:=kQ g 10 l.agZ.d rfl;have q:=kQ g 11 l.agZ.e rfl;have s:=kQ g 12 l.agZ.f rfl;have u:=kQ g 13 l.agZ.den rfl;have x:=kQ g 14 l.space rfl;have y:=kQ g 15 (bo l.Xi l.Xh l.Xj) rfl;have z:=kQ g 16 l.of rfl;have A:=kQ g 17 l.Xg.ag1 rfl;have B:=kQ g 18 l.Xg.Xf rfl;have C:=kQ g 19 (bo l.Xg.kA l.Xg.kn l.Xg.kc) rfl;have D:=kQ g 20 l.Xg.div rfl;have E:=kQ g 21 l.Xg.value rfl;have F:=kQ g 22 (bo l.Xg.cA l.Xg.cn l.Xg.cc) rfl;have G:=kQ g 23 (bp .u8 l.f0) rfl;have H:=kQ g 24 (bp .u8 l.f1) rfl;have I:=kQ g 25 (bp .u8 l.f2) rfl;have J:=kQ g 26 (bp .u8 l.f3) rfl;have K:=kQ g 27 (bo l.pA l.pn l.pc) rfl;have L:=kQ g 28 (bo l.tA l.tn l.tc) rfl;have T:=(tR w).alloc (bS ⟨l.row⟩ 51);clear g;unfold bI.v;have k:=lh FB;generalize l.row=R at *;rcases (by omega:l.ag1=1\/l.ag1=2\/l.ag1=3\/l.ag1=4\/l.ag1=5)with i|i|i|i|i;all_goals
  rw [i]at n;try rw [h.Xq gn]at y
  try rw [h.noof gn]at z
  try
   rw [(h.Xo gn).1]at K
   rw [(h.Xo gn).2.1]at G
   rw [(h.Xo gn).2.2.1]at H
   rw [(h.Xo gn).2.2.2.1]at I
   rw [(h.Xo gn).2.2.2.2]at J
  try rw [h.Xr gn]at A B C D E F
  try rw [(h.Xp gn).1]at x
  try rw [(h.Xp gn).2]at L
  try rw [h.noplace gn gn]at M N O p q s u
  clear h i m;go_enter func117,ntmps117;go_upto_region 2 with (fail)
  dsimp only [List.append];go_wp2_with (first
   |(go_at_call 171;refine mR (k.o _) λS j=>?_;obtain⟨P,Q⟩:=bY j))
  go_ret;first
   |exact⟨rfl,T.t j⟩
   |exact⟨rfl,T⟩
theorem Jj(ps:List (Int×Int))(c:jy ps=bT)(A:Option bM)(n cap:Nat)(w:bw)(m:iL w A n ps):
  CR 118 #[bo A n cap] w (br bT):=by
 obtain⟨⟨H,I⟩,d⟩:=nD c;obtain⟨G,a⟩:=m;obtain⟨g,o,rfl,_⟩:=a 0 gn;have D:∀j,j<n->w.cell? ⟨g,o+j*2,bv⟩=bt (bp .i64 (ps.getD j (0,0)).1)/\w.cell? ⟨g,o+j*2+1,bv⟩=bt (bp .i64 (ps.getD j (0,0)).2):=by intro j p;obtain⟨O,R,e,i,E⟩:=a j p;injection e with e;injection e with l b N;subst l;subst b;exact⟨i,E⟩
 obtain⟨f,h,q⟩:=lh3 D d G;have K:3<=n:=gn
 have L:n<=64:=gn
 have F:decide (3<=(n:Int))=bT:=aC gn;have u:decide ((n:Int)<=64)=bT:=aC gn;clear a D G d c;go_enter func118,ntmps118;go_wp2_with fail
 go_loop [3] (λs3=>∃k:Nat,k<=n/\s3=k) (λs3=>n-(intOf s3).toNat);case atStart=>exact⟨0,gn,rfl⟩
 obtain⟨k,J,rfl⟩:=hrel;by_cases a5:k<n
 .obtain⟨B,c1⟩:=f.o k a5;have C:=h.o k ou;generalize ps.getD k (0,0)=z at *;obtain⟨x,y⟩:=z;simp only at B c1 C;simp only [uG,Bool.or_eq_false_iff,decide_eq_false_iff_not]at C;obtain⟨⟨⟨M,P⟩,Q⟩,S⟩:=C;have s:(0:Int)<=(k:Int):=by omega
  have t:(k:Int)<(n:Int):=gn
  have l:decide (x < -65536)=bX:=ak gn;have b:decide (65536<x)=bX:=ak gn;have N:decide (y < -65536)=bX:=ak gn;have v:decide (65536<y)=bX:=ak gn;go_wp2_with fail
  go_round;case rel=>exact⟨k+1,gn,by go_num⟩
  simp [intOf];omega
 obtain rfl:k=n:=gn
 go_wp2;go_ret;exact⟨rfl,tR w⟩
