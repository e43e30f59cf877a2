import Derived.Defers
import Derived.Laws.Pointers
import Derived.Test.YtaahejdimjbhhaaGreatDoorK20
import Derived.Test.YtaahejdimjbhhaaGreatDoorK21
import Derived.Test.YtaahejdimjbhhaaGreatDoorK23
set_option maxRecDepth 100000
set_option maxHeartbeats 0
set_option linter.all false
namespace Go.Proofs.YtaahejdimjbhhaaGreatDoor
open Tryz Go.RowKit Go.Den
open Go.Value renaming slice->da,pointer->db,int->dc,agg->dd
open Option renaming some->de,none->dg
open Go renaming World->dj,Addr->dk,Value->dl,heap_alloc_new->dp,execOp->dq,Operand->dr,TypeId->dt,run_loadAt_mid->du,Program->dv,Calls->dx
open Go.Obj renaming cells->dy
open Bool renaming false->dz,true->dT
open Go.Proofs.Tryz renaming prog->ea
open Go.Ending renaming returned->eb
theorem Ko(p q:dk)(w:dj):
  CallsD ea 132 #[db (de p),db (de q)] .returning w λe c w'=>e=eb (.tuple #[])/\c=.returning/\w'=w.alloc (dy #[(0:Int),(0:Int)] 208):=by
 have b:∀w,(Instr.typeAssert .nilIface 20 208 dT).run ea w=.ok (.tuple #[dd #[(0:Int),(0:Int)],.bool dz]) w:=λ_=>lB
 refine callsD_of_wpS func132 rfl λa d o=>?_;apply wpS_seq;apply wpS_region;simp [wpOpsS,go_sem,recoverD,o,ntmps132,Exit.thenS,b];apply wpS_seq;apply wpS_region;simp [wpOpsS,go_sem,Exit.thenS];refine wpS_cond (t:=dz) tS ?_;simp only [Bool.false_eq_true,if_false];refine wpS_of_wp (wp_skip ?_);cases a;simp_all [bodyPostS,results,results132]
theorem L8(b c:Nat)(G:b≠c)(e id x y:Int)(o:List PanicEntry)(w:dj)(f:w.cell? ⟨b,0,dg⟩=de (dc .i64 x))(k:w.frozen? ⟨b,0,dg⟩=dz)(h:w.cell? ⟨c,0,dg⟩=de (dc .i64 y))(l:w.frozen? ⟨c,0,dg⟩=dz):
  CallsD ea 132 #[db (de ⟨b,0,dg⟩),db (de ⟨c,0,dg⟩)] (.panicking ({ v:=xQ e id,recovered:=dz } :: o)) w λr D w'=>
   r=eb (.tuple #[])/\D=.panicking ({ v:=xQ e id,recovered:=dT } :: o)/\w'.cell? ⟨b,0,dg⟩=de (dc .i64 e)/\w'.cell? ⟨c,0,dg⟩=de (dc .i64 id)/\bH [b,c] w w':=by
 have n:∀w,(Instr.typeAssert (xQ e id) 20 208 dT).run ea w=.ok (.tuple #[dd #[e,id],.bool dT]) w:=λ_=>lB
 refine callsD_of_wpS func132 rfl λs F u=>?_;apply wpS_seq;apply wpS_region;simp [wpOpsS,go_sem,recoverD,u,ntmps132,Exit.thenS,n];apply wpS_seq;apply wpS_region;simp [wpOpsS,go_sem,Exit.thenS];refine wpS_cond (t:=dT) tS ?_;simp only [if_true];refine wpS_of_wp ?_;have I:b<w.heap.size:=ai f;have i:c<w.heap.size:=ai h;obtain⟨W,m⟩:=eX (w.alloc (dy #[e,id] 208));have d:bH [] w W:=rn
 have g:=YE m
 have B:=cO 0 e g;have c1:=cO 1 id g;have p:=((bY d).1 b 0 I).t f;have Y:=((bY d).2 b 0 I).t k;have q:=((bY d).1 c 0 i).t h;have C:=((bY d).2 c 0 i).t l;have j:bH [b,c] w W:=d.mono lz;have z:w.heap.size≠b:=gn
 have A:w.heap.size≠c:=gn
 rw [<-m];clear m g d f k h l n;generalize w.heap.size=H at *;simp only [Array.replicate_succ,Array.replicate_zero,List.push_toArray,List.nil_append,List.cons_append,List.append_toArray,List.setIfInBounds_toArray,List.set_cons_zero,List.set_cons_succ];go_region;have J:((W.setCell ⟨b,0,dg⟩ e).setCell ⟨c,0,dg⟩ id).drew.cell? ⟨b,0,dg⟩=de (dc .i64 e):=by simp [go_sem,p]
 have Q:((W.setCell ⟨b,0,dg⟩ e).setCell ⟨c,0,dg⟩ id).drew.cell? ⟨c,0,dg⟩=de (dc .i64 id):=by simp [go_sem,q]
 have E:bH [b,c] w ((W.setCell ⟨b,0,dg⟩ e).setCell ⟨c,0,dg⟩ id).drew:=((j.setCell _ (.inl lz)).setCell _ (.inl lz)).drawn 1;generalize ((W.setCell ⟨b,0,dg⟩ e).setCell ⟨c,0,dg⟩ id).drew=U at *;clear p Y q C j B c1 z A I i;cases s;simp_all [bodyPostS,results,results132]
def Og(d:df)(a7:Option Nat)(e:Ending): Prop:=match a7 with
 |none=>e=eb (.tuple #[(0:Int),(0:Int)])
 |some i=>∃l,d.agY[i]?=de l/\e=eb (.tuple #[(1:Int),l.id])
theorem Dc(d:df)(a7:Option Nat)(w:dj)(h:d.At w)(D:E5 d a7):
  dx ea 75 #[d.v] w λe w'=>Og d a7 e/\bH [] w w':=by
 have IX:∀(K:Fn) (first C:Array dl) (w:dj),(Instr.makeFunc K first C).run ea w=.ok (.func K first C) w:=λ_ _ _ _=>rfl;obtain⟨W,m⟩:=eX (((w.alloc (dy ⟨d.row⟩ 29)).alloc (dy #[(0:Int)] 52)).alloc (dy #[(0:Int)] 3));have k:bH [] w W:=by rw [m];exact (((tR w).a _).a _).a _
 have g:=dJ m;have N:=cO 0 (da d.sA d.sn d.sc) g;have O:=cO 1 d.root g;have Q:=cO 2 d.next g;have R:=cO 3 (da d.lA d.ln d.lc) g;have E:=Z5 m;have H:=Zi m;have P:=MF d a7 W (h.u k) D;have ax:∀u,bH [] W u->u.cell? ⟨w+1,0,dg⟩=de (dc .i64 0)/\u.frozen? ⟨w+1,0,dg⟩=dz/\u.cell? ⟨w+1+1,0,dg⟩=de (dc .i64 0)/\u.frozen? ⟨w+1+1,0,dg⟩=dz:=λu t=>by have F:=t.ox E;have G:=t.ox H;exact⟨cO 0 (0:Int) F,dm F 0,cO 0 (0:Int) G,dm G 0⟩
 have M:w.heap.size+1+1<W.heap.size:=(ae.1 H).1;obtain⟨b2,y,z⟩:=lh3 P ax k;clear P ax k g E H h D;unfold df.row at m;unfold df.v at *;cases a7 with
 |none=>
  go_enter_defers func75,ntmps75;go_upto_region 2 with fail
  rw [<-m];clear m;go_wp2_with (go_at_call 133;refine b2.o.mono ?_;rintro e j ⟨⟨S,rfl⟩,c⟩;obtain⟨n,A,p,B⟩:=y.o j c)
  obtain⟨b,X⟩:=eX ((j.setCell ⟨w+1,0,dg⟩ (0:Int)).setCell ⟨w+1+1,0,dg⟩ (0:Int));have c1:b.cell? ⟨w+1,0,dg⟩=de (dc .i64 0):=by rw [X];simp [go_sem,n]
  have c2:b.cell? ⟨w+1+1,0,dg⟩=de (dc .i64 0):=by rw [X];simp [go_sem,p]
  have s:bH [] w b:=by rw [X];exact ((z.o.t c).sc).sc
  rw [<-X];clear X;have J:w.heap.size+1+1<b.heap.size:=ai c2;refine leaves_cons (f:=132) (args:=#[db (de ⟨w+1,0,dg⟩),db (de ⟨w+1+1,0,dg⟩)]) lz mu ?_;refine (Ko ⟨w+1,0,dg⟩ ⟨w+1+1,0,dg⟩ _).mono ?_;rintro e L T ⟨rfl,rfl,rfl⟩;have q:(b.alloc (dy #[(0:Int),(0:Int)] 208)).cell? ⟨w+1,0,dg⟩=de (dc .i64 0):=by rw [<-c1];simp only [World.cell?];rw [heap_alloc_old _ _ gn]
  have x:(b.alloc (dy #[(0:Int),(0:Int)] 208)).cell? ⟨w+1+1,0,dg⟩=de (dc .i64 0):=by rw [<-c2];simp only [World.cell?];rw [heap_alloc_old _ _ J]
  simp [Leaves,settle,results,results75,go_sem,q,x];exact⟨rfl,s.a _⟩
 |some i=>
  go_enter_defers func75,ntmps75;go_upto_region 2 with fail
  rw [<-m];clear m;go_wp2_with (go_at_call 133;refine b2.o.mono ?_;rintro e j ⟨⟨l,I,rfl⟩,c⟩;obtain⟨n,A,p,B⟩:=y.o j c)
  refine leaves_cons (f:=132) (args:=#[db (de ⟨w+1,0,dg⟩),db (de ⟨w+1+1,0,dg⟩)]) lz mu ?_;refine (L8 (w.heap.size+1) (w.heap.size+1+1) gn 1 l.id 0 0 [] _ n A p B).mono ?_;rintro e L b ⟨rfl,rfl,q,x,s⟩;simp [Leaves,settle,results,results75,go_sem,q,x];exact⟨⟨l,I,rfl⟩,(z.o.t c).fresh s lO⟩
def FN(A:Option dk)(c:Nat): Prop:=∀a,A=de a->a.block≠c
theorem FN.of{A:Option dk}{base c:Nat}(h:Fr A base)(b:c<base): FN A c:=λa C e=>by have:=h a C;omega
theorem FN.none(c:Nat): FN dg c:=λa C=>by cases C
theorem dn.avoid{w u:dj}{A:Option dk}{n:Nat}{xs:List Int}{c:Nat}(h:dn w A n xs)(C:FN A c)(a:∀q,q≠c->u.heap[q]?=w.heap[q]?): dn u A n xs:=
 ⟨h.1,λj k=>by
  obtain⟨g,o,e,b⟩:=h.2 j k;refine⟨g,o,e,?_⟩;rw [<-b];exact lJ a (C _ e) _⟩
theorem iL.avoid{w u:dj}{A:Option dk}{n:Nat}{xs:List (Int×Int)}{c:Nat}(h:iL w A n xs)(C:FN A c)(a:∀q,q≠c->u.heap[q]?=w.heap[q]?): iL u A n xs:=
 ⟨h.1,λj k=>by
  obtain⟨g,o,e,bc,ay⟩:=h.2 j k;refine⟨g,o,e,?_,?_⟩
  .rw [<-bc];exact lJ a (C _ e) _
  rw [<-ay];exact lJ a (C _ e) _⟩
structure bI.Av(l:bI)(c:Nat): Prop where
 ki:FN l.Xi c
 fk:FN l.Xg.kA c
 fc:FN l.Xg.cA c
 fp:FN l.pA c
theorem bI.New.av{l:bI}{w:dj}{base c:Nat}(h:l.New w base)(b:c<base): l.Av c:=⟨.of h.fi b,.of h.fk b,.of h.fc b,.of h.fp b⟩
theorem bI.At.avoid{l:bI}{w u:dj}{c:Nat}(h:l.At w)(a:l.Av c)(n:Ho w c)(e:∀q,q≠c->u.heap[q]?=w.heap[q]?): l.At u:=
 ⟨h.ag0.avoid a.ki e,h.ks.avoid a.fk e,h.cs.avoid a.fc e,h.pts.avoid a.fp e,h.Xm.off n e,h.mask.off n e,h.Xk⟩
structure eF.Av(s:eF)(c:Nat): Prop where
 p0:FN s.a0 c
 p1:FN s.a1 c
 p2:FN s.a2 c
theorem eF.Past.av{s:eF}{b c:Nat}(h:s.Past b)(d:c<b): s.Av c:=⟨λa C e=>by have:=h.p0 a C;omega,λa C e=>by have:=h.p1 a C;omega,λa C e=>by have:=h.p2 a C;omega⟩
structure df.Av(d:df)(c:Nat): Prop where
 s:FN d.sA c
 l:FN d.lA c
 ss:∀x∈d.ag2,x.Av c
 ls:∀x∈d.agY,x.Av c
theorem df.At.avoid{d:df}{w u:dj}{c:Nat}(h:d.At w)(a:d.Av c)(p:Ho w c)(f:∀q,q≠c->u.heap[q]?=w.heap[q]?): d.At u:=by
 refine⟨⟨h.ag2.1,λj s k=>?_⟩,⟨h.agY.1,λj l k=>?_⟩,h.small⟩
 .obtain⟨b,g,o,e,C⟩:=h.ag2.2 j s k;have n:=a.ss s (aH k);refine⟨⟨b.h1,b.h2,b.l0.avoid n.p0 f,b.l1.avoid n.p1 f,b.l2.avoid n.p2 f⟩,g,o,e,λi v m=>?_⟩;rw [<-C i v m];exact lJ f (a.s _ e) _
 obtain⟨b,g,o,e,C⟩:=h.agY.2 j l k;refine⟨b.avoid (a.ls l (aH k)) p f,g,o,e,λi v m=>?_⟩;rw [<-C i v m];exact lJ f (a.l _ e) _
def bI.Xn(l:bI)(A:Option dk)(n c:Nat)(ks:List Int): bI:={ l with Xi:=A,Xh:=n,Xj:=c,ag0:=ks }
def df.grow(d:df)(A:Option dk)(c:Nat)(next:Int)(g:Nat)(kg:bI)(l:bI): df:={ d with next:=next,lA:=A,ln:=d.ln+1,lc:=c,agY:=d.agY.set g kg++[l] }
theorem yX{ls:List bI}{g:Nat}{x y:bI}(h:ls[g]?=de x)(e:y.id=x.id): (ls.set g y).map (·.id)=ls.map (·.id):=by
 rw [List.map_set];obtain⟨a,rfl⟩:=ah.1 h;apply List.ext_getElem?;intro i;rw [List.getElem?_set];by_cases m:g=i
 .subst m;simp [a,e]
 simp [m]
theorem PW{d:df}{A:Option dk}{c:Nat}{next:Int}{g:Nat}{kg l x:bI}(h:d.agY[g]?=de x)(e:kg.id=x.id): (d.grow A c next g kg l).ids=d.ids++[l.id]:=by unfold df.ids df.grow;simp only;rw [List.map_append,yX h e];rfl
theorem Ol{ls:List bI}{g:Nat}{x kg l r:bI}{id:Int}(h:ls[g]?=de x)(e:kg.id=x.id)(c:kg.ag1=x.ag1)(C:dh ls id=de r): ∃f,dh (ls.set g kg++[l]) id=de f/\f.ag1=r.ag1:=by
 unfold dh at *;rw [List.map_append,yX h e];cases a:mW (ls.map (·.id)) id with
 |none=>rw [a]at C;cases C
 |some k=>
  rw [a]at C;have S:mW (ls.map (·.id)++[l].map (·.id)) id=de k:=by unfold mW at *;rw [List.findIdx?_append,a];rfl
  rw [S];simp only at C ⊢;have b:=(ah.1 C).1;rw [bD rK,List.getElem?_set];by_cases d:g=k
  .subst d;rw [h]at C;injection C with C;subst C;exact⟨kg,sw,c⟩
  exact⟨r,by simp [d,C],rfl⟩
theorem D8{d:df}(h:d.Tidy){A:Option dk}{c:Nat}{next:Int}{g:Nat}{x:bI}{i:Option dk}{n kc:Nat}{ks:List Int}{l:bI}(f:d.agY[g]?=de x)(p:x.ag1=2)(X:l.id=d.next)(q:l.Tidy d.sn)(G:d.next<next)(a5:next<=1048576)(av:d.ln+1<=40): (d.grow A c next g (x.Xn i n kc ks) l).Tidy:=by
 have m:(d.grow A c next g (x.Xn i n kc ks) l).ids=d.ids++[l.id]:=PW f rfl;refine⟨h.spc,h.sn,av,⟨by show 1<=next;have:=h.next.1;omega,a5⟩,?_,?_,?_,?_⟩
 .rw [m,List.pairwise_append];refine⟨h.inc,List.pairwise_singleton _ _,λa C b j=>?_⟩;rw [aN]at j;subst j;rw [X];exact (h.pos a C).2
 .rw [m];intro a C;show 1<=a/\a<next
  rcases aV.1 C with C|C
  .have:=h.pos a C;omega
  rw [aN]at C;subst C;have:=h.next.1;omega
 .obtain⟨r,s,bF⟩:=h.root;obtain⟨v,k,o⟩:=Ol (l:=l) (kg:=x.Xn i n kc ks) f rfl rfl s;exact⟨v,k,o.t bF⟩
 intro y e;show y.Tidy d.sn;rcases aV.1 e with e|e
 .rcases List.mem_or_eq_of_mem_set e with e|rfl
  .exact h.lay y e
  have u:=h.lay x (aH f);exact { u with Xq:=λG=>absurd p G }
 rw [aN]at e;subst e;exact q
theorem Gn{f:Fv}{ks cs:List Int}(h:jC f ks cs=dT)(n:f.cn=cs.length): f.kn<=5000/\f.cn<=5000:=by
 unfold jC at h;by_cases a:f.ag1=1
 .rw [aG a,az,az]at h;have o:=oG h.2;have g:=h.1.1;unfold Fv.headB Fv.win at g;simp only [az,decide_eq_true_eq,beq_iff_eq]at g;obtain⟨⟨⟨⟨s,p⟩,d⟩,_⟩,_⟩:=g;have:f.Xf=0\/f.Xf=1\/f.Xf=2\/f.Xf=3:=by omega
  rcases this with e|e|e|e<;>(rw [e]at d;unfold pO at d;omega)
 rw [aF a]at h;by_cases b:f.ag1=2\/f.ag1=3\/f.ag1=4
 .rw [aG b,az]at h;have:=oL h.2;have:=oG h.2;omega
 rw [aF b]at h;by_cases i:f.ag1=5
 .rw [aG i,az]at h;have:=oL h.2;have H:=h.1;simp only [jh,az,decide_eq_true_eq]at H;omega
 rw [aF i]at h;have d:∃v c r,f.plain dz v dz r=dT/\c=dT:=by
  by_cases j:f.ag1=6
  .rw [aG j]at h;exact⟨_,dT,_,h,rfl⟩
  rw [aF j]at h;by_cases k:f.ag1=7
  .rw [aG k,az]at h;exact⟨_,dT,_,h.2,rfl⟩
  rw [aF k]at h;by_cases l:f.ag1=8
  .rw [aG l,az]at h;exact⟨_,dT,_,h.2,rfl⟩
  rw [aF l]at h;cases h
 obtain⟨v,_,r,m,_⟩:=d;have:=oL m;have:=oG m;omega
theorem Ub{l:bI}{ns:Int}{w:dj}(h:l.Tidy ns)(d:l.good=dT)(C:l.At w): l.Thin:=by
 unfold bI.good at d;rw [az,az]at d;obtain⟨⟨e,o⟩,a⟩:=d;unfold eu at e o;rw [az]at e o;have u:=of_decide_eq_true e.1;have i:=of_decide_eq_true o.1;have A:=C.mask.1;have f:=C.Xm.1;refine⟨C.Xk,?_,?_,?_,gn,gn⟩
 .by_cases c:l.ag1=5
  .obtain⟨⟨_,I⟩,_⟩:=nD (h.path c);have:=C.pts.1;omega
  have:=(h.Xo c).1;omega
 .by_cases g:l.ag1=3
  .have b:jC l.Xg l.ks l.cs=dT:=(by rw [g]at a;simpa using a);exact (Gn b C.cs.1).1
  rw [h.Xr g];decide
 by_cases g:l.ag1=3
 .have b:jC l.Xg l.ks l.cs=dT:=by rw [g]at a;simpa using a
  exact (Gn b C.cs.1).2
 rw [h.Xr g];decide
structure Ny(d:df)(k:Nat): Prop where
 tidy:d.Tidy
 ok:d.Ok
 root:d.root=1
 next:d.next<=2+2*(k:Int)
 ln:d.ln<=1+k
 kb:∀l∈d.agY,l.Xh<=k
 sn:d.sn<=1
def vI:Array dl:=#[da dg 0 0,(0:Int),(0:Int),da dg 0 0]
structure Rj(w wr:dj)(b4 b5:Nat)(d:df): Prop where
 t:bH [] w wr
 h4:wr.heap[b4]?=de (dy vI 29 (0,0))
 h5:wr.heap[b5]?=de (dy ⟨d.row⟩ 29 (0,0))
 dat:d.At wr
 a4:d.Av b4
 a5:d.Av b5
 lt:w.heap.size<=b4/\b4<b5
theorem ML(ns:Int)(h:0<=ns): jK.Tidy ns:=by have t:=wu 2 lG lG;exact { t with space:=⟨by decide,h⟩,path:=λe=>absurd e lG }
theorem N9(x:Int): eP [jK] x=[]:=by
 unfold eP;cases h:mW ([jK].map (·.id)) x with
 |none=>rfl
 |some k=>
  simp only;obtain _|k:=k
  .rfl
  rfl
theorem Vf(d:df)(i:d.agY=[jK])(C:d.root=1): d.Ok:=by
 refine⟨λk l h=>?_,λk l h=>?_,λk l h=>?_,λk y _ A=>?_,?_⟩
 .rw [i]at h;obtain _|k:=k
  .simp at h;subst h;decide
  simp at h
 .rw [i]at h ⊢;rw [C];obtain _|k:=k
  .simp at h;subst h;decide
  simp at h
 .rw [i]at h;obtain _|k:=k
  .simp at h;subst h;intro a;cases a
  simp at h
 .rw [i]at A;have:∀{x y},iY [jK] x y->False:=λg=>by
   induction g with
   |one h=>rw [N9]at h;simp at h
   |tail _ _ ih=>exact ih
  exact this A
 rw [i,C];decide
theorem Lt(j:Option dk)(n a:Nat)(ag2:List eF)(lA:Option dk)(b:∀s∈ag2,s.Good)(G:n<=1): Ny ⟨j,n,a,ag2,1,2,lA,1,1,[jK]⟩ 0:=by
 have e:∀x∈(⟨j,n,a,ag2,1,2,lA,1,1,[jK]⟩:df).ids,0<x/\x<2:=λx c=>by
  have:x=1:=by simpa [df.ids,jK,fB]using c
  subst this;exact⟨lG,lG⟩
 have f:∀l∈[jK],l.Tidy n:=λl i=>by
  have:l=jK:=nj
  subst this;exact ML _ (by show (0:Int)<=(n:Int);omega)
 have g:∀l∈[jK],l.Xh<=0:=λl i=>by
  have:l=jK:=nj
  subst this;exact aQ _
 exact⟨⟨b,by show n<=8;omega,by show 1<=40;decide,⟨by show (1:Int)<=2;decide,by show (2:Int)<=1048576;decide⟩,List.pairwise_singleton _ _,e,⟨jK,rfl,rfl⟩,f⟩,Vf _ rfl rfl,rfl,by show (2:Int)<=2+2*((0:Nat):Int);decide,aQ _,g,G⟩
theorem UX:(prog.info? 91).map (λi=>(i.zero,i.size,i.bytes))=de (de (dd ⟨WB⟩),21,216):=lB
def CW:kD:=⟨91,21,216,dd ⟨WB⟩,UX,rfl,by decide,by decide,by decide⟩
theorem MJ{s:eF}{w:dj}(h:s.At w): CW.Row s.row:=⟨by simp [eF.row,h.h1,h.h2,CW],λu o=>by
 simp only [eF.row,aS,aV,List.mem_map]at o;rcases o with rfl|rfl|rfl|⟨z,_,rfl⟩|⟨z,_,rfl⟩<;>rfl⟩
theorem tC{w u:dj}{c g i:Nat}{v:dl}(o:∀q,q<w.heap.size->q∉[c]->u.heap[q]?=w.heap[q]?)(h:w.cell? ⟨g,i,dg⟩=de v)(d:g≠c): u.cell? ⟨g,i,dg⟩=de v:=by rw [<-h];simp only [World.cell?,o g (ai h) mH]
theorem dn.stab{w:dj}{A:Option dk}{n:Nat}{xs:List Int}{c:Nat}(h:dn w A n xs)(C:FN A c): gG [c] w λu=>dn u A n xs:=λu _ a=>⟨h.1,λj k=>by
 obtain⟨g,o,e,b⟩:=h.2 j k;exact⟨g,o,e,tC a b (C _ e)⟩⟩
theorem iL.stab{w:dj}{A:Option dk}{n:Nat}{xs:List (Int×Int)}{c:Nat}(h:iL w A n xs)(C:FN A c): gG [c] w λu=>iL u A n xs:=λu _ a=>⟨h.1,λj k=>by
 obtain⟨g,o,e,b,f⟩:=h.2 j k;exact⟨g,o,e,tC a b (C _ e),tC a f (C _ e)⟩⟩
theorem dB.stab{w:dj}{A:Option dk}{n:Nat}{b:List dC}{c:Nat}(h:dB w A n b)(m:Ho w c): gG [c] w λu=>dB u A n b:=λu _ q=>⟨h.1,λj t p=>by
 obtain⟨e,g,o,f,a⟩:=h.2 j t p;refine⟨e,g,o,f,?_⟩;have d:g≠c:=by
  rintro rfl;obtain⟨x,ty,y,l,z⟩:=m;have i:257<t.row.length:=by simp [dC.row,e.1]
  have:=a 257 _ (aB i);rw [aA _ _ _ _ _ _ l,Array.getElem?_eq_none gn]at this;cases this
 intro k v s;exact tC q (a k v s) d⟩
theorem bI.New.stab{l:bI}{w:dj}{base c:Nat}(h:l.New w base)(b:c<base)(n:Ho w c): gG [c] w λu=>l.At u:=λu J o=>
 ⟨h.at_.ag0.stab (.of h.fi b) u J o,h.at_.ks.stab (.of h.fk b) u J o,h.at_.cs.stab (.of h.fc b) u J o,h.at_.pts.stab (.of h.fp b) u J o,h.at_.Xm.stab n u J o,h.at_.mask.stab n u J o,h.at_.Xk⟩
structure VV(l:bI)(base:Nat): Prop where
 fi:Fr l.Xi base
 fk:Fr l.Xg.kA base
 fc:Fr l.Xg.cA base
 fp:Fr l.pA base
theorem bI.New.frl{l:bI}{w:dj}{base b:Nat}(h:l.New w base)(g:b<=base): VV l b:=⟨h.fi.mono g,h.fk.mono g,h.fc.mono g,h.fp.mono g⟩
structure ND(w0 wx:dj)(b7:Nat)(l:bI): Prop where
 t:bH [] w0 wx
 h7:wx.heap[b7]?=de (dy ⟨l.row⟩ 51 (0,0))
 st:gG [b7] wx λu=>l.At u
 fr:VV l w0.heap.size
 kz:l.Xh=0
 lt:w0.heap.size<=b7
theorem tH{z:Int}(e:-10000000<=z)(a:z<=10000000): wrap64 z=z:=fC _ gn gn
theorem Rj.u{w wr u:dj}{y z:Nat}{d:df}(P:Rj w wr y z d)(T:bH [] wr u): Rj w u y z d:=
 ⟨P.t.t T,T.ox P.h4,T.ox P.h5,P.dat.u T,P.a4,P.a5,P.lt⟩
theorem ND.cell{a wx:dj}{B i:Nat}{l l':bI}{v:dl}(P:ND a wx B l)(C:l.row.set i v=l'.row)(k:∀u,l.At u->l'.At u)(b:VV l' a.heap.size)(d:l'.Xh=0): ND a (wx.setCell ⟨B,i,dg⟩ v) B l':=
 ⟨P.t.setCell _ (.inr P.lt),dU P.h7 C,(P.st.setCell lz).imp k,b,d,P.lt⟩
theorem ND.u{a wx u:dj}{B:Nat}{l:bI}(P:ND a wx B l)(T:bH [] wx u): ND a u B l:=
 ⟨P.t.t T,T.ox P.h7,P.st.u T,P.fr,P.kz,P.lt⟩
def bI.made(l:bI)(id of g:Int): bI:={ l with id:=id,of:=of,space:=g }
theorem bI.made_at{l:bI}{u:dj}(h:l.At u)(id of g:Int): (l.made id of g).At u:=⟨h.ag0,h.ks,h.cs,h.pts,h.Xm,h.mask,h.Xk⟩
theorem VV.made{l:bI}{b:Nat}(h:VV l b)(id of g:Int): VV (l.made id of g) b:=⟨h.fi,h.fk,h.fc,h.fp⟩
theorem Nh{l:bI}(h:l.Tidy 0)(id of g:Int){ns:Int}(d:0<=ns)(c:l.ag1≠4->of=l.of)(E:g=l.space\/l.ag1=1/\0<=g/\g<=ns): (l.made id of g).Tidy ns:=
 ⟨h.ag1,h.name,h.opac,h.mode,h.agZ,h.noplace,by
  have:=h.space;show 0<=g/\g<=ns;rcases E with e|⟨_,a,f⟩
  .omega
  .exact⟨a,f⟩,λa=>by
  rcases E with e|⟨e,_,_⟩
  .exact⟨e.t (h.Xp a).1,(h.Xp a).2⟩
  exact absurd e a,h.Xq,λb=>(c b).t (h.noof b),h.Xr,h.Xo,h.path,h.nomask⟩
structure UJ(d:df)(x0 wx:dj)(v:dl)(gs:List Int)(q:Nat): Prop where
 t:bH [] x0 wx
 own:Il wx x0.heap.size v gs
 mem:∀z∈gs,∃(j:Nat) (x:bI),z=(j:Int)/\d.agY[j]?=de x/\x.ag1=2
 ne:∀(j:Nat) (x:bI),j<q->d.agY[j]?=de x->x.ag1=2->gs≠[]
 len:gs.length<=q
theorem UJ.skip{d:df}{x0 wx u:dj}{v:dl}{i:List Int}{q:Nat}(h:UJ d x0 wx v i q){x:bI}(f:d.agY[q]?=de x)(c:x.ag1≠2)(T:bH [] wx u): UJ d x0 u v i (q+1):=
 ⟨h.t.t T,h.own.u T,h.mem,λj y k a b=>by
  by_cases e:j=q
  .subst e;rw [f]at a;injection a with a;subst a;exact absurd b c
  exact h.ne j y gn a b,Nat.le_succ_of_le h.len⟩
theorem sH(u:dj)(z:Int): dn (u.alloc (dy #[z] 3)) (de ⟨u,0,dg⟩) 1 [z]:=
 ⟨rfl,λj k=>⟨_,_,rfl,by
  rw [aA _ _ _ #[z] 3 (0,0) (dp u _),Nat.zero_add];match j,k with
  |0,_=>rfl⟩⟩
theorem yZ(z:Int)(V:dj): (Instr.buildSlice 22 1 #[(0,z)]).run ea V=.ok (da (de ⟨V,0,dg⟩) 1 1) (V.alloc (dy #[z] 3)):=lB
theorem UJ.put{d:df}{x0 wx:dj}{v:dl}{i:List Int}{q:Nat}(h:UJ d x0 wx v i q)(f:q<=100){x:bI}(e:d.agY[q]?=de x)(c:x.ag1=2)(ty:dt):
  ∃a w',(Builtin.append_ #[22,22] ty #[v,da (de ⟨wx,0,dg⟩) 1 1]).run ea (wx.alloc (dy #[(q:Int)] 3))=.ok a w'/\UJ d x0 w' a (i++[(q:Int)]) (q+1):=by
 have T:=(tR wx).alloc (dy #[(q:Int)] 3);obtain⟨a,w',l,b,N,C⟩:=iQ (h.own.u T) (sH wx (q:Int)) (cap:=1) (by have:=h.t.size;simp;omega) (by have:=h.len;omega) ty;refine⟨a,w',l,⟨kN (h.t.t T) N (h.own.u T) (aQ _),b,λz J=>?_,λ_ _ _ _ _=>lz,by have:=h.len;simp;omega⟩⟩;rcases aV.1 J with J|J
 .exact h.mem z J
 rw [aN]at J;exact⟨q,x,J,e,c⟩
theorem Aq: AL 29 vI:=λu=>lB
theorem Ac(A:Option dk)(n c:Nat)(r x:Int)(B:Option dk)(m e:Nat)(u:dj): (Instr.build 29 #[(0,da A n c),(1,r),(2,x),(3,da B m e)]).run ea u=.ok (dd #[da A n c,r,x,da B m e]) u:=lB
structure JM(w0 wx:dj)(b11:Nat)(sA:Option dk)(sn sc:Nat)(nx:Int)(A:Option dk)(n c:Nat)(rows:List (List dl)): Prop where
 t:bH [] w0 wx
 h11:wx.heap[b11]?=de (dy #[da sA sn sc,(1:Int),nx,da A n c] 29 (0,0))
 own:iK jS wx w0.heap.size (da A n c) rows
 nb:b11∉dI (da A n c)
 lt:w0.heap.size<=b11
theorem Qg(a b c d e f g h:Int)(u:dj): (Instr.build 66 #[(0,a),(1,b),(2,c),(3,d),(4,e),(5,f),(6,g),(7,h)]).run ea u=.ok (dd #[a,b,c,d,e,f,g,h]) u:=lB
theorem Ih{P:dv}{o:Oper}{a:Act}{w w':dj}{t:dt}{x0 x1 x2 x3 x4 x5 x6 x7:dr}{y0 y1 y2 y3 y4 y5 y6 y7 v:dl}(i:o.op=.build t #[(0,x0),(1,x1),(2,x2),(3,x3),(4,x4),(5,x5),(6,x6),(7,x7)])(e:a.eval x0=y0)(b:a.eval x1=y1)(f:a.eval x2=y2)(g:a.eval x3=y3)(l:a.eval x4=y4)(c:a.eval x5=y5)(d:a.eval x6=y6)(h:a.eval x7=y7)
  (C:(Instr.build t #[(0,y0),(1,y1),(2,y2),(3,y3),(4,y4),(5,y5),(6,y6),(7,y7)]).run P w=.ok v w'):(dq a.eval o).run P w=.ok (.value v) w':=
 iU i (by simp [e,b,f,g,l,c,d,h]) C
theorem Ny.mono{d:df}{k m:Nat}(h:Ny d k)(a:k<=m): Ny d m:=
 ⟨h.tidy,h.ok,h.root,by have:=h.next;omega,by have:=h.ln;omega,λl i=>aK (h.kb l i) a,h.sn⟩
theorem Uz(w:dj): (sizeOf (prog.elem 22)).run ea w=.ok 1 w:=lB
theorem PM:prog.underlying 22=de (.slice (prog.elem 22)):=lB
theorem Lj(A:Option dk)(n c k:Nat)(i:k<=c): ∃d,(∀u,(Instr.slice 22 (da A n c) dg (de (dc .i64 (k:Int))) dg).run ea u=.ok (da d k c) u)/\∀a b,k<=n->dn a A n b->dn a d k (b.take k):=by
 refine⟨if c=0 then A else A.map (·.add (0*1)),λu=>?_,λa b l h=>?_⟩
 .rw [run_slice_h (P:=ea) u 22 A n c PM .i64 (k:Int) gn gn,Uz];simp [Result.andThen,sliced]
 refine⟨by rw [List.length_take,<-h.1];omega,λj f=>?_⟩;obtain⟨g,o,e,ax⟩:=h.2 j gn;have z:(if c=0 then A else A.map (·.add (0*1)))=de ⟨g,o,dg⟩:=by rw [aF gn,e];simp [Addr.add_lit]
 refine⟨g,o,z,?_⟩;rw [ax];simp [List.getD,f]
theorem Tt(A:Option dk)(n c k:Nat)(l:k<=n): ∃d,(∀u,(Instr.slice 22 (da A n c) (de (dc .i64 (k:Int))) dg dg).run ea u=.ok (da d (n-k) (c-k)) u)/\∀a b,n<=c->dn a A n b->dn a d (n-k) (b.drop k):=by
 refine⟨if c=k then A else A.map (·.add (k*1)),λu=>?_,λa b f h=>?_⟩
 .rw [run_slice_l (P:=ea) u 22 A n c PM .i64 (k:Int) gn gn,Uz];simp [Result.andThen,sliced]
 refine⟨by rw [List.length_drop,<-h.1],λj i=>?_⟩;obtain⟨g,o,e,ax⟩:=h.2 (k+j) gn;have z:(if c=k then A else A.map (·.add (k*1)))=de ⟨g,o+k,dg⟩:=by rw [aF gn,e];simp [Addr.add_lit]
 refine⟨g,o+k,z,?_⟩;rw [Nat.add_assoc,ax];simp [List.getD,List.getElem?_drop]
theorem FK{P:dv}{o:Oper}{a:Act}{w w':dj}{t:dt}{x:dr}{b m:Option dr}{p v:dl}{l h:Option dl}(e:o.op=.slice t x b m dg)(d:a.eval x=p)(i:b.map a.eval=l)(g:m.map a.eval=h)(c:P.underlying t=de (.slice (P.elem t)))
  (C:(Instr.slice t p l h dg).run P w=.ok v w'):(dq a.eval o).run P w=.ok (.value v) w':=by
 simp only [dq,e,d,i,g,Option.map_none,Sem.run_bind,run_sliceAt_slice (P:=P) w t p l h dg c,C,Result.andThen,Sem.run_pure]
theorem vW{k:kD}{w:dj}{base m b n c g i:Nat}{d:List (List dl)}{q:List dl}(h:iK k w base (da (de ⟨m,b,dg⟩) n c) d)(s:d[g]?=de q)(x:i<k.size)(v:dl)(M:v.oneCell'=dT):
  iK k (w.setCell ⟨m,b+g*k.size+i,dg⟩ v) base (da (de ⟨m,b,dg⟩) n c) (d.set g (q.set i v)):=by
 have aD:=(ah.1 s).1;have z:=h.1 q (aH s);have B:∀r∈d.set g (q.set i v),k.Row r:=λr C=>by
  rcases List.mem_or_eq_of_mem_set C with C|rfl
  .exact h.1 r C
  exact⟨by rw [List.length_set];exact z.len,λu A=>by
   rcases List.mem_or_eq_of_mem_set A with A|rfl
   .exact z.one u A
   exact M⟩
 have ao:=oz (λr C=>(B r C).len);refine⟨B,ao,?_⟩;rcases h.2.2 with ⟨e,_⟩|⟨O,Q,E,D,e,J,t,G,K,L,F⟩
 .cases e
 injection e with l I N;injection l with l;injection l with l H _;subst l;subst H;refine .inr ⟨m,b,E,D.setIfInBounds (b+g*k.size+i) v,by rw [List.length_set,<-I,<-N],J,by simp [World.setCell,au,t],by rw [List.length_set];exact G,K,by rw [Array.size_setIfInBounds];exact L,λj u a=>?_⟩;have a0:j<(d.set g (q.set i v)).flatten.length:=(ah.1 a).1;rw [ao,List.length_set]at a0;have P:j/k.size<d.length:=Nat.div_lt_of_lt_mul (by rw [Nat.mul_comm];exact a0);have C:=Nat.mod_lt j k.hs;have p:j/k.size*k.size+j%k.size=j:=by rw [Nat.mul_comm];exact Nat.div_add_mod j k.size
 rw [<-p,kP (λr C=>(B r C).len) _ _ C]at a;rw [List.getElem?_set]at a;by_cases f:g=j/k.size
 .rw [aG f,aG gn]at a;simp only [Option.bind_some]at a;rw [List.getElem?_set]at a;by_cases o:i=j%k.size
  .rw [aG o,aG (by rw [z.len];exact x)]at a;injection a with a;subst a;have a4:b+j=b+g*k.size+i:=(by rw [f,o];omega);rw [a4];have ar:b+g*k.size+i<D.size:=(by have:j<E*k.size:=aj a0 (Nat.mul_le_mul_right _ G);omega);rw [Array.getElem?_setIfInBounds_self_of_lt ar]
  rw [aF o]at a;have y:b+g*k.size+i≠b+j:=λt=>o (by
   have:g*k.size+i=j:=gn;rw [<-this,Nat.add_comm,Nat.add_mul_mod_self_right,Nat.mod_eq_of_lt x])
  rw [Array.getElem?_setIfInBounds_ne y];refine F j u ?_;rw [<-p,kP (λr C=>(h.1 r C).len) _ _ C,<-f,s];exact a
 rw [aF f]at a;have y:b+g*k.size+i≠b+j:=λt=>f (by
  have:g*k.size+i=j:=gn
  rw [<-this,Nat.add_comm,Nat.add_mul_div_right _ _ k.hs,Nat.div_eq_of_lt x,Nat.zero_add])
 rw [Array.getElem?_setIfInBounds_ne y];refine F j u ?_;rw [<-p,kP (λr C=>(h.1 r C).len) _ _ C];exact a
theorem JM.u{e wx u:dj}{a:Nat}{j:Option dk}{d l:Nat}{nx:Int}{A:Option dk}{n c:Nat}{b:List (List dl)}(h:JM e wx a j d l nx A n c b)(T:bH [] wx u): JM e u a j d l nx A n c b:=
 ⟨h.t.t T,T.ox h.h11,iK.u h.own T,h.nb,h.lt⟩
theorem dn.keepT{w w':dj}{A:Option dk}{n:Nat}{xs:List Int}{b:List Nat}(h:dn w A n xs)(T:bH b w w')(d:∀a,A=de a->a.block∉b): dn w' A n xs:=
 ⟨h.1,λj k=>by
  obtain⟨g,o,e,c⟩:=h.2 j k;refine⟨g,o,e,?_⟩;rw [<-c];simp only [World.cell?,T.old g (ai c) (d _ e)]⟩
theorem JM.rowAt{s wx:dj}{a:Nat}{o:Option dk}{q p:Nat}{nx:Int}{A:Option dk}{n c g:Nat}{ls:List bI}{x:bI}(h:JM s wx a o q p nx A n c (ls.map bI.row))(k:ls[g]?=de x):
  ∃m b,A=de ⟨m,b,dg⟩/\n=ls.length/\m≠a/\∀u,bH [] wx u->u.rangeAt m (b+g*31) x.row:=by
 have C:(ls.map bI.row)[g]?=de x.row:=by rw [aP,k];rfl
 rcases iK.form h.own with ⟨_,f⟩|⟨m,b,v,e,_,_,_,j⟩
 .rw [f]at C;simp at C
 injection e with l z N;have d:=h.nb;rw [l]at d;exact⟨m,b,l,by rw [z,aJ],λi=>d (by simp [dI,Value.ownBlock,i]),λu t=>fJ t (j g _ C)⟩
theorem df.At.kidsAt{d:df}{w:dj}(h:d.At w){g:Nat}{x:bI}(a:d.agY[g]?=de x): dn w x.Xi x.Xh x.ag0:=(h.agY.2 g x a).1.ag0
theorem Il.capLe{w:dj}{base:Nat}{A:Option dk}{n c:Nat}{xs:List Int}(h:Il w base (da A n c) xs): n<=c:=by
 rcases h.form with ⟨e,_⟩|⟨g,o,a,e,_,_,i,_⟩
 .injection e with _ z N;omega
 injection e with _ z N;omega
theorem Gj{l:bI}{u:dj}(h:l.At u){A:Option dk}{n c:Nat}{ks:List Int}(d:dn u A n ks)(G:n<=50): (l.Xn A n c ks).At u:=⟨d,h.ks,h.cs,h.pts,h.Xm,h.mask,G⟩
theorem TM{d:df}{u:dj}(h:d.At u){A a:Option dk}{c n kc g base:Nat}{nx:Int}{ks:List Int}{x l:bI}(f:d.agY[g]?=de x)(o:dn u a n ks)(p:n<=50)(q:l.At u)(t:d.ln+1<=50)
  (b:iK jS u base (da A (d.ln+1) c) ((d.agY.map bI.row).set g (x.Xn a n kc ks).row++[l.row])):(d.grow A c nx g (x.Xn a n kc ks) l).At u:=by
 have ao:(d.agY.set g (x.Xn a n kc ks)++[l]).map bI.row=(d.agY.map bI.row).set g (x.Xn a n kc ks).row++[l.row]:=by rw [List.map_append,List.map_set];rfl
 rw [<-ao]at b;have C:=(iK.rowsAt b).1;refine⟨h.ag2,⟨by show d.ln+1=_;simp [df.grow,h.agY.1],λj y k=>?_⟩,t⟩;have s:((d.agY.set g (x.Xn a n kc ks)++[l]).map bI.row)[j]?=de y.row:=by rw [aP];show Option.map bI.row (d.agY.set g (x.Xn a n kc ks)++[l])[j]?=_;rw [show (d.agY.set g (x.Xn a n kc ks)++[l])[j]?=de y from k];rfl
 refine⟨?_,C j _ s⟩;have e:y∈d.agY.set g (x.Xn a n kc ks)++[l]:=aH k;rcases aV.1 e with e|e
 .rcases List.mem_or_eq_of_mem_set e with e|rfl
  .obtain⟨i,m⟩:=bu.1 e;exact (h.agY.2 i y m).1
  exact Gj (h.agY.2 g x f).1 o p
 rw [aN]at e;subst e;exact q
theorem SY{d:df}{b:Nat}(h:d.Av b){A f:Option dk}{c n kc g:Nat}{nx:Int}{ks:List Int}{x l:bI}(i:d.agY[g]?=de x)(j:FN A b)(k:FN f b)(m:l.Av b): (d.grow A c nx g (x.Xn f n kc ks) l).Av b:=by
 refine⟨h.s,j,h.ss,λy e=>?_⟩;have e:y∈d.agY.set g (x.Xn f n kc ks)++[l]:=e;rcases aV.1 e with e|e
 .rcases List.mem_or_eq_of_mem_set e with e|rfl
  .exact h.ls y e
  have a:=h.ls x (aH i);exact⟨k,a.fk,a.fc,a.fp⟩
 rw [aN]at e;subst e;exact m
theorem Qp{d:df}{k:Nat}(h:Ny d k)(p:k<=8){A a:Option dk}{c n kc g:Nat}{H:Int}{ks:List Int}{x l:bI}(b:d.agY[g]?=de x)(j:x.ag1=2)(X:l.id=d.next)(i:l.Tidy d.sn)(m:0<=H)(o:H<=1)(f:n<=k+1)(U:l.Xh=0)
  (I:(d.grow A c (d.next+1+H) g (x.Xn a n kc ks) l).Ok):Ny (d.grow A c (d.next+1+H) g (x.Xn a n kc ks) l) (k+1):=by
 have G:=h.next;have av:=h.ln;refine⟨D8 h.tidy b j X i gn gn gn,I,h.root,by show d.next+1+H<=_;omega,by show d.ln+1<=_;omega,λy e=>?_,h.sn⟩;have e:y∈d.agY.set g (x.Xn a n kc ks)++[l]:=e;rcases aV.1 e with e|e
 .rcases List.mem_or_eq_of_mem_set e with e|rfl
  .exact Nat.le_succ_of_le (h.kb y e)
  exact f
 rw [aN]at e;subst e;omega
abbrev V1:=dl
theorem UR{J:Act->dj->Prop}{R:V1->V1->V1->V1->V1->V1->V1->V1->V1->V1->V1->V1->V1->V1->V1->V1->V1->V1->V1->V1->V1->V1->V1->V1->V1->V1->V1->V1->V1->V1->V1->V1->V1->V1->V1->V1->V1->V1->V1->V1->V1->V1->V1->V1->V1->V1->V1->V1->V1->V1->V1->V1->V1->V1->V1->V1->V1->V1->V1->V1->V1->V1->V1->V1->V1->V1->V1->V1->V1->V1->V1->V1->V1->V1->V1->V1->V1->V1->V1->V1->V1->V1->V1->V1->V1->V1->V1->V1->V1->V1->V1->V1->V1->V1->V1->V1->V1->V1->V1->V1->V1->V1->V1->V1->V1->V1->V1->V1->V1->V1->V1->V1->V1->V1->V1->V1->V1->V1->V1->V1->V1->V1->V1->V1->V1->V1->V1->V1->V1->V1->V1->V1->V1->V1->V1->V1->V1->V1->V1->V1->V1->V1->V1->V1->V1->V1->V1->V1->V1->V1->V1->V1->V1->V1->V1->V1->V1->V1->V1->V1->V1->V1->V1->V1->V1->V1->V1->V1->V1->V1->V1->V1->V1->V1->V1->V1->V1->V1->V1->V1->V1->V1->V1->V1->V1->V1->V1->V1->V1->V1->V1->Act->dj->Prop}(h:∀a w,(∃b c d e f g i j k l m n o p q r s t v x y z B C D E F G H I K L M N O S T U W X Y Z u A P Q V b5 b6 b7 b8 b9 c0 c1 c2 c3 c4 c5 c6 c7 c8 c9 d0 d1 d2 d3 d4 d5 d6 d7 d8 d9 e0 e1 e2 e3 e4 e5 e6 e7 e8 e9 f0 f1 f2 f3 f4 f5 f6 f7 f8 f9 g0 g1 g2 g3 g4 g5 g6 g7 g8 g9 i0 i1 i2 i3 i4 i5 i6 i7 i8 i9 j0 j1 j2 j3 j4 j5 j6 j7 j8 j9 k0 k1 k2 k3 k4 k5 k6 k7 k8 k9 l0 l1 l2 l3 l4 l5 l6 l7 l8 l9 m0 m1 m2 m3 m4 m5 m6 m7 m8 m9 n0 n1 n2 n3 n4 n5 n6 n7 n8 n9 o0 o1 o2 o3 o4 o5 o6 o7 o8 o9 p0 p1 p2 p3 p4 p5 p6 p7 p8 p9 q0 q1 q2 q3 q4 q5 q6 q7 q8:dl,R b c d e f g i j k l m n o p q r s t v x y z B C D E F G H I K L M N O S T U W X Y Z u A P Q V b5 b6 b7 b8 b9 c0 c1 c2 c3 c4 c5 c6 c7 c8 c9 d0 d1 d2 d3 d4 d5 d6 d7 d8 d9 e0 e1 e2 e3 e4 e5 e6 e7 e8 e9 f0 f1 f2 f3 f4 f5 f6 f7 f8 f9 g0 g1 g2 g3 g4 g5 g6 g7 g8 g9 i0 i1 i2 i3 i4 i5 i6 i7 i8 i9 j0 j1 j2 j3 j4 j5 j6 j7 j8 j9 k0 k1 k2 k3 k4 k5 k6 k7 k8 k9 l0 l1 l2 l3 l4 l5 l6 l7 l8 l9 m0 m1 m2 m3 m4 m5 m6 m7 m8 m9 n0 n1 n2 n3 n4 n5 n6 n7 n8 n9 o0 o1 o2 o3 o4 o5 o6 o7 o8 o9 p0 p1 p2 p3 p4 p5 p6 p7 p8 p9 q0 q1 q2 q3 q4 q5 q6 q7 q8 a w)->J a w) ⦃b c d e f g i j k l m n o p q r s t v x y z B C D E F G H I K L M N O S T U W X Y Z u A P Q V b5 b6 b7 b8 b9 c0 c1 c2 c3 c4 c5 c6 c7 c8 c9 d0 d1 d2 d3 d4 d5 d6 d7 d8 d9 e0 e1 e2 e3 e4 e5 e6 e7 e8 e9 f0 f1 f2 f3 f4 f5 f6 f7 f8 f9 g0 g1 g2 g3 g4 g5 g6 g7 g8 g9 i0 i1 i2 i3 i4 i5 i6 i7 i8 i9 j0 j1 j2 j3 j4 j5 j6 j7 j8 j9 k0 k1 k2 k3 k4 k5 k6 k7 k8 k9 l0 l1 l2 l3 l4 l5 l6 l7 l8 l9 m0 m1 m2 m3 m4 m5 m6 m7 m8 m9 n0 n1 n2 n3 n4 n5 n6 n7 n8 n9 o0 o1 o2 o3 o4 o5 o6 o7 o8 o9 p0 p1 p2 p3 p4 p5 p6 p7 p8 p9 q0 q1 q2 q3 q4 q5 q6 q7 q8:dl⦄ ⦃a:Act⦄ ⦃w:dj⦄ (hr:R b c d e f g i j k l m n o p q r s t v x y z B C D E F G H I K L M N O S T U W X Y Z u A P Q V b5 b6 b7 b8 b9 c0 c1 c2 c3 c4 c5 c6 c7 c8 c9 d0 d1 d2 d3 d4 d5 d6 d7 d8 d9 e0 e1 e2 e3 e4 e5 e6 e7 e8 e9 f0 f1 f2 f3 f4 f5 f6 f7 f8 f9 g0 g1 g2 g3 g4 g5 g6 g7 g8 g9 i0 i1 i2 i3 i4 i5 i6 i7 i8 i9 j0 j1 j2 j3 j4 j5 j6 j7 j8 j9 k0 k1 k2 k3 k4 k5 k6 k7 k8 k9 l0 l1 l2 l3 l4 l5 l6 l7 l8 l9 m0 m1 m2 m3 m4 m5 m6 m7 m8 m9 n0 n1 n2 n3 n4 n5 n6 n7 n8 n9 o0 o1 o2 o3 o4 o5 o6 o7 o8 o9 p0 p1 p2 p3 p4 p5 p6 p7 p8 p9 q0 q1 q2 q3 q4 q5 q6 q7 q8 a w):J a w:=h a w ⟨_,_,_,_,_,_,_,_,_,_,_,_,_,_,_,_,_,_,_,_,_,_,_,_,_,_,_,_,_,_,_,_,_,_,_,_,_,_,_,_,_,_,_,_,_,_,_,_,_,_,_,_,_,_,_,_,_,_,_,_,_,_,_,_,_,_,_,_,_,_,_,_,_,_,_,_,_,_,_,_,_,_,_,_,_,_,_,_,_,_,_,_,_,_,_,_,_,_,_,_,_,_,_,_,_,_,_,_,_,_,_,_,_,_,_,_,_,_,_,_,_,_,_,_,_,_,_,_,_,_,_,_,_,_,_,_,_,_,_,_,_,_,_,_,_,_,_,_,_,_,_,_,_,_,_,_,_,_,_,_,_,_,_,_,_,_,_,_,_,_,_,_,_,_,_,_,_,_,_,_,_,_,_,_,_,_,_,_,_,_,_,hr⟩
theorem LY{i k m n:Nat}(h:i+9<=n/\k<m/\i=9*k): 9*m-((9*(k+1):Nat):Int).toNat<9*m-((i:Nat):Int).toNat:=by obtain⟨_,e,rfl⟩:=h;omega
theorem L6{i k m n:Nat}(h:i+9<=n/\k<m/\i=9*k)(e:m<=8): wrap64 ((i:Int)+9)=((9*(k+1):Nat):Int):=me
theorem SH(e i:Int)(w:dj)(P:dv)(U:P=ea)(a:Act)(x:dr)(b:a.eval x=dd #[e,i])(d:Option Tmp)(ty:dt)(m:String)(k:Array Edge)(g:Option (Tmp×Bool)):
  (dq a.eval ⟨d,.field 69 x 0,ty,m,k,g⟩).run P w=.ok (.value e) w:=by
 subst U;simp only [dq,b];kernel_rfl
theorem Lp(k:IntKind)(x:Int): intOf (Value.int k x)=x:=rfl
theorem JP{i k m n:Nat}(e:wrap64 ((i:Int)+9)=((9*(k+1):Nat):Int))(h:i+9<=n/\k<m/\i=9*k): 9*m-(intOf (Value.int IntKind.i64 (wrap64 ((i:Int)+9)))).toNat<9*m-(intOf (Value.int IntKind.i64 (i:Int))).toNat:=by rw [Lp,Lp,e];exact LY h
structure WG(w wr X9:dj)(b4 b5 b11 k:Nat)(d nn:df): Prop where
 tidy:nn.Tidy
 dat:nn.At X9
 h11:X9.heap[b11]?=de (dy ⟨nn.row⟩ 29 (0,0))
 mdd:nn.Ok->Ny nn (k+1)
 a4:nn.Av b4
 a5:nn.Av b5
theorem Nv{w n wr o:dj}{y z D s g k base q kc h j:Nat}{H:Int}{d:df}{c i:bI}{f p:Option dk}(l:Ny d k)(U:k<=8)(m:d.agY[g]?=de c)(B:c.ag1=2)(v:i.id=d.next)(x:i.Tidy d.sn)
  (A:0<=H/\H<=1) (Z:ND n wr D i) (u:Rj w wr y z d) (M:y<n.heap.size) (N:z<n.heap.size) (I:wr.heap.size<=base) (V:q=c.ag0.length+1) (W:c.Xh=c.ag0.length)
  (G:(d.grow f h (d.next+1+H) g (c.Xn p q kc (c.ag0.take j++[d.next]++c.ag0.drop j)) i).At o)
  (E:o.heap[s]?=de (dy #[da d.sA d.sn d.sc,(1:Int),(d.next+1+H:Int),da f (d.ln+1) h] 29 (0,0)))
  (F:∀a,f=de a->wr.heap.size<=a.block) (K:∀a,p=de a->base<=a.block):∃Q:df,WG w wr o y z s k d Q:=by
 have R:=l.next;have S:=l.ln;have O:=(ae.1 u.h4).1;have P:=(ae.1 u.h5).1;have t:∀b,b<wr.heap.size->b<n.heap.size->d.Av b->(d.grow f h (d.next+1+H) g (c.Xn p q kc (c.ag0.take j++[d.next]++c.ag0.drop j)) i).Av b:=λb I X J=>
  SY J m (λa C e=>by have:=F a C;omega) (λa C e=>by have:=K a C;omega) ⟨.of Z.fr.fi X,.of Z.fr.fk X,.of Z.fr.fc X,.of Z.fr.fp X⟩
 refine⟨_,D8 l.tidy m B v x gn gn gn,G,?_,λL=>?_,t y O M u.a4,t z P N u.a5⟩
 .rw [E];show de (Obj.cells #[da d.sA d.sn d.sc,(1:Int),(d.next+1+H:Int),da f (d.ln+1) h] 29 (0,0))=de (Obj.cells #[da d.sA d.sn d.sc,d.root,(d.next+1+H:Int),da f (d.ln+1) h] 29 (0,0));rw [l.root]
 have T:=l.kb c (aH m);exact Qp l gn m B v x A.1 A.2 gn Z.kz L
def bI.Xu(x:bI): bI:={ x with Xl:=256 }
def df.brk(d:df)(A:Option dk)(c k:Nat)(x:bI): df:=⟨d.sA,d.sn,d.sc,d.ag2,d.root,d.next,A,d.ln,c,d.agY.set k x.Xu⟩
theorem Ns(x:bI): x.Xu.row=x.row.set 4 (256:Int):=rfl
theorem QV{l:bI}{u:dj}(h:l.At u): l.Xu.At u:=⟨h.ag0,h.ks,h.cs,h.pts,h.Xm,h.mask,h.Xk⟩
theorem Kr{l:bI}(h:l.Thin): l.Xu.Thin:=⟨h.k,h.p,h.a,h.b,h.t,h.m⟩
theorem VA{d:df}{u:dj}(h:d.At u){A:Option dk}{c k base:Nat}{x:bI}(b:d.agY[k]?=de x)
  (e:iK jS u base (da A d.ln c) ((d.agY.map bI.row).set k (x.row.set 4 (256:Int)))):(d.brk A c k x).At u:=by
 have ao:(d.agY.set k x.Xu).map bI.row=(d.agY.map bI.row).set k (x.row.set 4 (256:Int)):=by rw [List.map_set,Ns]
 rw [<-ao]at e;have C:=(iK.rowsAt e).1;refine⟨h.ag2,⟨by show d.ln=_;simp [df.brk,h.agY.1],λj y a=>?_⟩,h.small⟩;have a:(d.agY.set k x.Xu)[j]?=de y:=a;have n:((d.agY.set k x.Xu).map bI.row)[j]?=de y.row:=by rw [aP,a];rfl
 refine⟨?_,C j _ n⟩;rcases List.mem_or_eq_of_mem_set (aH a)with f|rfl
 .obtain⟨i,m⟩:=bu.1 f;exact (h.agY.2 i y m).1
 exact QV (h.agY.2 k x b).1
theorem KI{d:df}{A:Option dk}{c k:Nat}{x:bI}(a:d.agY[k]?=de x): (d.brk A c k x).ids=d.ids:=by unfold df.ids df.brk;exact yX a rfl
theorem PQ{ls:List bI}{g:Nat}{x kg r:bI}{id:Int}(h:ls[g]?=de x)(e:kg.id=x.id)(c:kg.ag1=x.ag1)(C:dh ls id=de r): ∃f,dh (ls.set g kg) id=de f/\f.ag1=r.ag1:=by
 unfold dh at *;rw [yX h e];cases a:mW (ls.map (·.id)) id with
 |none=>rw [a]at C;cases C
 |some k=>
  rw [a]at C;simp only at C ⊢;have b:=(ah.1 C).1;rw [List.getElem?_set];by_cases d:g=k
  .subst d;rw [h]at C;injection C with C;subst C;exact⟨kg,sw,c⟩
  exact⟨r,by simp [d,C],rfl⟩
theorem zY{d:df}{w:dj}(h:d.At w)(o:d.Tidy)(I:d.Ok): ∀l∈d.agY,l.Thin:=λl a=>by obtain⟨i,m⟩:=bu.1 a;exact Ub (o.lay l a) (I.good i l m) (h.agY.2 i l m).1
theorem Q5{ls:List bI}{y z:Int}(g:iY ls y z): ∃k:Nat,(ls.map (·.id))[k]?=de y:=by
 induction g with
 |one h=>exact zV h
 |tail _ _ ih=>exact ih
theorem RU{d:df}{w:dj}(h:d.At w)(o:d.Tidy)(I:d.Ok): E5 d dg:=by
 refine⟨o.spc,o.sn,o.ln,o.next,o.inc,o.pos,o.root,λi l a _=>⟨o.lay l (aH a),I.good i l a,zY h o I l (aH a)⟩,?_,λ_=>I.ag0,λ_=>I.clone,?_,λ_=>I.depth⟩
 .intro i m;cases m
 intro _ x b;obtain⟨k,c⟩:=Q5 b;exact I.free k x c b
theorem UM{d:df}{w:dj}(h:d.At w)(o:d.Tidy)(I:d.Ok){A:Option dk}{c k:Nat}{x:bI}(b:d.agY[k]?=de x): E5 (d.brk A c k x) (de k)/\∀l∈(d.brk A c k x).agY,l.Thin:=by
 have a5:=zY h o I;have J:=(ah.1 b).1;have f:=o.lay x (aH b);refine⟨⟨o.spc,o.sn,o.ln,o.next,by rw [KI b];exact o.inc,by rw [KI b];exact o.pos,?_,λi l a q=>?_,λi m=>?_,(λe=>nomatch e),(λe=>nomatch e),(λe=>nomatch e),(λe=>nomatch e)⟩,λl a=>?_⟩
 .obtain⟨r,C,bF⟩:=o.root;obtain⟨p,n,g⟩:=PQ (kg:=x.Xu) b rfl rfl C;exact⟨p,n,g.t bF⟩
 .have a:(d.agY.set k x.Xu)[i]?=de l:=a;have O:k≠i:=λe=>q (by rw [e]);rw [List.getElem?_set_ne O]at a;exact⟨o.lay l (aH a),I.good i l a,a5 l (aH a)⟩
 .injection m with m;subst m;exact⟨x.Xu,by show (d.agY.set k x.Xu)[k]?=_;rw [List.getElem?_set_self J],⟨f.ag1,f.name,rfl⟩⟩
 rcases List.mem_or_eq_of_mem_set (show l∈d.agY.set k x.Xu from a)with j|rfl
 .exact a5 l j
 exact Kr (a5 x (aH b))
theorem IZ(d:df)(n:Int)(w:dj)(h:d.At w)(ht:d.Tidy)(ar:d.Ok)(bk:d.root=1):
  dx ea 13 #[d.v,n] w λe w'=>(∃(d':df) (k:Nat),d'.At w'/\E5 d' (de k)/\(∀l∈d'.agY,l.Thin)/\e=eb d'.v)/\bH [] w w':=by
 have ay:=h.small;have av:=h.agY.1;have b4:0<d.ln:=by
  obtain⟨r,E,_⟩:=ht.root;rcases Nat.eq_zero_or_pos d.ln with e|e
  .have:d.agY=[]:=List.length_eq_zero_iff.1 gn;rw [this]at E;cases E
  exact e
 have E:=λu=>(IJ n (d.ln:Int) gn gn u).mono λe w' (hh:e=_/\w'=u)=>(show e=_/\bH [] u w' from ⟨hh.1,hh.2▸tR u⟩);obtain⟨k0,k1⟩:=GM n (n:=(d.ln:Int)) gn;generalize vC n (d.ln:Int)=kk at *;obtain⟨k,rfl⟩:=Int.eq_ofNat_of_zero_le k0;have ao:k<d.agY.length:=gn
 obtain⟨x,H⟩:∃x,d.agY[k]?=de x:=⟨_,aB ao⟩;obtain⟨gl,ol,ap,ax⟩:=h.agY.cell gn;obtain⟨U,R⟩:=eX ((w.alloc (dy #[da d.sA d.sn d.sc,d.root,d.next,da d.lA d.ln d.lc] 29)).alloc (dy #[da dg 0 0,(0:Int),(0:Int),da dg 0 0] 29));obtain⟨V,Q⟩:=eX (U.alloc (dy #[da d.sA d.sn d.sc,d.root,d.next,da d.lA d.ln d.lc] 29));have TU:bH [] w U:=by rw [R];exact ((tR w).a _).a _
 have TV:bH [] U V:=by rw [Q];exact (tR U).a _
 have ab:U.heap.size=w.heap.size+2:=by rw [R];simp
 have ac:V.heap.size=U.heap.size+1:=by rw [Q];simp
 have J:U.heap[w.heap.size]?=de (dy #[da d.sA d.sn d.sc,d.root,d.next,da d.lA d.ln d.lc] 29 (0,0)):=by rw [R];exact (((bH.refl [] (w.alloc _)).a _).old _ lz lz).t (dp w _)
 have x4:U.heap[w.heap.size+1]?=de (dy #[da dg 0 0,(0:Int),(0:Int),da dg 0 0] 29 (0,0)):=by rw [R];have:=dp (w.alloc (dy #[da d.sA d.sn d.sc,d.root,d.next,da d.lA d.ln d.lc] 29)) (dy #[da dg 0 0,(0:Int),(0:Int),da dg 0 0] 29);simpa using this
 have x5:=YE Q
 have W:bH [] _ _:=(tR V).alloc (dy #[] 51);have b2:∃s p b C,(Builtin.append_ #[27,27] 27 #[da (de ⟨V,0,dg⟩) 0 0,da d.lA d.ln d.lc]).run ea (V.alloc (dy #[] 51))=.ok (da s p b) C/\iK jS C V.heap.size (da s p b) (d.agY.map bI.row)/\bH [] V C:=by
  obtain⟨v',w',M,F,e3,e4⟩:=zH (k:=jS) (t:=27) (news:=d.agY.map bI.row) underlying27 (lQ jS V) gl ol d.lc d.ln (by rw [aJ];exact av) (λr E=>by
   obtain⟨x,_,rfl⟩:=List.mem_map.1 E;exact kT x) (λj r D=>by
   rw [aP]at D;cases H:d.agY[j]? with
   |none=>rw [H]at D;cases D
   |some x=>
    rw [H]at D;injection D with D;subst D;exact (ax _ (TU.t (TV.t W)) j x H).2) lz lO 27
  rw [<-ap]at M;obtain⟨s,p,b,rfl⟩:∃A n c,v'=da A n c:=by rcases iK.form F with ⟨e,_⟩|⟨_,_,_,e,_⟩<;>exact⟨_,_,_,e⟩
  exact⟨s,p,b,w',M,by simpa using F,fH W e3 (λq G=>by rw [show q=V.heap.size by simpa [dI,Value.ownBlock]using G];exact aQ _)⟩
 obtain⟨s,p,b,C,M,F,T6⟩:=b2;have a2:∀q,q<V.heap.size->q∉dI (da s p b):=λq G z=>by
  rcases iK.form F with ⟨e,_⟩|⟨g,o,b6,e,hb,_⟩
  .rw [e]at z;simp [dI,Value.ownBlock]at z
  rw [e]at z;have:q=g:=by simpa [dI,Value.ownBlock]using z
  omega
 have a4:=(T6.old U.heap.size gn lz).t x5;have a7:=a4;rw [bk]at a7;have hN:JM U (C.setCell ⟨U,3,dg⟩ (da s p b)) U.heap.size d.sA d.sn d.sc d.next s p b (d.agY.map bI.row):=
  ⟨(TV.t T6).setCell _ (.inr (aQ _)),dU (L:=[da d.sA d.sn d.sc,(1:Int),d.next,da d.lA d.ln d.lc]) a7 rfl,iK.kept (iK.base F gn) ((bH.refl [U.heap.size] C).setCell _ (.inl lz)) (λq G z=>by rw [aN]at z;subst z;exact a2 _ gn G),a2 _ gn,aQ _⟩
 have y3:(V.alloc (dy #[] 51)).cell? ⟨w,3,dg⟩=de (da d.lA d.ln d.lc):=cO 3 (da d.lA d.ln d.lc) (((TV.t W).old _ gn lz).t J);have q0:=cO 0 (da d.sA d.sn d.sc) J;have q1:=cO 1 d.root J;have q2:=cO 2 d.next J;have q3:=cO 3 (da d.lA d.ln d.lc) J;have z3:=cO 3 (da d.lA d.ln d.lc) a4;have zf:=λj=>dm a4 j;obtain⟨a8,HN,eJ⟩:=lh3 M hN x4;have an:=lh (λu:dj=>(show (Instr.buildSlice 27 0 #[]).run ea u=.ok (da (de ⟨u,0,dg⟩) 0 0) (u.alloc (dy #[] 51)) by kernel_rfl));have HR:=lh E;have B:=lh (bg h (bg ht (bg ar (bg bk H))));have K:=lh (bg ab (bg ac (bg TU a2)));have HB:=lh (bg ao (bg ay (bg av b4)));clear ab ac M hN x4 x5 a4 a7 E H bk av ay h ht ar J TU TV W T6 a2 F ap ax;unfold df.v;go_enter func13,ntmps13;go_upto_region 1 with fail
 rw [<-R];clear R;go_upto_region 2 with fail
 rw [<-Q];clear Q;go_upto_region 3 with (first
  |(refine yR 7 (gm (vs:=#[]) rfl rfl (an.o _)) ?_)
  |(at_builtin;refine bQ rfl (dL (v:=da (de ⟨V,0,dg⟩) 0 0) (y:=da d.lA d.ln d.lc) (.tmp 7) (.tmp 9) 27 rfl rfl rfl a8.o) ?_;try go_frame))
 clear y3 q0 q1 q2 q3 z3 zf a8 an;obtain⟨X,hX⟩:=eX (C.setCell ⟨U,3,dg⟩ (da s p b));rw [<-hX];have I:Hid (JM U X U.heap.size d.sA d.sn d.sc d.next s p b (d.agY.map bI.row)):=lh (by rw [hX];exact HN.o);clear hX HN;obtain⟨m,f,aR,fR,d5,aw⟩:=I.o.rowAt B.o.2.2.2.2;subst aR;have b3:p=d.ln:=fR.t HB.o.2.2.1.symm;subst b3;have a0:=I.o.own.2.lt m mo;have HF:Hid (∀u,bH [] X u->u.cell? ⟨U,3,dg⟩=de (da (de ⟨m,f,dg⟩) d.ln b)/\u.cell? ⟨m,f+k*31+4,dg⟩=de (dc .i64 x.Xl)/\u.frozen? ⟨m,f+k*31+4,dg⟩=dz):=lh λu t=>by obtain⟨b5,fb⟩:=a0.2.2;exact⟨cO 3 (da (de ⟨m,f,dg⟩) d.ln b) (t.ox I.o.h11),aw u t 4 _ rfl,dm ((t.old _ a0.2.1 lz).t fb) _⟩
 have b0:(0:Int)<=(k:Int):=gn
 have b1:(k:Int)<(d.ln:Int):=gn
 have bz:=lh a0;have aq:m≠U.heap.size:=d5;have aM:=lh aq;clear aw a0 d5 aq fR;refine sN 9 (tR X) λZ N=>?_;refine fK 0 ?_;refine fE 1 (da (de ⟨m,f,dg⟩) d.ln b) ?_ (j:=λw' hw=>by obtain⟨f3,_⟩:=HF.o _ hw;go_simp);refine fE 2 n ?_;refine fK 3 ?_;refine fE 4 (da (de ⟨m,f,dg⟩) d.ln b) ?_ (j:=λw' hw=>by obtain⟨f3,_⟩:=HF.o _ hw;go_simp);refine fE 5 ((d.ln:Int)) ?_;refine PR 6 (HR.o _) λw8 N _=>?_
 refine fK 7 ?_;refine fK 8 ?_;obtain⟨_,k4,cR⟩:=HF.o _ N;obtain⟨Y,S⟩:=eX (w8.setCell ⟨m,f+k*31+4,dg⟩ (256:Int));have a6:bH [] U Y:=by rw [S];exact (I.o.t.t N).setCell _ (.inr bz.o.1)
 have a5:=I.o.u N;have af:Y.heap[U.heap.size]?=de (dy #[da d.sA d.sn d.sc,(1:Int),d.next,da (de ⟨m,f,dg⟩) d.ln b] 29 (0,0)):=by rw [S];exact (dG _ m _ _ _ (Ne.symm aM.o)).t a5.h11
 have am:iK jS Y U.heap.size (da (de ⟨m,f,dg⟩) d.ln b) ((d.agY.map bI.row).set k (x.row.set 4 (256:Int))):=by rw [S];exact vW (k:=jS) (i:=4) a5.own (by rw [aP,B.o.2.2.2.2];rfl) lG _ rfl
 have ad:=(a6.old (w.heap.size+1) (by have:=K.o.1;omega) lz).t eJ.o;have O:=lh (bg a6 (bg am (bg ad af)));refine Yo ?_
 rw [<-S];clear S a6 am ad af a5 k4 cR N;have q0:=cO 0 (da d.sA d.sn d.sc) O.o.2.2.2;have q1:=cO 1 (1:Int) O.o.2.2.2;have q2:=cO 2 d.next O.o.2.2.2;have q3:=cO 3 (da (de ⟨m,f,dg⟩) d.ln b) O.o.2.2.2;have z0:=cO 0 (da dg 0 0) O.o.2.2.1;have z1:=cO 1 (0:Int) O.o.2.2.1;have z2:=cO 2 (0:Int) O.o.2.2.1;have z3:=cO 3 (da dg 0 0) O.o.2.2.1;have zf:=λj=>dm O.o.2.2.1 j;have cy:((((Y.setCell ⟨w+1,0,dg⟩ (da d.sA d.sn d.sc)).setCell ⟨w+1,1,dg⟩ (1:Int)).setCell ⟨w+1,2,dg⟩ d.next).setCell ⟨w+1,3,dg⟩ (da (de ⟨m,f,dg⟩) d.ln b)).heap[w.heap.size+1]?=de (dy #[da d.sA d.sn d.sc,(1:Int),d.next,da (de ⟨m,f,dg⟩) d.ln b] 29 (0,0)):=ut O.o.2.2.1 rfl;have aa:bH [] w Y:=K.o.2.2.1.t O.o.1;have aL:bH [] w ((((Y.setCell ⟨w+1,0,dg⟩ (da d.sA d.sn d.sc)).setCell ⟨w+1,1,dg⟩ (1:Int)).setCell ⟨w+1,2,dg⟩ d.next).setCell ⟨w+1,3,dg⟩ (da (de ⟨m,f,dg⟩) d.ln b)):=((((aa.setCell _ (.inr lz)).setCell _ (.inr lz)).setCell _ (.inr lz)).setCell _ (.inr lz));have a9:iK jS ((((Y.setCell ⟨w+1,0,dg⟩ (da d.sA d.sn d.sc)).setCell ⟨w+1,1,dg⟩ (1:Int)).setCell ⟨w+1,2,dg⟩ d.next).setCell ⟨w+1,3,dg⟩ (da (de ⟨m,f,dg⟩) d.ln b)) U.heap.size (da (de ⟨m,f,dg⟩) d.ln b) ((d.agY.map bI.row).set k (x.row.set 4 (256:Int))):=iK.kept O.o.2.1 (((((bH.refl [w.heap.size+1] Y).setCell _ (.inl lz)).setCell _ (.inl lz)).setCell _ (.inl lz)).setCell _ (.inl lz)) (λq G z=>by
  rw [aN]at z;subst z;exact K.o.2.2.2 _ (by have:=K.o.1;have:=K.o.2.1;omega) G)
 have aE:=VA (B.o.1.u aL) B.o.2.2.2.2 a9;have T:=UM (A:=de ⟨m,f,dg⟩) (c:=b) B.o.1 B.o.2.1 B.o.2.2.1 B.o.2.2.2.2;have a1:=run_loadVar_row (P:=ea) _ (w.heap.size+1) 29 29 #[da d.sA d.sn d.sc,(1:Int),d.next,da (de ⟨m,f,dg⟩) d.ln b] (0,0) _ cy underlying29 rfl yT;have a3:(d.brk (de ⟨m,f,dg⟩) b k x).v=dd #[da d.sA d.sn d.sc,(1:Int),d.next,da (de ⟨m,f,dg⟩) d.ln b]:=by show Value.agg #[da d.sA d.sn d.sc,d.root,d.next,da (de ⟨m,f,dg⟩) d.ln b]=_;rw [B.o.2.2.2.1]
 have aD:=lh (bg aE (bg aL (bg a1 (bg T a3))));clear cy aE aL a9 a1 T a3 aa;go_wp2_with fail
 obtain⟨aE,aL,a1,T,a3⟩:=aD.o;refine ag (v:=dd #[da d.sA d.sn d.sc,(1:Int),d.next,da (de ⟨m,f,dg⟩) d.ln b]) ?_ rfl ⟨⟨_,k,aE,T.1,T.2,congrArg Ending.returned a3.symm⟩,aL⟩;simp [results,results13,asAddr,a1]
theorem E5.ok{d:df}(h:E5 d dg): d.Ok:=⟨λk l i=>(h.lay k l i lz).2.1,h.ag0 rfl,h.clone rfl,λ_ _ _=>h.acy rfl _,h.depth rfl⟩
def Yx(d:df)(a7:Option Nat)(id:Int)(r:Rc): List ug:=match a7 with
 |none=>ac9 d.agY id r
 |some _=>[]
structure VE(w wr:dj)(q:Rc)(c7 c8 p:Nat)(d:df)(m:bI): Prop where
 t:bH [] w wr
 h1:wr.heap[w.heap.size+1]?=de (dy (We q) 59 (0,0))
 h7:wr.heap[c7]?=de (dy ⟨d.row⟩ 94 (0,0))
 h8:wr.heap[c8]?=de (dy ⟨m.row⟩ 51 (0,0))
 hp:wr.heap[p]?=de (dy #[da dg 0 0] 85 (0,0))
 ma:m.At wr
 lt:w.heap.size<=p
theorem VE.u{w wr u:dj}{q:Rc}{M a p:Nat}{d:df}{m:bI}(P:VE w wr q M a p d m)(T:bH [] wr u): VE w u q M a p d m:=
 ⟨P.t.t T,T.ox P.h1,T.ox P.h7,T.ox P.h8,T.ox P.hp,P.ma.u T,P.lt⟩
theorem VE.out{w wr:dj}{q:Rc}{M a p:Nat}{d:df}{m:bI}(P:VE w wr q M a p d m): Eb wr p wr.heap.size []:=.nil P.hp
theorem VE.fin{w wr u:dj}{q:Rc}{M a p:Nat}{d:df}{m:bI}(P:VE w wr q M a p d m){B:Nat}(v:p<B)(k:Past p B wr u): bH [] w u:=Past.new P.t k P.lt v
theorem aar{w:dj}{b c:Nat}{v:dl}{ds:List ug}(h:VO w c v ds)(g:b<=c): VO w b v ds:=iK.base h g
def outD(a:List (bI×Rc)): List ug:=(a.filter (λx=>x.1.ag1≠3)).map λx=>⟨x.1.id,dz,x.2⟩
theorem afm(a:List (bI×Rc)): (outD a).length<=a.length:=by unfold outD;rw [aJ];exact List.length_filter_le ..
theorem adW{a:List (bI×Rc)}{i:Nat}{x:bI×Rc}(h:a[i]?=de x): outD (a.take (i+1))=if x.1.ag1≠3 then outD (a.take i)++[⟨x.1.id,dz,x.2⟩] else outD (a.take i):=by obtain⟨b,rfl⟩:=ah.1 h;unfold outD;rw [aT b,List.filter_append,List.map_append];by_cases g:a[i].1.ag1=3<;>simp [g]
theorem wV.outD{xs a:List (bI×Rc)}(h:wV xs a): outD a=outD xs:=by
 induction h with
 |nil=>rfl
 | @cons l m q xs a hl _ ih=>
  obtain⟨_,z,N,_⟩:=G5 hl;unfold Go.Proofs.YtaahejdimjbhhaaGreatDoor.outD at *;by_cases g:l.ag1=3
  .rw [List.filter_cons_of_neg (by simp [z,g]),List.filter_cons_of_neg oR];exact ih
  rw [List.filter_cons_of_pos (by simp [z,g]),List.filter_cons_of_pos oR,List.map_cons,List.map_cons,ih,N]
structure UK(w wr:dj)(p B:Nat)(A:Option dk)(lv:List (bI×Rc))(ds:List ug): Prop where
 t:bH [] w wr
 ow:Eb wr p B ds
 rows:∀(j:Nat) (x:bI×Rc),lv[j]?=de x->∃g o,A=de ⟨g,o,dg⟩/\g≠p/\g<B/\wr.rangeAt g (o+j*35) (DF x)
 lt:w.heap.size<=p
theorem UK.start{w wr:dj}{p:Nat}{A:Option dk}{a:List (bI×Rc)}(t:bH [] w wr)(c:Eb wr p wr.heap.size [])(d:∀(j:Nat) (x:bI×Rc),a[j]?=de x->∃g o,A=de ⟨g,o,dg⟩/\g≠p/\g<wr.heap.size/\wr.rangeAt g (o+j*35) (DF x))(b:w.heap.size<=p): UK w wr p wr.heap.size A a (outD (a.take 0)):=
 ⟨t,c,d,b⟩
theorem KA.rows{w:dj}{base p:Nat}{A:Option dk}{n c:Nat}{a:List (bI×Rc)}(h:KA w base (da A n c) a)(q:p<base): ∀(j:Nat) (x:bI×Rc),a[j]?=de x->∃g o,A=de ⟨g,o,dg⟩/\g≠p/\g<w.heap.size/\w.rangeAt g (o+j*35) (DF x):=by
 intro j x i;have C:(a.map DF)[j]?=de (DF x):=by rw [aP,i];rfl
 rcases iK.form h with ⟨_,b⟩|⟨g,o,k,e,m,d,_,f⟩
 .rw [b]at C;simp at C
 injection e with l z N;exact⟨g,o,l,gn,d,f j _ C⟩
theorem KA.slice{w:dj}{base:Nat}{v:dl}{a:List (bI×Rc)}(h:KA w base v a): ∃A n c,v=da A n c:=by rcases iK.form h with ⟨e,_⟩|⟨_,_,_,e,_⟩<;>exact⟨_,_,_,e⟩
theorem UK.past{w wr u:dj}{p B:Nat}{A:Option dk}{c:List (bI×Rc)}{ds a:List ug}(P:UK w wr p B A c ds)(k:Past p B wr u)(o:Eb u p B a): UK w u p B A c a:=by refine⟨Past.new P.t k P.lt P.ow.lt,o,λj x h=>?_,P.lt⟩;obtain⟨g,l,e,b,f,C⟩:=P.rows j x h;refine⟨g,l,e,b,f,λi v d=>?_⟩;have:=C i v d;rw [<-this];simp only [World.cell?,k.old b f (aj f P.ow.le)]
theorem UK.u{w wr u:dj}{p B:Nat}{A:Option dk}{a:List (bI×Rc)}{ds:List ug}(P:UK w wr p B A a ds)(T:bH [] wr u): UK w u p B A a ds:=P.past (.of T) (P.ow.u T)
theorem abZ:(prog.info? 144).map (·.size)=de 35:=lB
theorem afI:(prog.info? 144).map (λi=>(i.zero,i.size))=de (de (dd ⟨WQ⟩),35):=lB
theorem abk: AL 144 ⟨WQ⟩:=λu=>by unfold Instr.alloc;rw [Sem.run_bind,(zero_of_info afI).1];rfl
theorem abd(u:dj)(x:bI×Rc): (Instr.storeAt 144 (db (de ⟨u,0,dg⟩)) (dd ⟨DF x⟩)).run ea (u.alloc (dy ⟨WQ⟩ 144))=.ok () (u.alloc (dy ⟨DF x⟩ 144)):=
 run_storeAt_new u 144 _ ⟨DF x⟩ abZ rfl (all_oneCell_toArray (cs:=DF x) (ab5 x).one)
structure V3(l m:bI): Prop where
 id:m.id=l.id
 ag1:m.ag1=l.ag1
 of_:m.of=l.of
 agZ:m.agZ=l.agZ
 nd:m.nd=l.nd
 ag0:m.ag0=l.ag0
 Xh:m.Xh=l.Xh
 ks:m.ks=l.ks
 cs:m.cs=l.cs
 good:jC m.Xg m.ks m.cs=jC l.Xg l.ks l.cs
theorem bI.Like.facts{l m:bI}(h:l.Like m): V3 l m:=by unfold bI.Like at h;rw [h];exact⟨rfl,rfl,rfl,rfl,by funext r;rfl,rfl,rfl,rfl,rfl,rfl⟩
theorem afv(d:df)(a7:Option Nat)(id:Int)(r:Rc)(w:dj)(h:d.At w)(o:E5 d a7)(a5:∀l∈d.agY,l.Thin)(c:List Nat)(aw:∀b∈c,b<w.heap.size)(p:gG c w λu=>d.At u):
  dx ea 31 #[d.v,id] w λe w'=>(∃(D:df) (m:bI) (b:Bool),e=eb (.tuple #[D.v,m.v,.bool b])/\(b=dT->a7=dg/\D=d/\(∃l,dh d.agY id=de l/\l.Like m)/\gG c w' λu=>m.At u)/\(b=dz->Yx d a7 id r=[]))/\bH [] w w':=by
 cases a7 with
 |none=>
  refine (AA d id w c aw p a5 dT 0 0 (λe=>by cases e) (λ_=>rfl) (λu t=>(Dc d dg u (h.u t) o).mono λe w' j=>j)).mono ?_;rintro e w' ⟨a,n⟩;refine⟨?_,n⟩;unfold sD at a;rw [aG rfl]at a;unfold Ky at a;cases a1:dh d.agY id with
  |none=>
   rw [a1]at a;exact⟨d,dF,dz,a,λg=>rJ,λ_=>(by unfold Yx ac9;simp only;rw [a1])⟩
  |some l=>
   rw [a1]at a;obtain⟨m,s,f,k⟩:=a;exact⟨d,m,dT,k,λ_=>⟨rfl,rfl,⟨l,rfl,s⟩,f⟩,λg=>rJ⟩
 |some i=>
  obtain⟨q,x,_⟩:=o.badl i rfl;refine (AA d id w c aw p a5 dz 1 q.id (λ_=>lG) (λe=>by cases e) (λu t=>(Dc d (de i) u (h.u t) o).mono λe w' j=>⟨?_,j.2⟩)).mono ?_
  .obtain⟨y,f,k⟩:=j.1;obtain rfl:q=y:=(by rw [x]at f;injection f);exact k
  rintro e w' ⟨a,n⟩;refine⟨?_,n⟩;unfold sD at a;rw [aF lz]at a;exact⟨⟨dg,0,0,[],0,0,dg,0,0,[]⟩,dF,dz,a,λg=>rJ,λ_=>rfl⟩
theorem WV(e:dj)(o:Obj)(m:bI)(k:Nat)(d:k=e.heap.size+1):
  (Instr.storeAt 51 (db (de ⟨k,0,dg⟩)) (dd ⟨m.row⟩)).run ea ((e.alloc o).alloc (dy ⟨dF.row⟩ 51))=.ok () ((e.alloc o).alloc (dy ⟨m.row⟩ 51)):=by
 subst d;have:=gX (e.alloc o) m;rwa [aI]at this
theorem adc(d:df)(ar:Option Nat)(id:Int)(r:Rc)(w:dj)(h:d.At w)(hc:E5 d ar)(b0:∀l∈d.agY,l.Thin):
  dx ea 29 #[d.v,id,r.v] w λe w'=>afl w w' (Yx d ar id r) e/\bH [] w w':=by
 have bv:=pz r;have bw:=iF r.can;obtain⟨W,hW⟩:=eX ((w.alloc (dy ⟨d.row⟩ 29)).alloc (dy (We r) 59));have T0:bH [] w W:=by rw [hW];exact ((tR w).a _).a _
 have x0:=fU hW;have F:=ZH hW;have cI:w.heap.size+2<=W.heap.size:=(ae.1 F).1;have cl:=afv d ar id r W (h.u T0) hc b0 [w.heap.size+1] lO (AC T0 (λb hb=>td) λu hu=>h.keepD hu);have q0:=cO 0 (da d.sA d.sn d.sc) x0;have q1:=cO 1 d.root x0;have q2:=cO 2 d.next x0;have q3:=cO 3 (da d.lA d.ln d.lc) x0;generalize bz:r.can=q at *;obtain⟨an,cD,b2,a6,bl,bj,HA,HC⟩:=lh8 bz cl bv bw F T0 h hc;have cB:=lh b0;have b1:=lh gI;clear bv bw bz cl x0 F T0 h hc b0;unfold df.row We at hW;unfold df.v Rc.v at *;go_enter func29,ntmps29;go_upto_region 1 with fail
 rw [<-hW];clear hW;go_upto_region 2 with (first
  |(go_at_call 31;refine cD.o.mono ?_;rintro e H ⟨⟨D,m,bb,rfl,cb,cc⟩,ci⟩;have E:=lh (bg cb cc);have ac:=lh ci;clear cb cc ci;unfold bI.v)
  |(refine yR 8 (di (t:=51) rfl (b1.o _)) ?_)
  |(refine sR (WV H _ m _ (aI _ _)) ?_))
 try simp only [aI]
 obtain⟨V,J⟩:=eX ((H.alloc (dy #[da D.sA D.sn D.sc,D.root,D.next,da D.lA D.ln D.lc] 94)).alloc (dy ⟨m.row⟩ 51));have aq:bH [] H V:=by rw [J];exact ((tR H).a _).a _
 have h7:=fU J;have h8:=ZH J;have a5:V.heap[w.heap.size+1]?=de (dy (We r) 59 (0,0)):=((ac.o.t aq).old _ gn lz).t bl.o;have r0:=cO 0 r.x0 a5;have r1:=cO 1 r.y0 a5;have r2:=cO 2 r.x1 a5;have r3:=cO 3 r.y1 a5;have cR:=ac.o.size;obtain⟨b3,b5,b7,ad⟩:=lh4 h7 h8 a5 aq;rw [<-J];clear J h7 h8 a5 aq q0 q1 q2 q3 b1;go_upto_region 3 with (go_at_call 67;refine mR (b2.o _) λw2 aR=>?_;have X1:=aR.ox b7.o;have y0:=cO 0 r.x0 X1;have I:=cO 1 r.y0 X1;have y2:=cO 2 r.x1 X1;have y3:=cO 3 r.y1 X1;have yf:=(λi=>dm X1 i);have bo:=lh X1;have aM:=lh aR;clear aR X1)
 obtain⟨X,Q⟩:=eX ((((w2.setCell ⟨w+1,0,dg⟩ q.x0).setCell ⟨w+1,1,dg⟩ q.y0).setCell ⟨w+1,2,dg⟩ q.x1).setCell ⟨w+1,3,dg⟩ q.y1);have cS:=ad.o.size;have cT:=aM.o.size;have TX:bH [] w X:=by rw [Q];exact (((((bj.o.t (ac.o.t (ad.o.t aM.o))).sc).sc).sc).sc)
 have F:X.heap[w.heap.size+1]?=de (dy (We q) 59 (0,0)):=by rw [Q];exact set4 (q:=r) bo.o
 have x7:X.heap[H.heap.size]?=de (dy ⟨D.row⟩ 94 (0,0)):=by rw [Q];exact (iT _ _ _ _ _ _ _ gn).t (aM.o.ox b3.o)
 have x8:X.heap[H.heap.size+1]?=de (dy ⟨m.row⟩ 51 (0,0)):=by rw [Q];exact (iT _ _ _ _ _ _ _ gn).t (aM.o.ox b5.o)
 have a8:(gG [w.heap.size+1] H λu=>m.At u)->m.At X:=λam=>am X (by rw [Q];simp only [World.size_setCell];omega) λg hg hb=>by rw [Q];exact (iT _ _ _ _ _ _ _ (by simpa using hb)).t ((aM.o.old _ gn lz).t (ad.o.old _ hg lz))
 have z0:=cO 0 q.x0 F;have z1:=cO 1 q.y0 F;have z2:=cO 2 q.x1 F;have z3:=cO 3 q.y1 F;obtain⟨be,bm,bp,bq,a7⟩:=lh5 a8 F x7 x8 TX;rw [<-Q];clear Q F x7 x8 TX a8 bo aM b7 b3 b5 ad bl r0 r1 r2 r3 y0 I y2 y3 yf cS cT b2;cases bb with
 |false=>
  have cg:=E.o.2 rfl;have HR:=lh cg;clear cg;go_wp2;go_ret;exact⟨⟨_,rfl,by rw [HR.o];exact jU _ _ _⟩,a7.o⟩
 |true=>
  obtain⟨cJ,hD,⟨l,aD,bT⟩,am⟩:=E.o.1 rfl;subst cJ;subst hD;have a8:=be.o am;have c6:Yx D dg id r=if q.empty=dT then [] else aa4 D.agY l id q:=by unfold Yx ac9;simp only;rw [aD,an.o]
  obtain⟨N,b8,af,bf⟩:=lh4 c6 aD bT.facts a8;clear c6 aD bT am a8 E be;cases he:q.empty with
  |true=>
   rw [he]at a6;rw [he,aG rfl]at N;clear he;(go_wp2_with (go_at_call 68;refine mR (a6.o _) λw3 aw=>?_));go_ret;exact⟨⟨_,rfl,by rw [N.o];exact jU _ _ _⟩,a7.o.t aw⟩
  |false=>
   rw [he]at a6;rw [he,aF lz]at N;have bL:q.InC:=(by rw [<-an.o];exact Rc.can_in (by rw [an.o];exact he));have a9:=lh bL;clear he bL;have IX:∀(fn:Fn) (first br:Array dl) (w:dj),(Instr.makeFunc fn first br).run ea w=.ok (.func fn first br) w:=λ_ _ _ _=>rfl;(go_upto_region 7 with (go_at_call 68;refine mR (a6.o _) λw3 aw=>?_));obtain⟨Y,hY⟩:=eX (w3.alloc (dy #[da dg 0 0] 85));have TY:bH [] X Y:=(by rw [hY];exact aw.a _);have cU:=a7.o.size;have P:VE w Y q H.heap.size (H.heap.size+1) w3.heap.size D m:=⟨a7.o.t TY,TY.ox bm.o,TY.ox bp.o,TY.ox bq.o,by rw [hY];exact dp _ _,bf.o.u TY,by have:=aw.size;omega⟩;rw [<-hY];clear hY TY aw z0 z1 z2 z3 bm bp bq a7 bf a6 cU cR cI ac bj;have k:=lh P;clear P IX;generalize H.heap.size+1=c8 at *;generalize H.heap.size=c7,w3.heap.size=p at *;obtain⟨kx,cK,L,_⟩:=iD b8.o;have ck:=(HC.o.lay kx l L lz).1;have bF:=(HC.o.lay kx l L lz).2.1;have bk:=lh ck;have cr:=lh bF;clear cK L ck bF;have I:=cP 1 _ k.o.h8;rw [af.o.ag1]at I;obtain s|s|s|s|s:l.ag1=1\/l.ag1=2\/l.ag1=3\/l.ag1=4\/l.ag1=5:=by have:=bk.o.ag1;omega
   .rw [s]at I;have C:Yx D dg id r=[]:=uj;have E:=lh C;have yp:=cO 0 (da dg 0 0) k.o.hp;clear C s;go_wp2;go_ret;exact⟨⟨_,rfl,by rw [E.o];exact jU _ _ _⟩,k.o.t⟩
   .rw [s]at I;have L:=afd HC.o.ok b8.o;have C:Yx D dg id r=outD (Ye (l.ag0.filterMap (dh D.agY)) q):=(by rw [N.o];unfold aa4;rw [aF gn,aG s];rfl);have bS:=adz (l.ag0.filterMap (dh D.agY)) a9.o;have bX:=aai (l.ag0.filterMap (dh D.agY)) q;have bE:∀(j:Nat) (x:bI),(l.ag0.filterMap (dh D.agY))[j]?=de x->x.ag3=dz->x.ag1=3->jC x.Xg x.ks x.cs=dT:=λj x hx _ h3=>by obtain⟨kz,_,hz,_⟩:=iD (L.2 j x hx);have:=(HC.o.lay kz x hz lz).2.1;unfold bI.good at this;rw [az,h3]at this;simpa using this.2
    have aL:=λu (hu:VE w u q c7 c8 p D m)=>acd D l.ag0 _ L.1 L.2 m.Xi m.Xh m.Xj hu.ma.Xk q a9.o u (HA.o.u hu.t) cB.o (af.o.ag0▸hu.ma.ag0) bE;have cM:l.ag0.length<=50:=(by rw [<-af.o.ag0,<-k.o.ma.ag0.1];exact k.o.ma.Xk);have bx:(Ye (l.ag0.filterMap (dh D.agY)) q).length<=50:=(by rw [L.1]at bX;omega);generalize Ye (l.ag0.filterMap (dh D.agY)) q=ll at *;unfold df.v Rc.v at aL;obtain⟨bc,E,ba⟩:=lh3 aL C bS;clear aL C bS bX bE cM L s;(go_upto_region 11 with fail);clear I;have f0:=cP 0 _ k.o.h7;have f1:=cP 1 _ k.o.h7;have f2:=cP 2 _ k.o.h7;have f3:=cP 3 _ k.o.h7;have cE:=cP 15 _ k.o.h8;have e0:=cO 0 q.x0 k.o.h1;have e1:=cO 1 q.y0 k.o.h1;have e2:=cO 2 q.x1 k.o.h1;have e3:=cO 3 q.y1 k.o.h1;(go_upto_region 12 with (go_at_call 71;refine (bc.o _ k.o).mono ?_;rintro e w5 ⟨⟨v,y,rfl,hv,hl⟩,G⟩;obtain⟨A,n,c,rfl⟩:=hv.slice;have b6:=lh (bg hv (bg hl G));clear hv hl G));obtain⟨hv,hl,G⟩:=b6.o;have hz:=(ae.1 k.o.hp).1;have z:=k.o.u G;clear b6 G f0 f1 f2 f3 cE e0 e1 e2 e3;have hn:n=y.length:=(by have:=hv.rowsAt.2;rw [aJ]at this;exact this);have U:UK w w5 p w5.heap.size A y (outD (y.take 0)):=.start z.t z.out (KA.rows hv hz) z.lt;have cY:n<=50:=(by rw [hn,<-hl.len];exact bx);have bM:∀(j:Nat) (x:bI×Rc),y[j]?=de x->x.2.InC:=λj x hx=>by obtain⟨l',h1,_⟩:=hl.get j x hx;exact ba.o (l',x.2) (aH h1)
    have ce:outD y=outD ll:=hl.outD;obtain⟨ax,ct,cw,HN,cn⟩:=lh5 U bM ce hn abk;have bt:w.heap.size<=w5.heap.size:=tU;have co:=lh bt;clear z hv hl hz U bM ce hn bx bt k bc ba;generalize w5.heap.size=B at *;go_loopw [51] (λs51 wr=>∃i:Nat,i<=n/\s51=i/\UK w wr p B A y (outD (y.take i))) (λs51 _=>n-(intOf s51).toNat);case atStart=>exact⟨0,gn,rfl,ax.o⟩
    obtain⟨i,hi,rfl,U⟩:=hrel;by_cases cQ:i<n
    .have ca:i<y.length:=(by rw [<-HN.o];exact cQ);have hx:y[i]?=de y[i]:=aB ca;obtain⟨g,og,rfl,cX,cW,hr⟩:=U.rows i _ hx;have bP:=ct.o i _ hx;have ch:=adW hx;generalize y[i]=x at *;have c9:=du (P:=ea) wr g (og+i*35) 144 (DF x) _ hr underlying144 rfl abZ;obtain⟨b9,bs,bh,ab,cv⟩:=lh5 c9 (λu=>abd u x) U ch bP;have c0:(0:Int)<=(i:Int):=gn;have c1:(i:Int)<(n:Int):=gn;clear c9 U ch bP hr hx ca;go_upto_region 14 with (first
      |(refine lR 54 b9.o ?_)
      |(refine yR 13 (di (t:=144) rfl (cn.o _)) ?_)
      |(refine sR (bs.o _) ?_))
     obtain⟨V,J⟩:=eX (wr.alloc (dy ⟨DF x⟩ 144));have TV:bH [] wr V:=(by rw [J];exact (tR wr).a _);have h9:V.heap[wr.heap.size]?=de (dy ⟨DF x⟩ 144 (0,0)):=(by rw [J];exact dp _ _);have ap:=lh (bh.o.u TV);rw [<-J];clear J TV bh b9 bs c0 c1;generalize wr.heap.size=b4 at *;obtain⟨mm,⟨q0,q1,q2,q3⟩⟩:=x;have x0:=cP 0 mm.id h9;have F:=cP 1 mm.ag1 h9;have s0:=cP 31 q0 h9;have s1:=cP 32 q1 h9;have s2:=cP 33 q2 h9;have s3:=cP 34 q3 h9;clear h9;by_cases h3:mm.ag1=3
     .rw [aF (by simp [h3])]at ab;rw [h3]at F;go_wp2;go_roundw;case rel=>exact⟨i+1,gn,by go_num,by rw [ab.o];exact ap.o⟩
      simp [intOf];omega
     rw [aG qm]at ab;have k3:(mm.ag1 != 3)=dT:=qm;have bR:(outD (y.take i)).length<=1000:=(by have h1:=afm (y.take i);rw [List.length_take]at h1;omega);have cf:abw (outD (y.take i)) ⟨mm.id,dz,⟨q0,q1,q2,q3⟩⟩=outD (y.take (i+1)):=(by rw [ab.o];have hf:(⟨q0,q1,q2,q3⟩:Rc).empty=dz:=cv.o.full;show (if (⟨q0,q1,q2,q3⟩:Rc).empty=dT then _ else _)=_;rw [hf];rfl);have av:=aat ⟨mm.id,dz,⟨q0,q1,q2,q3⟩⟩ p B (outD (y.take i)) bR V ap.o.ow;rw [cf]at av;have cm:=lh av;clear av cf bR h3;(go_wp2_with (go_at_call 69;refine cm.o.mono ?_;rintro e w6 ⟨rfl,S,R⟩;have cz:=lh (ap.o.past R S);clear S R));go_roundw;case rel=>exact⟨i+1,gn,by go_num,cz.o⟩
     simp [intOf];omega
    obtain rfl:i=n:=gn;have cV:y.take i=y:=aY (by rw [<-HN.o];exact aQ _);rw [cV,cw.o]at U;obtain⟨A',n',c',T,O⟩:=U.ow.ex;have yp:=cO 0 (da A' n' c') T;have HO:=lh (bg O U.t);clear T O U;go_wp2;go_ret;exact⟨⟨_,rfl,by rw [E.o];exact aar HO.o.1 co.o⟩,HO.o.2⟩
   .rw [s]at I;have bB:jC m.Xg m.ks m.cs=dT:=(by rw [af.o.good];have:=cr.o;unfold bI.good at this;rw [az,s]at this;simpa using this.2);have C:Yx D dg id r=abw [] ⟨id,dT,(m.Xg.area (jC m.Xg m.ks m.cs) q (-1)).can⟩:=(by rw [N.o];have e:=af.o.nd;have e2:(m.nd q)=l.nd q:=(by rw [e]);unfold aa4;rw [aF gn,aF gn,aG s,<-e2];rfl);have E:=lh C;have a4:=λu (hu:m.At u)=>aan m.Xg m.ks m.cs bB q a9.o.bd u hu.ks hu.cs;have ay:=pz (m.Xg.area (jC m.Xg m.ks m.cs) q (-1));clear C bB s;generalize (m.Xg.area (jC m.Xg m.ks m.cs) q (-1)).can=nn at *;generalize m.Xg.area (jC m.Xg m.ks m.cs) q (-1)=aa at *;obtain⟨n0,n1,n2,n3⟩:=nn;obtain⟨a0,a1,a2,a3⟩:=aa;unfold Rc.v Fv.v at a4;unfold Rc.v at ay;have ao:=lh a4;have cp:=lh ay;clear a4 ay;(go_upto_region 18 with fail);clear I;have cF:=cP 17 _ k.o.h8;have cG:=cP 18 _ k.o.h8;have cH:=cP 19 _ k.o.h8;have iR:=cP 20 _ k.o.h8;have jF:=cP 21 _ k.o.h8;have jI:=cP 22 _ k.o.h8;have e0:=cO 0 q.x0 k.o.h1;have e1:=cO 1 q.y0 k.o.h1;have e2:=cO 2 q.x1 k.o.h1;have e3:=cO 3 q.y1 k.o.h1;go_upto_region 19 with (first
     |(go_at_call 72;refine mR (ao.o _ k.o.ma) λw4 cj=>?_;have cy:=lh (k.o.u cj);clear cj)
     |(go_at_call 67;refine mR (cp.o _) λw5 G=>?_;have ax:=lh (cy.o.u G);clear G)
     |(go_at_call 69;refine (aat ⟨id,dT,⟨n0,n1,n2,n3⟩⟩ p _ [] lz _ ax.o.out).mono ?_;rintro e w6 ⟨rfl,S,R⟩;have cq:=lh (ax.o.fin ax.o.out.lt R);have cx:=lh S;clear S R))
    have aE:w.heap.size<=w5.heap.size:=(by have:=ax.o.out.lt;have:=ax.o.lt;omega);obtain⟨A,n,c,T,O⟩:=cx.o.ex;have yp:=cO 0 (da A n c) T;have HO:=lh O;clear T O cF cG cH iR jF jI e0 e1 e2 e3;go_wp2;go_ret;exact⟨⟨_,rfl,by rw [E.o];exact aar HO.o aE⟩,cq.o⟩
   .rw [s]at I;have C:Yx D dg id r=abw [] ⟨m.of,dz,(m.agZ.need q).can⟩:=(by rw [N.o,af.o.of_,af.o.agZ];unfold aa4;rw [aG s]);have E:=lh C;have cd:m.agZ.ok=dT:=(by rw [af.o.agZ];exact bk.o.agZ (.inr s));have a4:=ZU m.agZ cd q a9.o;clear C cd s;generalize (m.agZ.need q).can=nn at *;obtain⟨n0,n1,n2,n3⟩:=nn;unfold Rc.v Af.v at a4;have ao:=lh a4;clear a4;(go_upto_region 9 with fail);clear I;refine cu.start (λw'=>VE w w' q c7 c8 p D m) 8 lB ?_;have z:VE w Y.drew q c7 c8 p D m:=k.o.u ((tR Y).drawn 1);generalize Y.drew=Z at *;refine fE 0 (.func (.func 69) #[] #[db (de ⟨p,0,dg⟩)]) ?_;refine fK 1 ?_;refine Xy 2 m.of (λw' M=>cP 16 _ M.h8) ?_;refine fK 3 ?_;refine Xz 4 (dd #[m.agZ.a,m.agZ.b,m.agZ.c,m.agZ.d,m.agZ.e,m.agZ.f,m.agZ.den]) (λw' M=>du _ c8 7 40 [m.agZ.a,m.agZ.b,m.agZ.c,m.agZ.d,m.agZ.e,m.agZ.f,m.agZ.den] _ (gp M.h8 rfl) underlying40 rfl zo) ?_;refine fE 5 (dd #[q.x0,q.y0,q.x1,q.y1]) ?_ (j:=λw' M=>by have e0:=cO 0 q.x0 M.h1;have e1:=cO 1 q.y0 M.h1;have e2:=cO 2 q.x1 M.h1;have e3:=cO 3 q.y1 M.h1;go_simp);refine eH 6 λK hK=>?_;go_simp;refine mR (ao.o _) λw5 G=>?_;have z:=z.u G;refine gK hK z ?_;clear hK K G;refine fE 7 (ug.v ⟨m.of,dz,⟨n0,n1,n2,n3⟩⟩) ?_ rfl (j:=λw' M=>oN rfl rfl rfl (aeu _ _ _ _ _ _));refine iZ λK hK=>?_;go_simp;refine (aat ⟨m.of,dz,⟨n0,n1,n2,n3⟩⟩ p _ [] lz _ z.out).mono ?_;rintro e w6 ⟨rfl,S,R⟩;have bA:=z.fin z.out.lt R;have aE:w.heap.size<=w5.heap.size:=tU;refine hK _ _ ?_;clear hK K;(try go_frame);obtain⟨A,n,c,T,O⟩:=S.ex;have yp:=cO 0 (da A n c) T;have HO:=lh (bg O bA);clear z S R bA T O;go_wp2;go_ret;exact⟨⟨_,rfl,by rw [E.o];exact aar HO.o.1 aE⟩,HO.o.2⟩
   rw [s]at I;have C:Yx D dg id r=[]:=uj;have E:=lh C;have yp:=cO 0 (da dg 0 0) k.o.hp;clear C s;go_wp2;go_ret;exact⟨⟨_,rfl,by rw [E.o];exact jU _ _ _⟩,k.o.t⟩
