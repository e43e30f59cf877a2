import Derived.Test.YtbpklgllihhgpaaGreatA38
import Derived.Test.YtbpklgllihhgpaaGreatA39
import Derived.Test.YtbpklgllihhgpaaGreatA40
import Derived.Test.YtbpklgllihhgpaaGreatA41
set_option maxRecDepth 100000
set_option maxHeartbeats 16000000
namespace Go.Proofs.YtbpklgllihhgpaaGreat
open Tryz Go.RowKit Go.Den
theorem Ko(p q:Addr)(w:World):
  CallsD prog 114 #[.pointer (some p),.pointer (some q)] .returning w fun e u' w'=>e=.returned (.tuple #[])∧u'=.returning∧w'=w.alloc (.cells #[(0:Int),(0:Int)] 188):=by
 have hta:∀w,(Instr.typeAssert .nilIface 20 188 true).run prog w=.ok (.tuple #[.agg #[(0:Int),(0:Int)],.bool false]) w:=fun _=>by kernel_rfl
 refine callsD_of_wpS func114 rfl fun c₀ cs hu=>?_;apply wpS_seq;apply wpS_region;simp [wpOpsS,go_sem,recoverD,hu,ntmps114,Exit.thenS,hta];apply wpS_seq;apply wpS_region;simp [wpOpsS,go_sem,Exit.thenS];refine wpS_cond (t:=false) (by simp [Act.eval,Array.replicate]) ?_;simp only [Bool.false_eq_true,if_false];refine wpS_of_wp (wp_skip ?_);cases c₀;simp_all [bodyPostS,results,results114]
theorem L8(pb qb:Nat)(hpq:pb≠qb)(e id x y:Int)(older:List PanicEntry)(w:World)(hp:w.cell? ⟨pb,0,none⟩=some (.int .i64 x))(fp:w.frozen? ⟨pb,0,none⟩=false)(hq:w.cell? ⟨qb,0,none⟩=some (.int .i64 y))(fq:w.frozen? ⟨qb,0,none⟩=false):
  CallsD prog 114 #[.pointer (some ⟨pb,0,none⟩),.pointer (some ⟨qb,0,none⟩)] (.panicking ({ v:=xQ e id,recovered:=false } :: older)) w fun r u' w'=>
   r=.returned (.tuple #[])∧u'=.panicking ({ v:=xQ e id,recovered:=true } :: older)∧w'.cell? ⟨pb,0,none⟩=some (.int .i64 e)∧w'.cell? ⟨qb,0,none⟩=some (.int .i64 id)∧bH [pb,qb] w w':=by
 have hta:∀w,(Instr.typeAssert (xQ e id) 20 188 true).run prog w=.ok (.tuple #[.agg #[e,id],.bool true]) w:=fun _=>by kernel_rfl
 refine callsD_of_wpS func114 rfl fun c₀ cs hu=>?_;apply wpS_seq;apply wpS_region;simp [wpOpsS,go_sem,recoverD,hu,ntmps114,Exit.thenS,hta];apply wpS_seq;apply wpS_region;simp [wpOpsS,go_sem,Exit.thenS];refine wpS_cond (t:=true) (by simp [Act.eval,Array.replicate]) ?_;simp only [if_true];refine wpS_of_wp ?_;have l1:pb<w.heap.size:=ai hp;have l2:qb<w.heap.size:=ai hq;obtain⟨W,hW⟩:∃W,W=w.alloc (.cells #[e,id] 188):=⟨_,rfl⟩;have T0:bH [] w W:=by rw [hW];exact (tR w).alloc _
 have hb:W.heap[w.heap.size]?=some (.cells #[e,id] 188 (0,0)):=by rw [hW];exact heap_alloc_new _ _
 have c0:=bK hb (i:=0) (v:=e) rfl;have c1:=bK hb (i:=1) (v:=id) rfl;have p1:=((bY T0).1 pb 0 l1).trans hp;have p2:=((bY T0).2 pb 0 l1).trans fp;have q1:=((bY T0).1 qb 0 l2).trans hq;have q2:=((bY T0).2 qb 0 l2).trans fq;have T1:bH [pb,qb] w W:=T0.mono (by simp);have n1:w.heap.size≠pb:=by omega
 have n2:w.heap.size≠qb:=by omega
 rw [←hW];clear hW hb T0 hp fp hq fq hta;generalize w.heap.size=nb at *;simp only [Array.replicate_succ,Array.replicate_zero,List.push_toArray,List.nil_append,List.cons_append,List.append_toArray,List.setIfInBounds_toArray,List.set_cons_zero,List.set_cons_succ];go_region;have z1:((W.setCell ⟨pb,0,none⟩ e).setCell ⟨qb,0,none⟩ id).drew.cell? ⟨pb,0,none⟩=some (.int .i64 e):=by simp [go_sem,p1]
 have z2:((W.setCell ⟨pb,0,none⟩ e).setCell ⟨qb,0,none⟩ id).drew.cell? ⟨qb,0,none⟩=some (.int .i64 id):=by simp [go_sem,q1]
 have T2:bH [pb,qb] w ((W.setCell ⟨pb,0,none⟩ e).setCell ⟨qb,0,none⟩ id).drew:=((T1.setCell _ (.inl (by simp))).setCell _ (.inl (by simp))).drawn 1;generalize ((W.setCell ⟨pb,0,none⟩ e).setCell ⟨qb,0,none⟩ id).drew=U at *;clear p1 p2 q1 q2 T1 c0 c1 n1 n2 l1 l2;cases c₀;simp_all [bodyPostS,results,results114]
def Og(d:df)(bad:Option Nat)(e:Ending): Prop:=match bad with
 | none=>e=.returned (.tuple #[(0:Int),(0:Int)])
 | some i=>∃l,d.layers[i]?=some l∧e=.returned (.tuple #[(1:Int),l.id])
theorem Dc(d:df)(bad:Option Nat)(w:World)(h:d.At w)(hc:E5 d bad):
  Calls prog 76 #[d.v] w fun e w'=>Og d bad e∧bH [] w w':=by
 have IX:∀(fn:Fn) (first cap:Array Value) (w:World),(Instr.makeFunc fn first cap).run prog w=.ok (.func fn first cap) w:=fun _ _ _ _=>rfl;obtain⟨W,hW⟩:∃W,W=((w.alloc (.cells ⟨d.row⟩ 29)).alloc (.cells #[(0:Int)] 91)).alloc (.cells #[(0:Int)] 3):=⟨_,rfl⟩;have T0:bH [] w W:=by rw [hW];exact (((tR w).alloc _).alloc _).alloc _
 have x0:W.heap[w.heap.size]?=some (.cells ⟨d.row⟩ 29 (0,0)):=hW ▸ bO (bO bN);have q0:=bK x0 (i:=0) (v:=.slice d.sA d.sn d.sc) rfl;have q1:=bK x0 (i:=1) (v:=d.root) rfl;have q2:=bK x0 (i:=2) (v:=d.next) rfl;have q3:=bK x0 (i:=3) (v:=.slice d.lA d.ln d.lc) rfl;have x1:W.heap[w.heap.size+1]?=some (.cells #[(0:Int)] 91 (0,0)):=hW ▸ bO bN;have x2:W.heap[w.heap.size+1+1]?=some (.cells #[(0:Int)] 3 (0,0)):=hW ▸ bN;have hck:=MF d bad W (h.turn T0) hc;have hcell:∀u,bH [] W u→u.cell? ⟨w.heap.size+1,0,none⟩=some (.int .i64 0)∧u.frozen? ⟨w.heap.size+1,0,none⟩=false∧u.cell? ⟨w.heap.size+1+1,0,none⟩=some (.int .i64 0)∧u.frozen? ⟨w.heap.size+1+1,0,none⟩=false:=fun u t=>by have y1:=t.ox x1;have y2:=t.ox x2;exact⟨bK y1 (i:=0) (v:=(0:Int)) rfl,dm y1 0,bK y2 (i:=0) (v:=(0:Int)) rfl,dm y2 0⟩
 have l2:w.heap.size+1+1<W.heap.size:=(ae.1 x2).1;have HCK:=lh hck;have HCE:=lh hcell;have HT0:=lh T0;clear hck hcell T0 x0 x1 x2 h hc;unfold df.row at hW;unfold df.v at *;cases bad with
 | none=>
  go_enter_defers func76,ntmps76;go_upto_region 2 with fail
  rw [←hW];clear hW;go_wp2_with (go_at_call 115;refine HCK.o.mono ?_;rintro e w1 ⟨⟨tb,rfl⟩,ht⟩;obtain⟨a1,a2,a3,a4⟩:=HCE.o w1 ht)
  obtain⟨w2,hw2⟩:∃w2,w2=(w1.setCell ⟨w.heap.size+1,0,none⟩ (0:Int)).setCell ⟨w.heap.size+1+1,0,none⟩ (0:Int):=⟨_,rfl⟩;have c1:w2.cell? ⟨w.heap.size+1,0,none⟩=some (.int .i64 0):=by rw [hw2];simp [go_sem,a1]
  have c2:w2.cell? ⟨w.heap.size+1+1,0,none⟩=some (.int .i64 0):=by rw [hw2];simp [go_sem,a3]
  have T2:bH [] w w2:=by rw [hw2];exact ((HT0.o.trans ht).sc).sc
  rw [←hw2];clear hw2;have l1:w.heap.size+1+1<w2.heap.size:=ai c2;refine leaves_cons (f:=114) (args:=#[.pointer (some ⟨w.heap.size+1,0,none⟩),.pointer (some ⟨w.heap.size+1+1,0,none⟩)]) (by simp) (by simp [go_sem]) ?_;refine (Ko ⟨w.heap.size+1,0,none⟩ ⟨w.heap.size+1+1,0,none⟩ _).mono ?_;rintro e u' w'' ⟨rfl,rfl,rfl⟩;have k1:(w2.alloc (.cells #[(0:Int),(0:Int)] 188)).cell? ⟨w.heap.size+1,0,none⟩=some (.int .i64 0):=by rw [←c1];simp only [World.cell?];rw [heap_alloc_old _ _ (by omega)]
  have k2:(w2.alloc (.cells #[(0:Int),(0:Int)] 188)).cell? ⟨w.heap.size+1+1,0,none⟩=some (.int .i64 0):=by rw [←c2];simp only [World.cell?];rw [heap_alloc_old _ _ l1]
  simp [Leaves,settle,results,results76,go_sem,k1,k2];exact⟨rfl,T2.alloc _⟩
 | some i=>
  go_enter_defers func76,ntmps76;go_upto_region 2 with fail
  rw [←hW];clear hW;go_wp2_with (go_at_call 115;refine HCK.o.mono ?_;rintro e w1 ⟨⟨l,hl,rfl⟩,ht⟩;obtain⟨a1,a2,a3,a4⟩:=HCE.o w1 ht)
  refine leaves_cons (f:=114) (args:=#[.pointer (some ⟨w.heap.size+1,0,none⟩),.pointer (some ⟨w.heap.size+1+1,0,none⟩)]) (by simp) (by simp [go_sem]) ?_;refine (L8 (w.heap.size+1) (w.heap.size+1+1) (by omega) 1 l.id 0 0 [] _ a1 a2 a3 a4).mono ?_;rintro e u' w2 ⟨rfl,rfl,k1,k2,T2⟩;simp [Leaves,settle,results,results76,go_sem,k1,k2];exact⟨⟨l,hl,rfl⟩,(HT0.o.trans ht).fresh T2 (by simp;omega)⟩
theorem E5.ok{d:df}(h:E5 d none): d.Ok:=⟨fun k l hl=>(h.lay k l hl (by simp)).2.1,h.kids rfl,h.clone rfl,fun _ _ _=>h.acy rfl _,h.depth rfl⟩
structure VE(w wr:World)(q:Rc)(c7 c8 p:Nat)(d:df)(m:bI): Prop where
 t:bH [] w wr
 h1:wr.heap[w.heap.size+1]?=some (.cells (We q) 24 (0,0))
 h7:wr.heap[c7]?=some (.cells ⟨d.row⟩ 107 (0,0))
 h8:wr.heap[c8]?=some (.cells ⟨m.row⟩ 89 (0,0))
 hp:wr.heap[p]?=some (.cells #[.slice none 0 0] 35 (0,0))
 ma:m.At wr
 lt:w.heap.size≤p
theorem VE.turn{w wr u:World}{q:Rc}{c7 c8 p:Nat}{d:df}{m:bI}(P:VE w wr q c7 c8 p d m)(T:bH [] wr u): VE w u q c7 c8 p d m:=
 ⟨P.t.trans T,T.ox P.h1,T.ox P.h7,T.ox P.h8,T.ox P.hp,P.ma.turn T,P.lt⟩
theorem VE.out{w wr:World}{q:Rc}{c7 c8 p:Nat}{d:df}{m:bI}(P:VE w wr q c7 c8 p d m): Eb wr p wr.heap.size []:=.nil P.hp
theorem VE.fin{w wr u:World}{q:Rc}{c7 c8 p:Nat}{d:df}{m:bI}(P:VE w wr q c7 c8 p d m){B:Nat}(hB:p<B)(k:Past p B wr u): bH [] w u:=Past.new P.t k P.lt hB
def outD(lv:List (bI×Rc)): List ug:=(lv.filter (fun x=>x.1.kind≠3)).map fun x=>⟨x.1.id,false,x.2⟩
theorem wV.outD{xs ys:List (bI×Rc)}(h:wV xs ys): outD ys=outD xs:=by
 induction h with
 | nil=>rfl
 | @cons l m q xs ys hl _ ih=>
  obtain⟨_,e2,e3,_⟩:=G5 hl;unfold Go.Proofs.YtbpklgllihhgpaaGreat.outD at *;by_cases h3:l.kind=3
  ·rw [List.filter_cons_of_neg (by simp [e2,h3]),List.filter_cons_of_neg (by simp [h3])];exact ih
  rw [List.filter_cons_of_pos (by simp [e2,h3]),List.filter_cons_of_pos (by simp [h3]),List.map_cons,List.map_cons,ih,e3]
structure UK(w wr:World)(p B:Nat)(A:Option Addr)(lv:List (bI×Rc))(ds:List ug): Prop where
 t:bH [] w wr
 ow:Eb wr p B ds
 rows:∀(j:Nat) (x:bI×Rc),lv[j]?=some x→∃g o,A=some ⟨g,o,none⟩∧g≠p∧g<B∧wr.rangeAt g (o+j*35) (DF x)
 lt:w.heap.size≤p
theorem UK.start{w wr:World}{p:Nat}{A:Option Addr}{lv:List (bI×Rc)}(t:bH [] w wr)(ow:Eb wr p wr.heap.size [])(rows:∀(j:Nat) (x:bI×Rc),lv[j]?=some x→∃g o,A=some ⟨g,o,none⟩∧g≠p∧g<wr.heap.size∧wr.rangeAt g (o+j*35) (DF x))(lt:w.heap.size≤p): UK w wr p wr.heap.size A lv (outD (lv.take 0)):=
 ⟨t,ow,rows,lt⟩
theorem KA.rows{w:World}{base p:Nat}{A:Option Addr}{n c:Nat}{lv:List (bI×Rc)}(h:KA w base (.slice A n c) lv)(hp:p<base): ∀(j:Nat) (x:bI×Rc),lv[j]?=some x→∃g o,A=some ⟨g,o,none⟩∧g≠p∧g<w.heap.size∧w.rangeAt g (o+j*35) (DF x):=by
 intro j x hx;have hr:(lv.map DF)[j]?=some (DF x):=by rw [aP,hx];rfl
 rcases iK.form h with ⟨_,h0⟩ | ⟨g,o,cap,e,hb,hg,_,hrow⟩
 ·rw [h0]at hr;simp at hr
 injection e with e1 e2 e3;exact⟨g,o,e1,by omega,hg,hrow j _ hr⟩
theorem KA.slice{w:World}{base:Nat}{v:Value}{lv:List (bI×Rc)}(h:KA w base v lv): ∃A n c,v=.slice A n c:=by rcases iK.form h with ⟨e,_⟩ | ⟨_,_,_,e,_⟩ <;> exact⟨_,_,_,e⟩
theorem UK.past{w wr u:World}{p B:Nat}{A:Option Addr}{lv:List (bI×Rc)}{ds ds':List ug}(P:UK w wr p B A lv ds)(k:Past p B wr u)(o:Eb u p B ds'): UK w u p B A lv ds':=by refine⟨Past.new P.t k P.lt P.ow.lt,o,fun j x hx=>?_,P.lt⟩;obtain⟨g,og,e,h1,h2,hr⟩:=P.rows j x hx;refine⟨g,og,e,h1,h2,fun i v hv=>?_⟩;have:=hr i v hv;rw [←this];simp only [World.cell?,k.old h1 h2 (aj h2 P.ow.le)]
theorem UK.turn{w wr u:World}{p B:Nat}{A:Option Addr}{lv:List (bI×Rc)}{ds:List ug}(P:UK w wr p B A lv ds)(T:bH [] wr u): UK w u p B A lv ds:=P.past (.of T) (P.ow.turn T)
structure V3(l m:bI): Prop where
 id:m.id=l.id
 kind:m.kind=l.kind
 of_:m.of=l.of
 place:m.place=l.place
 nd:m.nd=l.nd
 kids:m.kids=l.kids
 Xh:m.Xh=l.Xh
 ks:m.ks=l.ks
 cs:m.cs=l.cs
 good:jC m.Xg m.ks m.cs=jC l.Xg l.ks l.cs
theorem bI.Like.facts{l m:bI}(h:l.Like m): V3 l m:=by unfold bI.Like at h;rw [h];exact⟨rfl,rfl,rfl,rfl,by funext r;rfl,rfl,rfl,rfl,rfl,rfl⟩
theorem WV(w1:World)(o:Obj)(m:bI)(k:Nat)(hk:k=w1.heap.size+1):
  (Instr.storeAt 89 (.pointer (some ⟨k,0,none⟩)) (.agg ⟨m.row⟩)).run prog ((w1.alloc o).alloc (.cells ⟨dF.row⟩ 89))=.ok () ((w1.alloc o).alloc (.cells ⟨m.row⟩ 89)):=by
 subst hk;have:=gX (w1.alloc o) m;rwa [aI]at this
def FN(A:Option Addr)(c:Nat): Prop:=∀a,A=some a→a.block≠c
theorem FN.of{A:Option Addr}{base c:Nat}(h:Fr A base)(hc:c<base): FN A c:=fun a ha e=>by have:=h a ha;omega
theorem FN.none(c:Nat): FN none c:=fun a ha=>by cases ha
theorem dn.avoid{w u:World}{A:Option Addr}{n:Nat}{xs:List Int}{c:Nat}(h:dn w A n xs)(ha:FN A c)(ho:∀q,q≠c→u.heap[q]?=w.heap[q]?): dn u A n xs:=
 ⟨h.1,fun j hj=>by
  obtain⟨g,o,e,hc⟩:=h.2 j hj;refine⟨g,o,e,?_⟩;rw [←hc];exact lJ ho (ha _ e) _⟩
theorem iL.avoid{w u:World}{A:Option Addr}{n:Nat}{xs:List (Int×Int)}{c:Nat}(h:iL w A n xs)(ha:FN A c)(ho:∀q,q≠c→u.heap[q]?=w.heap[q]?): iL u A n xs:=
 ⟨h.1,fun j hj=>by
  obtain⟨g,o,e,hc1,hc2⟩:=h.2 j hj;refine⟨g,o,e,?_,?_⟩
  ·rw [←hc1];exact lJ ho (ha _ e) _
  rw [←hc2];exact lJ ho (ha _ e) _⟩
structure bI.Av(l:bI)(c:Nat): Prop where
 ki:FN l.Xi c
 fk:FN l.Xg.kA c
 fc:FN l.Xg.cA c
 fp:FN l.pA c
theorem bI.New.av{l:bI}{w:World}{base c:Nat}(h:l.New w base)(hc:c<base): l.Av c:=⟨.of h.fi hc,.of h.fk hc,.of h.fc hc,.of h.fp hc⟩
theorem bI.At.avoid{l:bI}{w u:World}{c:Nat}(h:l.At w)(a:l.Av c)(hs:Ho w c)(ho:∀q,q≠c→u.heap[q]?=w.heap[q]?): l.At u:=
 ⟨h.kids.avoid a.ki ho,h.ks.avoid a.fk ho,h.cs.avoid a.fc ho,h.pts.avoid a.fp ho,h.Xm.off hs ho,h.mask.off hs ho,h.Xk⟩
structure eF.Av(s:eF)(c:Nat): Prop where
 p0:FN s.a0 c
 p1:FN s.a1 c
 p2:FN s.a2 c
theorem eF.Past.av{s:eF}{b c:Nat}(h:s.Past b)(hc:c<b): s.Av c:=⟨fun a ha e=>by have:=h.p0 a ha;omega,fun a ha e=>by have:=h.p1 a ha;omega,fun a ha e=>by have:=h.p2 a ha;omega⟩
structure df.Av(d:df)(c:Nat): Prop where
 s:FN d.sA c
 l:FN d.lA c
 ss:∀x∈d.spaces,x.Av c
 ls:∀x∈d.layers,x.Av c
theorem df.At.avoid{d:df}{w u:World}{c:Nat}(h:d.At w)(a:d.Av c)(hs:Ho w c)(ho:∀q,q≠c→u.heap[q]?=w.heap[q]?): d.At u:=by
 refine⟨⟨h.spaces.1,fun j s hj=>?_⟩,⟨h.layers.1,fun j l hj=>?_⟩,h.small⟩
 ·obtain⟨h1,g,o,e,hr⟩:=h.spaces.2 j s hj;have hv:=a.ss s (aH hj);refine⟨⟨h1.h1,h1.h2,h1.l0.avoid hv.p0 ho,h1.l1.avoid hv.p1 ho,h1.l2.avoid hv.p2 ho⟩,g,o,e,fun i v hi=>?_⟩;rw [←hr i v hi];exact lJ ho (a.s _ e) _
 obtain⟨h1,g,o,e,hr⟩:=h.layers.2 j l hj;refine⟨h1.avoid (a.ls l (aH hj)) hs ho,g,o,e,fun i v hi=>?_⟩;rw [←hr i v hi];exact lJ ho (a.l _ e) _
def bI.Xn(l:bI)(A:Option Addr)(n c:Nat)(ks:List Int): bI:={ l with Xi:=A,Xh:=n,Xj:=c,kids:=ks }
def df.grow(d:df)(A:Option Addr)(c:Nat)(next:Int)(g:Nat)(kg:bI)(l:bI): df:={ d with next:=next,lA:=A,ln:=d.ln+1,lc:=c,layers:=d.layers.set g kg ++ [l] }
theorem yX{ls:List bI}{g:Nat}{x y:bI}(h:ls[g]?=some x)(e:y.id=x.id): (ls.set g y).map (·.id)=ls.map (·.id):=by
 rw [List.map_set];obtain⟨hl,rfl⟩:=ah.1 h;apply List.ext_getElem?;intro i;rw [List.getElem?_set];by_cases hi:g=i
 ·subst hi;simp [hl,e]
 simp [hi]
theorem PW{d:df}{A:Option Addr}{c:Nat}{next:Int}{g:Nat}{kg l x:bI}(h:d.layers[g]?=some x)(e:kg.id=x.id): (d.grow A c next g kg l).ids=d.ids ++ [l.id]:=by unfold df.ids df.grow;simp only;rw [List.map_append,yX h e];rfl
theorem Ol{ls:List bI}{g:Nat}{x kg l r:bI}{id:Int}(h:ls[g]?=some x)(e:kg.id=x.id)(ek:kg.kind=x.kind)(hr:dh ls id=some r): ∃r',dh (ls.set g kg ++ [l]) id=some r'∧r'.kind=r.kind:=by
 unfold dh at *;rw [List.map_append,yX h e];cases ha:mW (ls.map (·.id)) id with
 | none=>rw [ha]at hr;cases hr
 | some k=>
  rw [ha]at hr;have ha2:mW (ls.map (·.id) ++ [l].map (·.id)) id=some k:=by unfold mW at *;rw [List.findIdx?_append,ha];rfl
  rw [ha2];simp only at hr ⊢;have hk:=(ah.1 hr).1;rw [bD (by simpa using hk),List.getElem?_set];by_cases hg:g=k
  ·subst hg;rw [h]at hr;injection hr with hr;subst hr;exact⟨kg,by simp [hk],ek⟩
  exact⟨r,by simp [hg,hr],rfl⟩
theorem D8{d:df}(h:d.Tidy){A:Option Addr}{c:Nat}{next:Int}{g:Nat}{x:bI}{kA:Option Addr}{kn kc:Nat}{ks:List Int}{l:bI}(hg:d.layers[g]?=some x)(hk:x.kind=2)(hid:l.id=d.next)(hl:l.Tidy d.sn)(hn:d.next<next)(hn2:next≤1048576)(hln:d.ln+1≤40): (d.grow A c next g (x.Xn kA kn kc ks) l).Tidy:=by
 have hi:(d.grow A c next g (x.Xn kA kn kc ks) l).ids=d.ids ++ [l.id]:=PW hg rfl;refine⟨h.spc,h.sn,hln,⟨by show 1≤next;have:=h.next.1;omega,hn2⟩,?_,?_,?_,?_⟩
 ·rw [hi,List.pairwise_append];refine⟨h.inc,List.pairwise_singleton _ _,fun a ha b hb=>?_⟩;rw [aN]at hb;subst hb;rw [hid];exact (h.pos a ha).2
 ·rw [hi];intro a ha;show 1≤a∧a<next
  rcases aV.1 ha with ha | ha
  ·have:=h.pos a ha;omega
  rw [aN]at ha;subst ha;have:=h.next.1;omega
 ·obtain⟨r,hr,hrk⟩:=h.root;obtain⟨r',h1,h2⟩:=Ol (l:=l) (kg:=x.Xn kA kn kc ks) hg rfl rfl hr;exact⟨r',h1,h2.trans hrk⟩
 intro y hy;show y.Tidy d.sn;rcases aV.1 hy with hy | hy
 ·rcases List.mem_or_eq_of_mem_set hy with hy | rfl
  ·exact h.lay y hy
  have hx:=h.lay x (aH hg);exact { hx with Xq:=fun hn=>absurd hk hn }
 rw [aN]at hy;subst hy;exact hl
theorem Gn{f:Fv}{ks cs:List Int}(h:jC f ks cs=true)(hc:f.cn=cs.length): f.kn≤5000∧f.cn≤5000:=by
 unfold jC at h;by_cases h1:f.kind=1
 ·rw [aG h1,az,az]at h;have hcn:=oG h.2;have hh:=h.1.1;unfold Fv.headB Fv.win at hh;simp only [az,decide_eq_true_eq,beq_iff_eq]at hh;obtain⟨⟨⟨⟨r0,r1⟩,hk⟩,_⟩,_⟩:=hh;have:f.Xf=0∨f.Xf=1∨f.Xf=2∨f.Xf=3:=by omega
  rcases this with e | e | e | e <;> (rw [e]at hk;unfold pO at hk;omega)
 rw [aF h1]at h;by_cases h2:f.kind=2∨f.kind=3∨f.kind=4
 ·rw [aG h2,az]at h;have:=oL h.2;have:=oG h.2;omega
 rw [aF h2]at h;by_cases h5:f.kind=5
 ·rw [aG h5,az]at h;have:=oL h.2;have hcv:=h.1;simp only [jh,az,decide_eq_true_eq]at hcv;omega
 rw [aF h5]at h;have hk:∃v c r,f.plain false v false r=true∧c=true:=by
  by_cases h6:f.kind=6
  ·rw [aG h6]at h;exact⟨_,true,_,h,rfl⟩
  rw [aF h6]at h;by_cases h7:f.kind=7
  ·rw [aG h7,az]at h;exact⟨_,true,_,h.2,rfl⟩
  rw [aF h7]at h;by_cases h8:f.kind=8
  ·rw [aG h8,az]at h;exact⟨_,true,_,h.2,rfl⟩
  rw [aF h8]at h;cases h
 obtain⟨v,_,r,hp,_⟩:=hk;have:=oL hp;have:=oG hp;omega
theorem Ub{l:bI}{ns:Int}{w:World}(h:l.Tidy ns)(hg:l.good=true)(ha:l.At w): l.Thin:=by
 unfold bI.good at hg;rw [az,az]at hg;obtain⟨⟨hm,ht⟩,hf⟩:=hg;unfold eu at hm ht;rw [az]at hm ht;have m1:=of_decide_eq_true hm.1;have t1:=of_decide_eq_true ht.1;have hmn:=ha.mask.1;have htn:=ha.Xm.1;refine⟨ha.Xk,?_,?_,?_,by omega,by omega⟩
 ·by_cases h5:l.kind=5
  ·obtain⟨⟨_,l1⟩,_⟩:=nD (h.path h5);have:=ha.pts.1;omega
  have:=(h.Xo h5).1;omega
 ·by_cases h3:l.kind=3
  ·have hb:jC l.Xg l.ks l.cs=true:=(by rw [h3]at hf;simpa using hf);exact (Gn hb ha.cs.1).1
  rw [h.Xr h3];decide
 by_cases h3:l.kind=3
 ·have hb:jC l.Xg l.ks l.cs=true:=by rw [h3]at hf;simpa using hf
  exact (Gn hb ha.cs.1).2
 rw [h.Xr h3];decide
structure Ny(d:df)(k:Nat): Prop where
 tidy:d.Tidy
 ok:d.Ok
 root:d.root=1
 next:d.next≤2+2*(k:Int)
 ln:d.ln≤1+k
 kb:∀l∈d.layers,l.Xh≤k
 sn:d.sn≤1
def vI:Array Value:=#[.slice none 0 0,(0:Int),(0:Int),.slice none 0 0]
structure Rj(w wr:World)(b4 b5:Nat)(d:df): Prop where
 t:bH [] w wr
 h4:wr.heap[b4]?=some (.cells vI 29 (0,0))
 h5:wr.heap[b5]?=some (.cells ⟨d.row⟩ 29 (0,0))
 dat:d.At wr
 a4:d.Av b4
 a5:d.Av b5
 lt:w.heap.size≤b4∧b4<b5
theorem ML(ns:Int)(h:0≤ns): jK.Tidy ns:=by have t:=wu 2 (by decide) (by decide);exact { t with space:=⟨by decide,h⟩,path:=fun e=>absurd e (by decide) }
theorem N9(x:Int): eP [jK] x=[]:=by
 unfold eP;cases h:mW ([jK].map (·.id)) x with
 | none=>rfl
 | some k=>
  simp only;obtain _ | k:=k
  ·rfl
  rfl
theorem Vf(d:df)(hl:d.layers=[jK])(hr:d.root=1): d.Ok:=by
 refine⟨fun k l h=>?_,fun k l h=>?_,fun k l h=>?_,fun k y _ hre=>?_,?_⟩
 ·rw [hl]at h;obtain _ | k:=k
  ·simp at h;subst h;decide
  simp at h
 ·rw [hl]at h ⊢;rw [hr];obtain _ | k:=k
  ·simp at h;subst h;decide
  simp at h
 ·rw [hl]at h;obtain _ | k:=k
  ·simp at h;subst h;intro h4;cases h4
  simp at h
 ·rw [hl]at hre;have:∀{x y},iY [jK] x y→False:=fun hh=>by
   induction hh with
   | one h=>rw [N9]at h;simp at h
   | tail _ _ ih=>exact ih
  exact this hre
 rw [hl,hr];decide
theorem Lt(sA:Option Addr)(sn sc:Nat)(spaces:List eF)(lA:Option Addr)(hs:∀s∈spaces,s.Good)(hn:sn≤1): Ny ⟨sA,sn,sc,spaces,1,2,lA,1,1,[jK]⟩ 0:=by
 have h1:∀x∈(⟨sA,sn,sc,spaces,1,2,lA,1,1,[jK]⟩:df).ids,0<x∧x<2:=fun x hx=>by
  have:x=1:=by simpa [df.ids,jK,fB]using hx
  subst this;exact⟨by decide,by decide⟩
 have h2:∀l∈[jK],l.Tidy sn:=fun l hl=>by
  have:l=jK:=by simpa using hl
  subst this;exact ML _ (by show (0:Int)≤(sn:Int);omega)
 have h3:∀l∈[jK],l.Xh≤0:=fun l hl=>by
  have:l=jK:=by simpa using hl
  subst this;exact aQ _
 exact⟨⟨hs,by show sn≤8;omega,by show 1≤40;decide,⟨by show (1:Int)≤2;decide,by show (2:Int)≤1048576;decide⟩,List.pairwise_singleton _ _,h1,⟨jK,rfl,rfl⟩,h2⟩,Vf _ rfl rfl,rfl,by show (2:Int)≤2+2*((0:Nat):Int);decide,aQ _,h3,hn⟩
theorem UX:(prog.info? 99).map (fun i=>(i.zero,i.size,i.bytes))=some (some (.agg ⟨WB⟩),21,216):=by kernel_rfl
def CW:kD:=⟨99,21,216,.agg ⟨WB⟩,UX,rfl,by decide,by decide,by decide⟩
theorem MJ{s:eF}{w:World}(h:s.At w): CW.Row s.row:=⟨by simp [eF.row,h.h1,h.h2,CW],fun u hu=>by
 simp only [eF.row,aS,aV,List.mem_map]at hu;rcases hu with rfl | rfl | rfl | ⟨z,_,rfl⟩ | ⟨z,_,rfl⟩ <;> rfl⟩
theorem tC{w u:World}{c g i:Nat}{v:Value}(hu:∀q,q<w.heap.size→q∉[c]→u.heap[q]?=w.heap[q]?)(h:w.cell? ⟨g,i,none⟩=some v)(hg:g≠c): u.cell? ⟨g,i,none⟩=some v:=by rw [←h];simp only [World.cell?,hu g (ai h) (by simpa using hg)]
theorem dn.stab{w:World}{A:Option Addr}{n:Nat}{xs:List Int}{c:Nat}(h:dn w A n xs)(ha:FN A c): gG [c] w fun u=>dn u A n xs:=fun u _ hu=>⟨h.1,fun j hj=>by
 obtain⟨g,o,e,hc⟩:=h.2 j hj;exact⟨g,o,e,tC hu hc (ha _ e)⟩⟩
theorem iL.stab{w:World}{A:Option Addr}{n:Nat}{xs:List (Int×Int)}{c:Nat}(h:iL w A n xs)(ha:FN A c): gG [c] w fun u=>iL u A n xs:=fun u _ hu=>⟨h.1,fun j hj=>by
 obtain⟨g,o,e,h1,h2⟩:=h.2 j hj;exact⟨g,o,e,tC hu h1 (ha _ e),tC hu h2 (ha _ e)⟩⟩
theorem dB.stab{w:World}{A:Option Addr}{n:Nat}{ts:List dC}{c:Nat}(h:dB w A n ts)(hs:Ho w c): gG [c] w fun u=>dB u A n ts:=fun u _ hu=>⟨h.1,fun j t ht=>by
 obtain⟨h1,g,o,h2,h3⟩:=h.2 j t ht;refine⟨h1,g,o,h2,?_⟩;have hg:g≠c:=by
  rintro rfl;obtain⟨arr,ty,fz,e1,e2⟩:=hs;have hl:257<t.row.length:=by simp [dC.row,h1.1]
  have:=h3 257 _ (aB hl);rw [aA _ _ _ _ _ _ e1,Array.getElem?_eq_none (by omega)]at this;cases this
 intro k v hv;exact tC hu (h3 k v hv) hg⟩
theorem bI.New.stab{l:bI}{w:World}{base c:Nat}(h:l.New w base)(hc:c<base)(hs:Ho w c): gG [c] w fun u=>l.At u:=fun u hz hu=>
 ⟨h.at_.kids.stab (.of h.fi hc) u hz hu,h.at_.ks.stab (.of h.fk hc) u hz hu,h.at_.cs.stab (.of h.fc hc) u hz hu,h.at_.pts.stab (.of h.fp hc) u hz hu,h.at_.Xm.stab hs u hz hu,h.at_.mask.stab hs u hz hu,h.at_.Xk⟩
structure VV(l:bI)(base:Nat): Prop where
 fi:Fr l.Xi base
 fk:Fr l.Xg.kA base
 fc:Fr l.Xg.cA base
 fp:Fr l.pA base
theorem bI.New.frl{l:bI}{w:World}{base b:Nat}(h:l.New w base)(hb:b≤base): VV l b:=⟨h.fi.mono hb,h.fk.mono hb,h.fc.mono hb,h.fp.mono hb⟩
structure ND(w0 wx:World)(b7:Nat)(l:bI): Prop where
 t:bH [] w0 wx
 h7:wx.heap[b7]?=some (.cells ⟨l.row⟩ 89 (0,0))
 st:gG [b7] wx fun u=>l.At u
 fr:VV l w0.heap.size
 kz:l.Xh=0
 lt:w0.heap.size≤b7
theorem tH{z:Int}(h0:-10000000≤z)(h1:z≤10000000): wrap64 z=z:=fC _ (by omega) (by omega)
theorem Rj.turn{w wr u:World}{b4 b5:Nat}{d:df}(P:Rj w wr b4 b5 d)(T:bH [] wr u): Rj w u b4 b5 d:=
 ⟨P.t.trans T,T.ox P.h4,T.ox P.h5,P.dat.turn T,P.a4,P.a5,P.lt⟩
theorem ND.cell{w0 wx:World}{b7 i:Nat}{l l':bI}{v:Value}(P:ND w0 wx b7 l)(hr:l.row.set i v=l'.row)(he:∀u,l.At u→l'.At u)(hf:VV l' w0.heap.size)(hk:l'.Xh=0): ND w0 (wx.setCell ⟨b7,i,none⟩ v) b7 l':=
 ⟨P.t.setCell _ (.inr P.lt),dU P.h7 hr,(P.st.setCell (by simp)).imp he,hf,hk,P.lt⟩
theorem ND.turn{w0 wx u:World}{b7:Nat}{l:bI}(P:ND w0 wx b7 l)(T:bH [] wx u): ND w0 u b7 l:=
 ⟨P.t.trans T,T.ox P.h7,P.st.turn T,P.fr,P.kz,P.lt⟩
def bI.made(l:bI)(id of sp:Int): bI:={ l with id:=id,of:=of,space:=sp }
theorem bI.made_at{l:bI}{u:World}(h:l.At u)(id of sp:Int): (l.made id of sp).At u:=⟨h.kids,h.ks,h.cs,h.pts,h.Xm,h.mask,h.Xk⟩
theorem VV.made{l:bI}{b:Nat}(h:VV l b)(id of sp:Int): VV (l.made id of sp) b:=⟨h.fi,h.fk,h.fc,h.fp⟩
theorem Nh{l:bI}(h:l.Tidy 0)(id of sp:Int){ns:Int}(h0:0≤ns)(hof:l.kind≠4→of=l.of)(hsp:sp=l.space∨l.kind=1∧0≤sp∧sp≤ns): (l.made id of sp).Tidy ns:=
 ⟨h.kind,h.name,h.opac,h.mode,h.place,h.noplace,by
  have:=h.space;show 0≤sp∧sp≤ns;rcases hsp with e | ⟨_,h1,h2⟩
  ·omega
  ·exact⟨h1,h2⟩,fun h1=>by
  rcases hsp with e | ⟨e,_,_⟩
  ·exact⟨e.trans (h.Xp h1).1,(h.Xp h1).2⟩
  exact absurd e h1,h.Xq,fun h4=>(hof h4).trans (h.noof h4),h.Xr,h.Xo,h.path,h.nomask⟩
structure UJ(d:df)(x0 wx:World)(v:Value)(gs:List Int)(q:Nat): Prop where
 t:bH [] x0 wx
 own:Il wx x0.heap.size v gs
 mem:∀z∈gs,∃(j:Nat) (x:bI),z=(j:Int)∧d.layers[j]?=some x∧x.kind=2
 ne:∀(j:Nat) (x:bI),j<q→d.layers[j]?=some x→x.kind=2→gs≠[]
 len:gs.length≤q
theorem UJ.skip{d:df}{x0 wx u:World}{v:Value}{gs:List Int}{q:Nat}(h:UJ d x0 wx v gs q){x:bI}(hx:d.layers[q]?=some x)(hk:x.kind≠2)(T:bH [] wx u): UJ d x0 u v gs (q+1):=
 ⟨h.t.trans T,h.own.turn T,h.mem,fun j y hj hy hy2=>by
  by_cases e:j=q
  ·subst e;rw [hx]at hy;injection hy with hy;subst hy;exact absurd hy2 hk
  exact h.ne j y (by omega) hy hy2,Nat.le_succ_of_le h.len⟩
theorem sH(u:World)(z:Int): dn (u.alloc (.cells #[z] 3)) (some ⟨u,0,none⟩) 1 [z]:=
 ⟨rfl,fun j hj=>⟨_,_,rfl,by
  rw [aA _ _ _ #[z] 3 (0,0) (heap_alloc_new u _),Nat.zero_add];match j,hj with
  | 0,_=>rfl⟩⟩
theorem yZ(z:Int)(V:World): (Instr.buildSlice 22 1 #[(0,z)]).run prog V=.ok (.slice (some ⟨V,0,none⟩) 1 1) (V.alloc (.cells #[z] 3)):=by kernel_rfl
theorem UJ.put{d:df}{x0 wx:World}{v:Value}{gs:List Int}{q:Nat}(h:UJ d x0 wx v gs q)(hq:q≤100){x:bI}(hx:d.layers[q]?=some x)(hk:x.kind=2)(ty:TypeId):
  ∃v' w',(Builtin.append_ #[22,22] ty #[v,.slice (some ⟨wx,0,none⟩) 1 1]).run prog (wx.alloc (.cells #[(q:Int)] 3))=.ok v' w'∧UJ d x0 w' v' (gs ++ [(q:Int)]) (q+1):=by
 have T:=(tR wx).alloc (.cells #[(q:Int)] 3);obtain⟨v',w',e1,e2,e3,e4⟩:=iQ (h.own.turn T) (sH wx (q:Int)) (cap:=1) (by have:=h.t.size;simp;omega) (by have:=h.len;omega) ty;refine⟨v',w',e1,⟨gZ (h.t.trans T) e3 (h.own.turn T) (aQ _),e2,fun z hz=>?_,fun _ _ _ _ _=>by simp,by have:=h.len;simp;omega⟩⟩;rcases aV.1 hz with hz | hz
 ·exact h.mem z hz
 rw [aN]at hz;exact⟨q,x,hz,hx,hk⟩
theorem Aq(u:World): (Instr.alloc 29 true (.tuple #[])).run prog u=.ok (.pointer (some ⟨u,0,none⟩)) (u.alloc (.cells vI 29)):=by kernel_rfl
theorem Ac(A:Option Addr)(n c:Nat)(r x:Int)(B:Option Addr)(m e:Nat)(u:World): (Instr.build 29 #[(0,.slice A n c),(1,r),(2,x),(3,.slice B m e)]).run prog u=.ok (.agg #[.slice A n c,r,x,.slice B m e]) u:=by kernel_rfl
structure JM(w0 wx:World)(b11:Nat)(sA:Option Addr)(sn sc:Nat)(nx:Int)(A:Option Addr)(n c:Nat)(rows:List (List Value)): Prop where
 t:bH [] w0 wx
 h11:wx.heap[b11]?=some (.cells #[.slice sA sn sc,(1:Int),nx,.slice A n c] 29 (0,0))
 own:iK jS wx w0.heap.size (.slice A n c) rows
 nb:b11∉dI (.slice A n c)
 lt:w0.heap.size≤b11
theorem Qg(a b c d e f g h:Int)(u:World): (Instr.build 102 #[(0,a),(1,b),(2,c),(3,d),(4,e),(5,f),(6,g),(7,h)]).run prog u=.ok (.agg #[a,b,c,d,e,f,g,h]) u:=by kernel_rfl
theorem Ih{P:Program}{o:Oper}{a:Act}{w w':World}{t:TypeId}{x0 x1 x2 x3 x4 x5 x6 x7:Operand}{y0 y1 y2 y3 y4 y5 y6 y7 v:Value}(ho:o.op=.build t #[(0,x0),(1,x1),(2,x2),(3,x3),(4,x4),(5,x5),(6,x6),(7,x7)])(h0:a.eval x0=y0)(h1:a.eval x1=y1)(h2:a.eval x2=y2)(h3:a.eval x3=y3)(h4:a.eval x4=y4)(h5:a.eval x5=y5)(h6:a.eval x6=y6)(h7:a.eval x7=y7)
  (hr:(Instr.build t #[(0,y0),(1,y1),(2,y2),(3,y3),(4,y4),(5,y5),(6,y6),(7,y7)]).run P w=.ok v w'):(execOp a.eval o).run P w=.ok (.value v) w':=
 iU ho (by simp [h0,h1,h2,h3,h4,h5,h6,h7]) hr
theorem Ny.mono{d:df}{k m:Nat}(h:Ny d k)(hk:k≤m): Ny d m:=
 ⟨h.tidy,h.ok,h.root,by have:=h.next;omega,by have:=h.ln;omega,fun l hl=>aK (h.kb l hl) hk,h.sn⟩
theorem Uz(w:World): (sizeOf (prog.elem 22)).run prog w=.ok 1 w:=by kernel_rfl
theorem PM:prog.underlying 22=some (.slice (prog.elem 22)):=by kernel_rfl
theorem Lj(A:Option Addr)(n c k:Nat)(hc:k≤c): ∃A',(∀u,(Instr.slice 22 (.slice A n c) none (some (.int .i64 (k:Int))) none).run prog u=.ok (.slice A' k c) u)∧∀u' ks,k≤n→dn u' A n ks→dn u' A' k (ks.take k):=by
 refine⟨if c=0 then A else A.map (·.add (0*1)),fun u=>?_,fun u' ks hk h=>?_⟩
 ·rw [run_slice_h (P:=prog) u 22 A n c PM .i64 (k:Int) (by omega) (by omega),Uz];simp [Result.andThen,sliced]
 refine⟨by rw [List.length_take,←h.1];omega,fun j hj=>?_⟩;obtain⟨g,o,e,hcell⟩:=h.2 j (by omega);have e2:(if c=0 then A else A.map (·.add (0*1)))=some ⟨g,o,none⟩:=by rw [aF (by omega),e];simp [Addr.add_lit]
 refine⟨g,o,e2,?_⟩;rw [hcell];simp [List.getD,hj]
theorem Tt(A:Option Addr)(n c k:Nat)(hk:k≤n): ∃A',(∀u,(Instr.slice 22 (.slice A n c) (some (.int .i64 (k:Int))) none none).run prog u=.ok (.slice A' (n - k) (c - k)) u)∧∀u' ks,n≤c→dn u' A n ks→dn u' A' (n - k) (ks.drop k):=by
 refine⟨if c=k then A else A.map (·.add (k*1)),fun u=>?_,fun u' ks hc h=>?_⟩
 ·rw [run_slice_l (P:=prog) u 22 A n c PM .i64 (k:Int) (by omega) (by omega),Uz];simp [Result.andThen,sliced]
 refine⟨by rw [List.length_drop,←h.1],fun j hj=>?_⟩;obtain⟨g,o,e,hcell⟩:=h.2 (k+j) (by omega);have e2:(if c=k then A else A.map (·.add (k*1)))=some ⟨g,o+k,none⟩:=by rw [aF (by omega),e];simp [Addr.add_lit]
 refine⟨g,o+k,e2,?_⟩;rw [Nat.add_assoc,hcell];simp [List.getD,List.getElem?_drop]
theorem FK{P:Program}{o:Oper}{a:Act}{w w':World}{t:TypeId}{x:Operand}{lo hi:Option Operand}{p v:Value}{l h:Option Value}(ho:o.op=.slice t x lo hi none)(hx:a.eval x=p)(hl:lo.map a.eval=l)(hh:hi.map a.eval=h)(ht:P.underlying t=some (.slice (P.elem t)))
  (hr:(Instr.slice t p l h none).run P w=.ok v w'):(execOp a.eval o).run P w=.ok (.value v) w':=by
 simp only [execOp,ho,hx,hl,hh,Option.map_none,Sem.run_bind,run_sliceAt_slice (P:=P) w t p l h none ht,hr,Result.andThen,Sem.run_pure]
theorem vW{k:kD}{w:World}{base gn on n c g i:Nat}{rows:List (List Value)}{row:List Value}(h:iK k w base (.slice (some ⟨gn,on,none⟩) n c) rows)(hg:rows[g]?=some row)(hi:i<k.size)(v:Value)(hv:v.oneCell'=true):
  iK k (w.setCell ⟨gn,on+g*k.size+i,none⟩ v) base (.slice (some ⟨gn,on,none⟩) n c) (rows.set g (row.set i v)):=by
 have hgl:=(ah.1 hg).1;have hrow:=h.1 row (aH hg);have hR:∀r∈rows.set g (row.set i v),k.Row r:=fun r hr=>by
  rcases List.mem_or_eq_of_mem_set hr with hr | rfl
  ·exact h.1 r hr
  exact⟨by rw [List.length_set];exact hrow.len,fun u hu=>by
   rcases List.mem_or_eq_of_mem_set hu with hu | rfl
   ·exact hrow.one u hu
   exact hv⟩
 have hlen:=oz (fun r hr=>(hR r hr).len);refine⟨hR,hlen,?_⟩;rcases h.2.2 with ⟨e,_⟩ | ⟨g',off,cap,arr,e,hb,hh,hn,hm,hs,hx⟩
 ·cases e
 injection e with e1 e2 e3;injection e1 with e1;injection e1 with e1 e1' _;subst e1;subst e1';refine .inr ⟨gn,on,cap,arr.setIfInBounds (on+g*k.size+i) v,by rw [List.length_set,←e2,←e3],hb,by simp [World.setCell,au,hh],by rw [List.length_set];exact hn,hm,by rw [Array.size_setIfInBounds];exact hs,fun j u hj=>?_⟩;have hjl:j<(rows.set g (row.set i v)).flatten.length:=(ah.1 hj).1;rw [hlen,List.length_set]at hjl;have hq:j / k.size<rows.length:=Nat.div_lt_of_lt_mul (by rw [Nat.mul_comm];exact hjl);have hr:=Nat.mod_lt j k.hs;have he:j / k.size*k.size+j % k.size=j:=by rw [Nat.mul_comm];exact Nat.div_add_mod j k.size
 rw [←he,kP (fun r hr=>(hR r hr).len) _ _ hr]at hj;rw [List.getElem?_set]at hj;by_cases hjg:g=j / k.size
 ·rw [aG hjg,aG (by omega)]at hj;simp only [Option.bind_some]at hj;rw [List.getElem?_set]at hj;by_cases hji:i=j % k.size
  ·rw [aG hji,aG (by rw [hrow.len];exact hi)]at hj;injection hj with hj;subst hj;have hpos:on+j=on+g*k.size+i:=(by rw [hjg,hji];omega);rw [hpos];have hsz:on+g*k.size+i<arr.size:=(by have:j<cap*k.size:=aj hjl (Nat.mul_le_mul_right _ hn);omega);rw [Array.getElem?_setIfInBounds_self_of_lt hsz]
  rw [aF hji]at hj;have hne:on+g*k.size+i≠on+j:=fun hh=>hji (by
   have:g*k.size+i=j:=(by omega);rw [←this,Nat.add_comm,Nat.add_mul_mod_self_right,Nat.mod_eq_of_lt hi])
  rw [Array.getElem?_setIfInBounds_ne hne];refine hx j u ?_;rw [←he,kP (fun r hr=>(h.1 r hr).len) _ _ hr,←hjg,hg];exact hj
 rw [aF hjg]at hj;have hne:on+g*k.size+i≠on+j:=fun hh=>hjg (by
  have:g*k.size+i=j:=by omega
  rw [←this,Nat.add_comm,Nat.add_mul_div_right _ _ k.hs,Nat.div_eq_of_lt hi,Nat.zero_add])
 rw [Array.getElem?_setIfInBounds_ne hne];refine hx j u ?_;rw [←he,kP (fun r hr=>(h.1 r hr).len) _ _ hr];exact hj
theorem JM.turn{w0 wx u:World}{b11:Nat}{sA:Option Addr}{sn sc:Nat}{nx:Int}{A:Option Addr}{n c:Nat}{rows:List (List Value)}(h:JM w0 wx b11 sA sn sc nx A n c rows)(T:bH [] wx u): JM w0 u b11 sA sn sc nx A n c rows:=
 ⟨h.t.trans T,T.ox h.h11,iK.turn h.own T,h.nb,h.lt⟩
theorem dn.keepT{w w':World}{A:Option Addr}{n:Nat}{xs:List Int}{bs:List Nat}(h:dn w A n xs)(T:bH bs w w')(hb:∀a,A=some a→a.block∉bs): dn w' A n xs:=
 ⟨h.1,fun j hj=>by
  obtain⟨g,o,e,hc⟩:=h.2 j hj;refine⟨g,o,e,?_⟩;rw [←hc];simp only [World.cell?,T.old g (ai hc) (hb _ e)]⟩
theorem JM.rowAt{w0 wx:World}{b11:Nat}{sA:Option Addr}{sn sc:Nat}{nx:Int}{A:Option Addr}{n c g:Nat}{ls:List bI}{x:bI}(h:JM w0 wx b11 sA sn sc nx A n c (ls.map bI.row))(hx:ls[g]?=some x):
  ∃gn on,A=some ⟨gn,on,none⟩∧n=ls.length∧gn≠b11∧∀u,bH [] wx u→u.rangeAt gn (on+g*31) x.row:=by
 have hr:(ls.map bI.row)[g]?=some x.row:=by rw [aP,hx];rfl
 rcases iK.form h.own with ⟨_,h0⟩ | ⟨gn,on,cap,e,_,_,_,hrow⟩
 ·rw [h0]at hr;simp at hr
 injection e with e1 e2 e3;have hnb:=h.nb;rw [e1]at hnb;exact⟨gn,on,e1,by rw [e2,aJ],fun hh=>hnb (by simp [dI,Value.ownBlock,hh]),fun u t=>fJ t (hrow g _ hr)⟩
theorem df.At.kidsAt{d:df}{w:World}(h:d.At w){g:Nat}{x:bI}(hx:d.layers[g]?=some x): dn w x.Xi x.Xh x.kids:=(h.layers.2 g x hx).1.kids
theorem Il.capLe{w:World}{base:Nat}{A:Option Addr}{n c:Nat}{xs:List Int}(h:Il w base (.slice A n c) xs): n≤c:=by
 rcases h.form with ⟨e,_⟩ | ⟨g,o,cap,e,_,_,hl,_⟩
 ·injection e with _ e2 e3;omega
 injection e with _ e2 e3;omega
theorem Gj{l:bI}{u:World}(h:l.At u){A:Option Addr}{n c:Nat}{ks:List Int}(hk:dn u A n ks)(hn:n≤50): (l.Xn A n c ks).At u:=⟨hk,h.ks,h.cs,h.pts,h.Xm,h.mask,hn⟩
theorem TM{d:df}{u:World}(h:d.At u){A kA:Option Addr}{c kn kc g base:Nat}{nx:Int}{ks:List Int}{x l:bI}(hg:d.layers[g]?=some x)(hk:dn u kA kn ks)(hkn:kn≤50)(hl:l.At u)(hs:d.ln+1≤50)
  (ho:iK jS u base (.slice A (d.ln+1) c) ((d.layers.map bI.row).set g (x.Xn kA kn kc ks).row ++ [l.row])):(d.grow A c nx g (x.Xn kA kn kc ks) l).At u:=by
 have hlen:(d.layers.set g (x.Xn kA kn kc ks) ++ [l]).map bI.row=(d.layers.map bI.row).set g (x.Xn kA kn kc ks).row ++ [l.row]:=by rw [List.map_append,List.map_set];rfl
 rw [←hlen]at ho;have hr:=(iK.rowsAt ho).1;refine⟨h.spaces,⟨by show d.ln+1=_;simp [df.grow,h.layers.1],fun j y hj=>?_⟩,hs⟩;have hrow:((d.layers.set g (x.Xn kA kn kc ks) ++ [l]).map bI.row)[j]?=some y.row:=by rw [aP];show Option.map bI.row (d.layers.set g (x.Xn kA kn kc ks) ++ [l])[j]?=_;rw [show (d.layers.set g (x.Xn kA kn kc ks) ++ [l])[j]?=some y from hj];rfl
 refine⟨?_,hr j _ hrow⟩;have hm:y∈d.layers.set g (x.Xn kA kn kc ks) ++ [l]:=aH hj;rcases aV.1 hm with hm | hm
 ·rcases List.mem_or_eq_of_mem_set hm with hm | rfl
  ·obtain⟨i,hi⟩:=bu.1 hm;exact (h.layers.2 i y hi).1
  exact Gj (h.layers.2 g x hg).1 hk hkn
 rw [aN]at hm;subst hm;exact hl
theorem SY{d:df}{b:Nat}(h:d.Av b){A kA:Option Addr}{c kn kc g:Nat}{nx:Int}{ks:List Int}{x l:bI}(hg:d.layers[g]?=some x)(hA:FN A b)(hk:FN kA b)(hl:l.Av b): (d.grow A c nx g (x.Xn kA kn kc ks) l).Av b:=by
 refine⟨h.s,hA,h.ss,fun y hm=>?_⟩;have hm:y∈d.layers.set g (x.Xn kA kn kc ks) ++ [l]:=hm;rcases aV.1 hm with hm | hm
 ·rcases List.mem_or_eq_of_mem_set hm with hm | rfl
  ·exact h.ls y hm
  have hx:=h.ls x (aH hg);exact⟨hk,hx.fk,hx.fc,hx.fp⟩
 rw [aN]at hm;subst hm;exact hl
theorem Qp{d:df}{k:Nat}(h:Ny d k)(hk8:k≤8){A kA:Option Addr}{c kn kc g:Nat}{nb:Int}{ks:List Int}{x l:bI}(hg:d.layers[g]?=some x)(hx:x.kind=2)(hid:l.id=d.next)(hl:l.Tidy d.sn)(h0:0≤nb)(h1:nb≤1)(hkn:kn≤k+1)(hlk:l.Xh=0)
  (hok:(d.grow A c (d.next+1+nb) g (x.Xn kA kn kc ks) l).Ok):Ny (d.grow A c (d.next+1+nb) g (x.Xn kA kn kc ks) l) (k+1):=by
 have hn:=h.next;have hln:=h.ln;refine⟨D8 h.tidy hg hx hid hl (by omega) (by omega) (by omega),hok,h.root,by show d.next+1+nb≤_;omega,by show d.ln+1≤_;omega,fun y hm=>?_,h.sn⟩;have hm:y∈d.layers.set g (x.Xn kA kn kc ks) ++ [l]:=hm;rcases aV.1 hm with hm | hm
 ·rcases List.mem_or_eq_of_mem_set hm with hm | rfl
  ·exact Nat.le_succ_of_le (h.kb y hm)
  exact hkn
 rw [aN]at hm;subst hm;omega
abbrev V1:=Value
theorem UR{J:Act→World→Prop}{R:V1→V1→V1→V1→V1→V1→V1→V1→V1→V1→V1→V1→V1→V1→V1→V1→V1→V1→V1→V1→V1→V1→V1→V1→V1→V1→V1→V1→V1→V1→V1→V1→V1→V1→V1→V1→V1→V1→V1→V1→V1→V1→V1→V1→V1→V1→V1→V1→V1→V1→V1→V1→V1→V1→V1→V1→V1→V1→V1→V1→V1→V1→V1→V1→V1→V1→V1→V1→V1→V1→V1→V1→V1→V1→V1→V1→V1→V1→V1→V1→V1→V1→V1→V1→V1→V1→V1→V1→V1→V1→V1→V1→V1→V1→V1→V1→V1→V1→V1→V1→V1→V1→V1→V1→V1→V1→V1→V1→V1→V1→V1→V1→V1→V1→V1→V1→V1→V1→V1→V1→V1→V1→V1→V1→V1→V1→V1→V1→V1→V1→V1→V1→V1→V1→V1→V1→V1→V1→V1→V1→V1→V1→V1→V1→V1→V1→V1→V1→V1→V1→V1→V1→V1→V1→V1→V1→V1→V1→V1→V1→V1→V1→V1→V1→V1→V1→V1→V1→V1→V1→V1→V1→V1→V1→V1→V1→V1→V1→V1→V1→V1→V1→V1→V1→V1→V1→V1→V1→V1→V1→V1→Act→World→Prop}(h:∀a w,(∃b c d e f g i j k l m n o p q r s t v x y z B C D E F G H I K L M N O S T U W X Y Z b0 b1 b2 b3 b4 b5 b6 b7 b8 b9 c0 c1 c2 c3 c4 c5 c6 c7 c8 c9 d0 d1 d2 d3 d4 d5 d6 d7 d8 d9 e0 e1 e2 e3 e4 e5 e6 e7 e8 e9 f0 f1 f2 f3 f4 f5 f6 f7 f8 f9 g0 g1 g2 g3 g4 g5 g6 g7 g8 g9 i0 i1 i2 i3 i4 i5 i6 i7 i8 i9 j0 j1 j2 j3 j4 j5 j6 j7 j8 j9 k0 k1 k2 k3 k4 k5 k6 k7 k8 k9 l0 l1 l2 l3 l4 l5 l6 l7 l8 l9 m0 m1 m2 m3 m4 m5 m6 m7 m8 m9 n0 n1 n2 n3 n4 n5 n6 n7 n8 n9 o0 o1 o2 o3 o4 o5 o6 o7 o8 o9 p0 p1 p2 p3 p4 p5 p6 p7 p8 p9 q0 q1 q2 q3 q4 q5 q6 q7 q8:Value,R b c d e f g i j k l m n o p q r s t v x y z B C D E F G H I K L M N O S T U W X Y Z b0 b1 b2 b3 b4 b5 b6 b7 b8 b9 c0 c1 c2 c3 c4 c5 c6 c7 c8 c9 d0 d1 d2 d3 d4 d5 d6 d7 d8 d9 e0 e1 e2 e3 e4 e5 e6 e7 e8 e9 f0 f1 f2 f3 f4 f5 f6 f7 f8 f9 g0 g1 g2 g3 g4 g5 g6 g7 g8 g9 i0 i1 i2 i3 i4 i5 i6 i7 i8 i9 j0 j1 j2 j3 j4 j5 j6 j7 j8 j9 k0 k1 k2 k3 k4 k5 k6 k7 k8 k9 l0 l1 l2 l3 l4 l5 l6 l7 l8 l9 m0 m1 m2 m3 m4 m5 m6 m7 m8 m9 n0 n1 n2 n3 n4 n5 n6 n7 n8 n9 o0 o1 o2 o3 o4 o5 o6 o7 o8 o9 p0 p1 p2 p3 p4 p5 p6 p7 p8 p9 q0 q1 q2 q3 q4 q5 q6 q7 q8 a w)→J a w) ⦃b c d e f g i j k l m n o p q r s t v x y z B C D E F G H I K L M N O S T U W X Y Z b0 b1 b2 b3 b4 b5 b6 b7 b8 b9 c0 c1 c2 c3 c4 c5 c6 c7 c8 c9 d0 d1 d2 d3 d4 d5 d6 d7 d8 d9 e0 e1 e2 e3 e4 e5 e6 e7 e8 e9 f0 f1 f2 f3 f4 f5 f6 f7 f8 f9 g0 g1 g2 g3 g4 g5 g6 g7 g8 g9 i0 i1 i2 i3 i4 i5 i6 i7 i8 i9 j0 j1 j2 j3 j4 j5 j6 j7 j8 j9 k0 k1 k2 k3 k4 k5 k6 k7 k8 k9 l0 l1 l2 l3 l4 l5 l6 l7 l8 l9 m0 m1 m2 m3 m4 m5 m6 m7 m8 m9 n0 n1 n2 n3 n4 n5 n6 n7 n8 n9 o0 o1 o2 o3 o4 o5 o6 o7 o8 o9 p0 p1 p2 p3 p4 p5 p6 p7 p8 p9 q0 q1 q2 q3 q4 q5 q6 q7 q8:Value⦄ ⦃a:Act⦄ ⦃w:World⦄ (hr:R b c d e f g i j k l m n o p q r s t v x y z B C D E F G H I K L M N O S T U W X Y Z b0 b1 b2 b3 b4 b5 b6 b7 b8 b9 c0 c1 c2 c3 c4 c5 c6 c7 c8 c9 d0 d1 d2 d3 d4 d5 d6 d7 d8 d9 e0 e1 e2 e3 e4 e5 e6 e7 e8 e9 f0 f1 f2 f3 f4 f5 f6 f7 f8 f9 g0 g1 g2 g3 g4 g5 g6 g7 g8 g9 i0 i1 i2 i3 i4 i5 i6 i7 i8 i9 j0 j1 j2 j3 j4 j5 j6 j7 j8 j9 k0 k1 k2 k3 k4 k5 k6 k7 k8 k9 l0 l1 l2 l3 l4 l5 l6 l7 l8 l9 m0 m1 m2 m3 m4 m5 m6 m7 m8 m9 n0 n1 n2 n3 n4 n5 n6 n7 n8 n9 o0 o1 o2 o3 o4 o5 o6 o7 o8 o9 p0 p1 p2 p3 p4 p5 p6 p7 p8 p9 q0 q1 q2 q3 q4 q5 q6 q7 q8 a w):J a w:=h a w ⟨_,_,_,_,_,_,_,_,_,_,_,_,_,_,_,_,_,_,_,_,_,_,_,_,_,_,_,_,_,_,_,_,_,_,_,_,_,_,_,_,_,_,_,_,_,_,_,_,_,_,_,_,_,_,_,_,_,_,_,_,_,_,_,_,_,_,_,_,_,_,_,_,_,_,_,_,_,_,_,_,_,_,_,_,_,_,_,_,_,_,_,_,_,_,_,_,_,_,_,_,_,_,_,_,_,_,_,_,_,_,_,_,_,_,_,_,_,_,_,_,_,_,_,_,_,_,_,_,_,_,_,_,_,_,_,_,_,_,_,_,_,_,_,_,_,_,_,_,_,_,_,_,_,_,_,_,_,_,_,_,_,_,_,_,_,_,_,_,_,_,_,_,_,_,_,_,_,_,_,_,_,_,_,_,_,_,_,_,_,_,_,hr⟩
theorem LY{i k m n:Nat}(h:i+9≤n∧k<m∧i=9*k): 9*m - ((9*(k+1):Nat):Int).toNat<9*m - ((i:Nat):Int).toNat:=by obtain⟨_,h1,rfl⟩:=h;omega
theorem L6{i k m n:Nat}(h:i+9≤n∧k<m∧i=9*k)(hm:m≤8): wrap64 ((i:Int)+9)=((9*(k+1):Nat):Int):=by rw [gV (by omega) (by omega)];omega
theorem SH(e i:Int)(w:World)(P:Program)(hP:P=prog)(a:Act)(x:Operand)(hx:a.eval x=.agg #[e,i])(d:Option Tmp)(ty:TypeId)(pos:String)(af:Array Edge)(g:Option (Tmp×Bool)):
  (execOp a.eval ⟨d,.field 104 x 0,ty,pos,af,g⟩).run P w=.ok (.value e) w:=by
 subst hP;simp only [execOp,hx];kernel_rfl
theorem Lp(k:IntKind)(x:Int): intOf (Value.int k x)=x:=rfl
theorem JP{i k m n:Nat}(e:wrap64 ((i:Int)+9)=((9*(k+1):Nat):Int))(h:i+9≤n∧k<m∧i=9*k): 9*m - (intOf (Value.int IntKind.i64 (wrap64 ((i:Int)+9)))).toNat<9*m - (intOf (Value.int IntKind.i64 (i:Int))).toNat:=by rw [Lp,Lp,e];exact LY h
structure WG(w wr X9:World)(b4 b5 b11 k:Nat)(d nn:df): Prop where
 tidy:nn.Tidy
 dat:nn.At X9
 h11:X9.heap[b11]?=some (.cells ⟨nn.row⟩ 29 (0,0))
 mdd:nn.Ok→Ny nn (k+1)
 a4:nn.Av b4
 a5:nn.Av b5
theorem Nv{w w0 wr X9:World}{b4 b5 b7 b11 g k base kn kc c24 at_:Nat}{nb:Int}{d:df}{xg ll:bI}{A24 kA:Option Addr}(HD:Ny d k)(hk:k≤8)(hg:d.layers[g]?=some xg)(hx:xg.kind=2)(hid:ll.id=d.next)(hl:ll.Tidy d.sn)
  (hnb:0≤nb∧nb≤1) (HM:ND w0 wr b7 ll) (HP:Rj w wr b4 b5 d) (hw4:b4<w0.heap.size) (hw5:b5<w0.heap.size) (hb:wr.heap.size≤base) (hkn:kn=xg.kids.length+1) (hkx:xg.Xh=xg.kids.length)
  (hAT:(d.grow A24 c24 (d.next+1+nb) g (xg.Xn kA kn kc (xg.kids.take at_ ++ [d.next] ++ xg.kids.drop at_)) ll).At X9)
  (h11:X9.heap[b11]?=some (.cells #[.slice d.sA d.sn d.sc,(1:Int),.int .i64 (d.next+1+nb),.slice A24 (d.ln+1) c24] 29 (0,0)))
  (hA:∀a,A24=some a→wr.heap.size≤a.block) (hkA:∀a,kA=some a→base≤a.block):∃nn:df,WG w wr X9 b4 b5 b11 k d nn:=by
 have h1:=HD.next;have h2:=HD.ln;have hwr4:=(ae.1 HP.h4).1;have hwr5:=(ae.1 HP.h5).1;have hav:∀b,b<wr.heap.size→b<w0.heap.size→d.Av b→(d.grow A24 c24 (d.next+1+nb) g (xg.Xn kA kn kc (xg.kids.take at_ ++ [d.next] ++ xg.kids.drop at_)) ll).Av b:=fun b hb hb0 hd=>
  SY hd hg (fun a ha e=>by have:=hA a ha;omega) (fun a ha e=>by have:=hkA a ha;omega) ⟨.of HM.fr.fi hb0,.of HM.fr.fk hb0,.of HM.fr.fc hb0,.of HM.fr.fp hb0⟩
 refine⟨_,D8 HD.tidy hg hx hid hl (by omega) (by omega) (by omega),hAT,?_,fun hok=>?_,hav b4 hwr4 hw4 HP.a4,hav b5 hwr5 hw5 HP.a5⟩
 ·rw [h11];show some (Obj.cells #[.slice d.sA d.sn d.sc,(1:Int),.int .i64 (d.next+1+nb),.slice A24 (d.ln+1) c24] 29 (0,0))=some (Obj.cells #[.slice d.sA d.sn d.sc,d.root,.int .i64 (d.next+1+nb),.slice A24 (d.ln+1) c24] 29 (0,0));rw [HD.root]
 have h5:=HD.kb xg (aH hg);exact Qp HD (by omega) hg hx hid hl hnb.1 hnb.2 (by omega) HM.kz hok
end Go.Proofs.YtbpklgllihhgpaaGreat
