import Derived.ArgAppend
import Derived.Test.YtbpklgllihhgpaaGreatA16
set_option maxRecDepth 100000
set_option maxHeartbeats 16000000
namespace Go.Proofs.YtbpklgllihhgpaaGreat
open Tryz Go.RowKit Go.Den
section
open Go.RowKit
def qJ(w:World)(base:Nat)(e:TypeId)(size:Nat)(v:Value)(n:Nat)(xs:List Value): Prop:=
 xs.length=n*size∧((v=.slice none 0 0∧n=0)∨∃g off cap arr,v=.slice (some ⟨g,off,none⟩) n cap∧base≤g∧w.heap[g]?=some (.cells arr e (0,0))∧n≤cap∧cap≤maxLen∧
  off+cap*size≤arr.size∧∀j u,xs[j]?=some u→arr[off+j]?=some u)
def dI(v:Value): List Nat:=v.ownBlock.toList
theorem qJ.of_own{w:World}{base:Nat}{e:TypeId}{size n:Nat}{v:Value}{xs:List Value}(h:w.ownsRow base e size v n xs): qJ w base e size v n xs:=by
 refine⟨h.1,?_⟩;rcases h.2 with h2 | ⟨g,cap,cur,rfl,hb,hh,h3,h4,h5,h6⟩
 ·exact .inl h2
 refine .inr ⟨g,0,cap,cur,rfl,hb,hh,h3,h4,by omega,fun j u hu=>?_⟩;rw [←h6,List.getElem?_take]at hu;split at hu
 ·rw [Nat.zero_add,←Array.getElem?_toList];exact hu
 cases hu
theorem qJ.nil(w:World)(base:Nat)(e:TypeId)(size:Nat): qJ w base e size (.slice none 0 0) 0 []:=⟨by simp,.inl ⟨rfl,rfl⟩⟩
theorem qJ.keep{w w':World}{base:Nat}{e:TypeId}{size n:Nat}{v:Value}{xs:List Value}(h:qJ w base e size v n xs)(hk:∀g∈dI v,w'.heap[g]?=w.heap[g]?): qJ w' base e size v n xs:=by
 refine⟨h.1,?_⟩;rcases h.2 with h2 | ⟨g,off,cap,arr,rfl,hb,hh,h3⟩
 ·exact .inl h2
 exact .inr ⟨g,off,cap,arr,rfl,hb,(hk g (by simp [dI,Value.ownBlock])).trans hh,h3⟩
theorem qJ.lt{w:World}{base:Nat}{e:TypeId}{size n:Nat}{v:Value}{xs:List Value}(h:qJ w base e size v n xs): ∀g∈dI v,base≤g∧g<w.heap.size∧∃arr,w.heap[g]?=some (.cells arr e (0,0)):=by
 rcases h.2 with ⟨rfl,_⟩ | ⟨g,off,cap,arr,rfl,hb,hh,h3⟩
 ·simp [dI,Value.ownBlock]
 intro k hk;obtain rfl:k=g:=by simpa [dI,Value.ownBlock]using hk
 refine⟨hb,?_,arr,hh⟩;rcases Nat.lt_or_ge k w.heap.size with hlt | hge
 ·exact hlt
 rw [Array.getElem?_eq_none hge]at hh;cases hh
theorem CJ{w w':World}{v:Value}(h:w.grownBy w' v.ownBlock): bH (dI v) w w':=
 ⟨h.size,fun j hj hn=>h.block j hj fun e=>hn (by simp [dI,←e]),h.os,h.tape,h.output⟩
theorem uq(b:Nat): ∀(vs:List Value) (o:Nat) (w:World) (arr:Array Value) (e:TypeId) (fz:Nat×Nat),w.heap[b]?=some (.cells arr e fz)→o+vs.length≤arr.size→
  ∃arr',(w.setCells b o vs).heap[b]?=some (.cells arr' e fz)∧arr'.size=arr.size∧(∀j,j<o→arr'[j]?=arr[j]?)∧(∀j u,vs[j]?=some u→arr'[o+j]?=some u)∧bH [b] w (w.setCells b o vs)
 | [],o,w,arr,e,fz,h,_=>⟨arr,h,rfl,fun _ _=>rfl,by simp,bH.refl _ _⟩
 | v :: vs,o,w,arr,e,fz,h,hl=>by
  have h1:(w.setCell ⟨b,o,none⟩ v).heap[b]?=some (.cells (arr.setIfInBounds o v) e fz):=by simp [World.setCell,au,h]
  rw [List.length_cons]at hl;obtain⟨arr',a1,a2,a3,a4,a5⟩:=uq b vs (o+1) (w.setCell ⟨b,o,none⟩ v) _ e fz h1 (by rw [Array.size_setIfInBounds];omega);refine⟨arr',a1,by rw [a2,Array.size_setIfInBounds],fun j hj=>?_,fun j u hu=>?_,?_⟩
  ·rw [a3 j (by omega),Array.getElem?_setIfInBounds_ne (by omega)]
  ·cases j with
   | zero=>
    rw [List.getElem?_cons_zero]at hu;injection hu with hu;subst hu;rw [Nat.add_zero,a3 o (by omega),Array.getElem?_setIfInBounds_self_of_lt (by omega)]
   | succ j=>
    rw [List.getElem?_cons_succ]at hu;rw [←a4 j u hu];congr 1;omega
  have b1:bH [b] w (w.setCell ⟨b,o,none⟩ v):=⟨by simp [World.setCell],fun j _ hj=>by
   simp only [aN]at hj;simp only [World.setCell,au,Ne.symm hj,if_false],rfl,rfl,rfl⟩
  exact b1.trans a5
theorem oq{P:Program}{w:World}{base:Nat}{t ty e:TypeId}{i:TypeInfo}{z:Value}{size bytes:Nat}(ht:P.underlying t=some (.slice e))(hi:P.info? e=some i)(hz:i.zero=some z)
  (hsize:i.size=size) (hby:i.bytes=bytes) (hzs:z.cells.size=size) (hsz:0<size) {v:Value} {n:Nat} {xs:List Value} (h:qJ w base e size v n xs)
  (a:Addr) (m c:Nat) (news:List Value) (hl:news.length=m*size) (hnews:∀j u,news[j]?=some u→w.cell? (a.add j)=some u) (h1:∀u∈news,u.oneCell'=true)
  (h63:n+m≤maxLen) (hbytes:(n+m)*bytes≤140737488355328) (hbase:base≤w.heap.size) :
  ∃v' w',(Builtin.append_ #[t,t] ty #[v,.slice (some a) m c]).run P w=.ok v' w'∧qJ w' base e size v' (n+m) (xs ++ news)∧bH (dI v) w w'∧(∀g∈dI v',g∈dI v∨w.heap.size≤g):=by
 have hnew:∀{w':World} {v':Value} {k:Nat} {ys:List Value},w'.ownsRow w.heap.size e size v' k ys→∀g∈dI v',g∈dI v∨w.heap.size≤g:=fun h g hg=>.inr ((qJ.of_own h).lt g hg).1;rcases h.2 with ⟨rfl,rfl⟩ | ⟨g,off,cap,arr,rfl,hb,hh,h3,h4,h5,h6⟩
 ·have hx:xs=[]:=List.eq_nil_of_length_eq_zero (by simpa using h.1);subst hx;obtain⟨v',w',e1,e2,e3,_⟩:=run_append_own w w.heap.size t ty e i z size bytes ht hi hz hsize hby hzs hsz (.slice none 0 0) 0 [] ⟨by simp,.inl ⟨rfl,rfl⟩⟩ a m c news hl hnews h1 h63 hbytes (aQ _);have e4:=qJ.of_own e2;refine⟨v',w',e1,⟨e4.1,?_⟩,CJ (v:=.slice none 0 0) e3,hnew e2⟩;rcases e4.2 with q | ⟨g,off,cap,arr,q1,q2,q3⟩
  ·exact .inl q
  exact .inr ⟨g,off,cap,arr,q1,by omega,q3⟩
 have holds:∀j u,xs[j]?=some u→w.cell? ((⟨g,off,none⟩:Addr).add j)=some u:=by intro j u hu;rw [Addr.add_lit,aA w g (off+j) arr e (0,0) hh];exact h6 j u hu
 by_cases hroom:n+m≤cap
 ·have hm:n*size+m*size≤cap*size:=by rw [←Nat.add_mul];exact Nat.mul_le_mul_right _ hroom
  have e1:=run_append_room_cells (P:=P) w t ty e i ht hi g off n cap a m c news (by rw [hsize];exact hl) hnews h1 hroom (fun j hj=>by
   rw [aA w g _ arr e (0,0) hh,hsize,Array.getElem?_eq_getElem (by omega)];rfl) (fun j hj=>by simp [World.frozen?,hh])
  rw [hsize]at e1;obtain⟨arr',a1,a2,a3,a4,a5⟩:=uq g news (off+n*size) w arr e (0,0) hh (by omega);refine⟨_,_,e1,⟨by rw [aO,h.1,hl,Nat.add_mul],.inr ⟨g,off,cap,arr',rfl,hb,a1,hroom,h4,by omega,fun j u hu=>?_⟩⟩,?_,fun k hk=>.inl (by simpa [dI,Value.ownBlock]using hk)⟩
  ·have hx:=h.1;by_cases hj:j<xs.length
   ·rw [bD hj]at hu;rw [a3 _ (by omega)];exact h6 j u hu
   rw [bG (by omega)]at hu;rw [←a4 _ u hu];congr 1;omega
  simpa [dI,Value.ownBlock]using a5
 obtain⟨v',w',e1,e2,e3⟩:=run_append_arg_grows (P:=P) w t ty e i z size bytes ht hi hz hsize hby hzs hsz ⟨g,off,none⟩ n cap xs h.1 holds a m c news hl hnews (by omega) h63 hbytes;have e4:=qJ.of_own e2;refine⟨v',w',e1,⟨e4.1,?_⟩,⟨e3.size,fun j hj _=>e3.block j hj (by simp),e3.os,e3.tape,e3.output⟩,hnew e2⟩;rcases e4.2 with q | ⟨g,off,cap,arr,q1,q2,q3⟩
 ·exact .inl q
 exact .inr ⟨g,off,cap,arr,q1,by omega,q3⟩
end
structure Rc.InC(r:Rc): Prop where
 a0:-65536≤r.x0
 a1:r.x0<r.x1
 a2:r.x1≤65536
 b0:-65536≤r.y0
 b1:r.y0<r.y1
 b2:r.y1≤65536
theorem Rc.InC.full{r:Rc}(h:r.InC): r.empty=false:=by have:=h.a1;have:=h.b1;unfold Rc.empty;simp only [Bool.or_eq_false_iff,decide_eq_false_iff_not];omega
def Rc.cv:Rc:=⟨-65536,-65536,65536,65536⟩
theorem Jw(r:Rc)(h:r.InC)(w:World): Calls prog 130 #[r.v] w fun e w'=>e=.returned (.bool true)∧bH [] w w':=by
 have hE:=fun w=>iM r w;rw [h.full]at hE;have HE:=lh hE;obtain⟨a0,a1,a2,b0,b1,b2⟩:=h;obtain⟨x0,y0,x1,y1⟩:=r;unfold Rc.v at *;simp only at *;obtain⟨W,hW⟩:∃W,W=w.alloc (.cells #[x0,y0,x1,y1] 24):=⟨_,rfl⟩;have T0:bH [] w W:=hW ▸ (tR w).alloc _;have hWs:w.heap.size+1≤W.heap.size:=by rw [hW];simp
 obtain⟨r0,r1,r2,r3⟩:=GX (Rf hW);clear hE;go_enter func130,ntmps130;go_upto_region 1 with (fail)
 rw [←hW];clear hW;go_upto_region 2 with (go_at_call 46;(with_reducible refine (HE.o _).mono ?_);rintro e w1 ⟨rfl,ht1⟩)
 obtain⟨hc,hf⟩:=bY ht1;have q0:=tq hc r0;have q1:=tq hc r1;have q2:=tq hc r2;have q3:=tq hc r3;have T1:=lh (T0.trans ht1);clear hc hf ht1 T0 r0 r1 r2 r3;go_wp2_with fail
 go_ret;exact⟨rfl,T1.out⟩
theorem IQ(r:Rc)(h:r.InC)(w:World): Calls prog 200 #[r.v,Rc.cv.v] w fun e w'=>e=.returned (.bool true)∧bH [] w w':=by
 have hE:=fun w=>iF r w;rw [h.full]at hE;have HE:=lh hE;obtain⟨a0,a1,a2,b0,b1,b2⟩:=h;obtain⟨x0,y0,x1,y1⟩:=r;unfold Rc.v Rc.cv at *;simp only at *;obtain⟨W,hW⟩:∃W,W=(w.alloc (.cells #[x0,y0,x1,y1] 24)).alloc (.cells #[.int .i64 (-65536),.int .i64 (-65536),(65536:Int),(65536:Int)] 24):=⟨_,rfl⟩;have T0:bH [] w W:=hW ▸ ((tR w).alloc _).alloc _;have hWs:w.heap.size+2≤W.heap.size:=by rw [hW];simp
 obtain⟨r0,r1,r2,r3⟩:=GX (JK hW).1;obtain⟨s0,s1,s2,s3⟩:=GX (JK hW).2;clear hE;go_enter func200,ntmps200;go_upto_region 1 with (fail)
 rw [←hW];clear hW;go_wp2_with (go_at_call 18;(with_reducible refine (HE.o _).mono ?_);rintro e w1 ⟨rfl,ht1⟩;obtain⟨hc,hf⟩:=bY ht1;have q0:=tq hc r0;have q1:=tq hc r1;have q2:=tq hc r2;have q3:=tq hc r3;have p0:=tq hc s0;have p1:=tq hc s1;have p2:=tq hc s2;have p3:=tq hc s3;have T1:=lh (T0.trans ht1);clear hc hf ht1 T0 r0 r1 r2 r3 s0 s1 s2 s3)
 go_ret;exact⟨rfl,T1.out⟩
theorem IK(r:Rc)(h:r.InC)(w:World): Calls prog 176 #[r.v] w fun e w'=>e=.returned (.bool true)∧bH [] w w':=by
 have hE:=fun w=>iF r w;rw [h.full]at hE;have HE:=lh hE;have HI:=lh (IQ r h);clear h;obtain⟨x0,y0,x1,y1⟩:=r;unfold Rc.v Rc.cv at *;simp only at *;obtain⟨W,hW⟩:∃W,W=w.alloc (.cells #[x0,y0,x1,y1] 24):=⟨_,rfl⟩;have T0:bH [] w W:=hW ▸ (tR w).alloc _;have hWs:w.heap.size+1≤W.heap.size:=by rw [hW];simp
 obtain⟨r0,r1,r2,r3⟩:=GX (Rf hW);clear hE;go_enter func176,ntmps176;go_upto_region 1 with (fail)
 rw [←hW];clear hW;go_wp2_with (first
  | (go_at_call 18;(with_reducible refine (HE.o _).mono ?_);rintro e w1 ⟨rfl,ht1⟩;obtain⟨hc,hf⟩:=bY ht1;have q0:=tq hc r0;have q1:=tq hc r1;have q2:=tq hc r2;have q3:=tq hc r3;have T1:=lh (T0.trans ht1);clear hc hf ht1 T0 r0 r1 r2 r3)
  | (go_at_call 200;(with_reducible refine (HI.o _).mono ?_);rintro e w2 ⟨rfl,ht2⟩))
 go_ret;exact⟨rfl,T1.out.trans ht2⟩
def Rc.can(r:Rc): Rc:=r.meet Rc.cv
theorem Rc.can_cases(r:Rc): r.can=Rc.zero∨r.can.InC:=by
 unfold Rc.can Rc.meet Rc.norm;split
 ·exact .inl rfl
 rename_i h;unfold Rc.empty at h;simp only [Bool.or_eq_true,decide_eq_true_eq,not_or]at h;simp only [Rc.cv]at h;exact .inr ⟨by simp only [Rc.cv];omega,by simp only [Rc.cv];omega,by simp only [Rc.cv];omega,by simp only [Rc.cv];omega,by simp only [Rc.cv];omega,by simp only [Rc.cv];omega⟩
theorem Rc.InC.bd{r:Rc}(h:r.InC): r.bd:=by obtain⟨a,b,c,d,e,f⟩:=h;unfold Rc.bd;omega
theorem Rc.InC.can{r:Rc}(h:r.InC): r.can=r:=by
 obtain⟨x0,y0,x1,y1⟩:=r;obtain⟨a,b,c,d,e,f⟩:=h;simp only at *;unfold Rc.can Rc.meet Rc.cv;have h1:max x0 (-65536)=x0:=by omega
 have h2:max y0 (-65536)=y0:=by omega
 have h3:min x1 65536=x1:=by omega
 have h4:min y1 65536=y1:=by omega
 simp only [h1,h2,h3,h4];unfold Rc.norm Rc.empty;rw [aF];simp only [Bool.or_eq_true,decide_eq_true_eq];omega
theorem uY(r:Rc)(w:World): Calls prog 19 #[r.v] w fun e w'=>e=.returned r.can.v∧bH [] w w':=by
 have hn:=Gl r Rc.cv;rw [show r.meet Rc.cv=r.can from rfl]at hn;generalize r.can=m at *;obtain⟨x0,y0,x1,y1⟩:=r;obtain⟨m0,m1,m2,m3⟩:=m;simp only [Rc.v,Rc.cv]at *;have HN:=lh hn;clear hn;have T0:bH [] _ _:=((tR w).alloc (.cells #[x0,y0,x1,y1] 24)).alloc (.cells #[(0:Int),(0:Int),(0:Int),(0:Int)] 24);have TT:=T0.here;go_enter func19,ntmps19;go_wp2_with (go_at_call 54;refine TT.call (HN.o _) ?_;intro w1 TT hc hf)
 have TT:=T0.trans TT;exact ag (v:=.agg #[m0,m1,m2,m3]) (by simp [results,results19,go_sem,hc]) rfl ⟨rfl,((((TT.sc).sc).sc).sc)⟩
theorem pz(r:Rc)(w:World): Calls prog 40 #[r.v] w fun e w'=>e=.returned r.can.v∧bH [] w w':=by
 have hn:=xJ r Rc.cv;rw [show r.meet Rc.cv=r.can from rfl]at hn;generalize r.can=m at *;obtain⟨x0,y0,x1,y1⟩:=r;obtain⟨m0,m1,m2,m3⟩:=m;simp only [Rc.v,Rc.cv]at *;have HN:=lh hn;clear hn;have T0:bH [] _ _:=((tR w).alloc (.cells #[x0,y0,x1,y1] 24)).alloc (.cells #[(0:Int),(0:Int),(0:Int),(0:Int)] 24);have TT:=T0.here;go_enter func40,ntmps40;go_wp2_with (go_at_call 78;refine TT.call (HN.o _) ?_;intro w1 TT hc hf)
 have TT:=T0.trans TT;exact ag (v:=.agg #[m0,m1,m2,m3]) (by simp [results,results40,go_sem,hc]) rfl ⟨rfl,((((TT.sc).sc).sc).sc)⟩
end Go.Proofs.YtbpklgllihhgpaaGreat
