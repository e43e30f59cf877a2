import Derived.Test.YtbpklgllihhgpaaGreatA29
set_option maxRecDepth 100000
set_option maxHeartbeats 16000000
namespace Go.Proofs.YtbpklgllihhgpaaGreat
open Tryz Go.RowKit Go.Den
section
def Fr(A:Option Addr)(base:Nat): Prop:=∀a,A=some a→base≤a.block
theorem Fr.nil(base:Nat): Fr none base:=fun a h=>by cases h
theorem Fr.mono{A:Option Addr}{base b:Nat}(h:Fr A base)(hb:b≤base): Fr A b:=fun a e=>aK hb (h a e)
def Ho(w:World)(c:Nat): Prop:=∃arr t fz,w.heap[c]?=some (.cells arr t fz)∧arr.size≤200
theorem lJ{w w':World}{c:Nat}(ho:∀q,q≠c→w'.heap[q]?=w.heap[q]?){g:Nat}(hg:g≠c)(i:Nat): w'.cell? ⟨g,i,none⟩=w.cell? ⟨g,i,none⟩:=by simp only [World.cell?,ho g hg]
theorem dn.off{w w':World}{A:Option Addr}{n:Nat}{xs:List Int}{c base:Nat}(h:dn w A n xs)(hf:Fr A base)(hc:c<base)(ho:∀q,q≠c→w'.heap[q]?=w.heap[q]?): dn w' A n xs:=by refine⟨h.1,fun j hj=>?_⟩;obtain⟨g,o,e,h2⟩:=h.2 j hj;have:=hf _ e;exact⟨g,o,e,by rw [lJ ho (by dsimp only at this;omega)];exact h2⟩
theorem iL.off{w w':World}{A:Option Addr}{n:Nat}{xs:List (Int×Int)}{c base:Nat}(h:iL w A n xs)(hf:Fr A base)(hc:c<base)(ho:∀q,q≠c→w'.heap[q]?=w.heap[q]?): iL w' A n xs:=by
 refine⟨h.1,fun j hj=>?_⟩;obtain⟨g,o,e,h2,h3⟩:=h.2 j hj;have:=hf _ e;have hg:g≠c:=by dsimp only at this;omega
 exact⟨g,o,e,by rw [lJ ho hg];exact h2,by rw [lJ ho hg];exact h3⟩
theorem dB.off{w w':World}{A:Option Addr}{n:Nat}{ts:List dC}{c:Nat}(h:dB w A n ts)(hs:Ho w c)(ho:∀q,q≠c→w'.heap[q]?=w.heap[q]?): dB w' A n ts:=by
 refine⟨h.1,fun j t ht=>?_⟩;obtain⟨h1,g,o,h2,h3⟩:=h.2 j t ht;refine⟨h1,g,o,h2,?_⟩;have hg:g≠c:=by
  rintro rfl;obtain⟨arr,ty,fz,e1,e2⟩:=hs;have hl:257<t.row.length:=by simp [dC.row,h1.1]
  have:=h3 257 _ (aB hl);rw [aA _ _ _ _ _ _ e1,Array.getElem?_eq_none (by omega)]at this;cases this
 intro k u hu;rw [←h3 k u hu];exact lJ ho hg _
structure bI.New(l:bI)(w:World)(base:Nat): Prop where
 at_:l.At w
 fi:Fr l.Xi base
 fk:Fr l.Xg.kA base
 fc:Fr l.Xg.cA base
 fp:Fr l.pA base
theorem bI.New.off{l:bI}{w w':World}{base c:Nat}(h:l.New w base)(hc:c<base)(hs:Ho w c)(ho:∀q,q≠c→w'.heap[q]?=w.heap[q]?): l.New w' base:=
 ⟨⟨h.at_.kids.off h.fi hc ho,h.at_.ks.off h.fk hc ho,h.at_.cs.off h.fc hc ho,h.at_.pts.off h.fp hc ho,h.at_.Xm.off hs ho,h.at_.mask.off hs ho,h.at_.Xk⟩,h.fi,h.fk,h.fc,h.fp⟩
theorem bI.New.turn{l:bI}{w w':World}{base:Nat}(h:l.New w base)(T:bH [] w w'): l.New w' base:=⟨h.at_.turn T,h.fi,h.fk,h.fc,h.fp⟩
theorem bI.New.mono{l:bI}{w:World}{base b:Nat}(h:l.New w base)(hb:b≤base): l.New w b:=⟨h.at_,h.fi.mono hb,h.fk.mono hb,h.fc.mono hb,h.fp.mono hb⟩
theorem Ic{w:World}{b i:Nat}{L L':List Value}{v:Value}{t:TypeId}{fz:Nat×Nat}(h:w.heap[b]?=some (.cells ⟨L⟩ t fz))(hr:L.set i v=L'): w.setCell ⟨b,i,none⟩ v=w.setRow b ⟨L'⟩:=by
 subst hr;simp only [World.setCell,World.setRow];congr 1;apply Array.ext_getElem?;intro j;simp only [au];by_cases e:b=j
 ·subst e;simp [h]
 simp [e]
theorem Vr:(prog.info? 147).map (fun i=>(i.zero,i.size,i.bytes))=some (some (.agg #[(0:Int),(0:Int)]),2,16):=by kernel_rfl
def kK:kD:=⟨147,2,16,.agg #[(0:Int),(0:Int)],Vr,rfl,by decide,by decide,by decide⟩
def jZ(p:Int×Int): List Value:=[p.1,p.2]
theorem PE(p:Int×Int): kK.Row (jZ p):=⟨rfl,fun u hu=>by
 simp only [jZ,aS,List.mem_nil_iff,or_false]at hu;rcases hu with rfl | rfl <;> rfl⟩
theorem zn{w:World}{base:Nat}{A:Option Addr}{n cap:Nat}{ps:List (Int×Int)}(h:iK kK w base (.slice A n cap) (ps.map jZ)): iL w A n ps∧Fr A base:=by
 rcases h.form with ⟨e,h0⟩ | ⟨g,o,cap',e,hb,_,_,hr⟩
 ·injection e with e1 e2 e3;rw [e1,e2];have:ps=[]:=List.map_eq_nil_iff.1 h0;rw [this];exact⟨⟨rfl,fun j hj=>absurd hj (aU j)⟩,.nil _⟩
 injection e with e1 e2 e3;rw [aJ]at e2;rw [e1,e2];refine⟨⟨rfl,fun j hj=>⟨g,o,rfl,?_⟩⟩,fun a ea=>by injection ea with ea;rw [←ea];exact hb⟩;have hj':(ps.map jZ)[j]?=some (jZ ps[j]):=by simp [hj]
 have h2:=hr j _ hj';have e5:ps.getD j (0,0)=ps[j]:=by simp [List.getD,hj]
 rw [e5];rw [show kK.size=2 from rfl]at h2;exact⟨by simpa using h2 0 _ rfl,by simpa [Nat.add_assoc]using h2 1 _ rfl⟩
def s8(s0 s1 s2 s3 s4 s5 s6 s7:Int): List Value:=[s0,s1,s2,s3,s4,s5,s6,s7]
def P3:List (Int×Int):=[(0,0),(0,0),(0,0)]
def bI.Bare0(l:bI): Prop:=(l.Xi=none∧l.Xh=0∧l.kids=[])∧(l.Xg.kA=none∧l.Xg.kn=0∧l.ks=[])∧l.Xg.cA=none∧l.Xg.cn=0∧l.cs=[]
def bI.Bare(l:bI): Prop:=l.Bare0∧l.pts=[]∧l.pA=none∧l.pn=0∧l.pc=0
def dF : bI :=
  { id := 0, kind := 0, name := ⟨#[]⟩, hidden := false, Xl := 0, mode := 0, clip := false,
    place := ⟨0, 0, 0, 0, 0, 0, 0⟩, space := 0, Xi := none, Xh := 0, Xj := 0, kids := [], of := 0,
    Xg := ⟨0, 0, none, 0, 0, 0, 0, none, 0, 0⟩, ks := [], cs := [], f0 := 0, f1 := 0, f2 := 0, f3 := 0, pA := none, pn := 0, pc := 0, pts := [],
    tA := none, tn := 0, tc := 0, Xm := [], Xt := false, mA := none, mn := 0, mc := 0, mask := [] }
structure uJ(w wr:World)(b3:Nat)(S:List Value)(k:Int)(l:bI): Prop where
 t:bH [] w wr
 hs:wr.heap[w.heap.size]?=some (.cells ⟨S⟩ 102 (0,0))
 h2:wr.heap[w.heap.size+1]?=some (.cells ⟨dF.row⟩ 89 (0,0))
 h3:wr.heap[b3]?=some (.cells ⟨l.row⟩ 89 (0,0))
 lt:w.heap.size+2≤b3
 ok:bI.Tidy { l with pts:=P3 } 0
 kd:l.kind=k
 bare:l.Bare
 own:iK kK wr (b3+1) (.slice l.pA l.pn l.pc) (l.pts.map jZ)
 ti:dB wr l.tA l.tn l.Xm
 mk_:dB wr l.mA l.mn l.mask
variable {w wr u:World} {b3:Nat} {S:List Value} {k:Int} {l:bI}
theorem uJ.lt2(P:uJ w wr b3 S k l): b3<wr.heap.size:=(ae.1 P.h3).1
theorem uJ.turn(P:uJ w wr b3 S k l)(T:bH [] wr u): uJ w u b3 S k l:=by have h1:=P.lt;have h2:=P.lt2;exact⟨P.t.trans T,(T.old _ (by omega) (by simp)).trans P.hs,(T.old _ (by omega) (by simp)).trans P.h2,(T.old _ (by omega) (by simp)).trans P.h3,P.lt,P.ok,P.kd,P.bare,P.own.turn T,P.ti.turn T,P.mk_.turn T⟩
theorem uJ.slim(P:uJ w wr b3 S k l): Ho wr b3:=⟨_,_,_,P.h3,by simp [bI.row]⟩
theorem Q9(u:World)(b:Nat)(c:Array Value): bH [b] u (u.setRow b c):=(bH.refl [b] u).setRow _ (.inl (by simp))
theorem KT{v:Value}{rows:List (List Value)}(h:iK kK u (b3+1) v rows)(c:Array Value): iK kK (u.setRow b3 c) (b3+1) v rows:=
 h.kept (Q9 u b3 c) fun g hg hm=>by have:=(h.2.lt g hg).1;simp at hm;omega
theorem uJ.put(P:uJ w wr b3 S k l)(l':bI)(ok:bI.Tidy { l' with pts:=P3 } 0)(kd:l'.kind=k)(bare:l'.Bare)(own:iK kK wr (b3+1) (.slice l'.pA l'.pn l'.pc) (l'.pts.map jZ))(ti:dB wr l'.tA l'.tn l'.Xm)(mk:dB wr l'.mA l'.mn l'.mask): uJ w (wr.setRow b3 ⟨l'.row⟩) b3 S k l':=by have h1:=P.lt;have h2:=P.lt2;exact⟨P.t.setRow _ (.inr (by omega)),(fQ _ _ _ _ (by omega)).trans P.hs,(fQ _ _ _ _ (by omega)).trans P.h2,eQ P.h3,h1,ok,kd,bare,KT own _,ti.off P.slim (fun q hq=>fQ _ _ _ q hq),mk.off P.slim (fun q hq=>fQ _ _ _ q hq)⟩
theorem uJ.cell(P:uJ w wr b3 S k l)(l':bI){i:Nat}{v:Value}(hr:l.row.set i v=l'.row)(ok:bI.Tidy { l' with pts:=P3 } 0)(kd:l'.kind=k)(bare:l'.Bare)(own:iK kK wr (b3+1) (.slice l'.pA l'.pn l'.pc) (l'.pts.map jZ))(ti:dB wr l'.tA l'.tn l'.Xm)(mk:dB wr l'.mA l'.mn l'.mask): uJ w (wr.setCell ⟨b3,i,none⟩ v) b3 S k l':=by rw [Ic P.h3 hr];exact P.put l' ok kd bare own ti mk
structure WA(w wr:World)(b3:Nat)(l:bI): Prop where
 t:bH [] w wr
 h2:wr.heap[w.heap.size+1]?=some (.cells ⟨dF.row⟩ 89 (0,0))
 h3:wr.heap[b3]?=some (.cells ⟨l.row⟩ 89 (0,0))
 lt:w.heap.size+2≤b3
 ok:l.Tidy 0
 nw:l.New wr (b3+1)
 kid:l.Xh=0∧l.kids=[]
theorem uJ.fin(P:uJ w wr b3 S k l)(hp:l.kind=5→jy l.pts=true): WA w wr b3 l:=by
 obtain⟨⟨⟨k1,k2,k3⟩,⟨f1,f2,f3⟩,c1,c2,c3⟩,_⟩:=P.bare;have hA:=zn P.own;have hk:=P.ok;refine⟨P.t,P.h2,P.h3,P.lt,{ hk with path:=hp },⟨⟨?_,?_,?_,hA.1,P.ti,P.mk_,by omega⟩,?_,?_,?_,hA.2⟩,k2,k3⟩
 ·rw [k1,k2,k3];exact jd _
 ·rw [f1,f2,f3];exact jd _
 ·rw [c1,c2,c3];exact jd _
 ·rw [k1];exact .nil _
 ·rw [f1];exact .nil _
 rw [c1];exact .nil _
theorem uJ.Xg(P:uJ w wr b3 S 3 l)(f:Fv)(ks cs:List Int)(hk:Il wr (b3+1) (.slice f.kA f.kn f.kc) ks)(hc:Il wr (b3+1) (.slice f.cA f.cn f.cc) cs): WA w (wr.setRow b3 ⟨({ l with Xg:=f,ks:=ks,cs:=cs }:bI).row⟩) b3 { l with Xg:=f,ks:=ks,cs:=cs }:=by
 obtain⟨⟨⟨k1,k2,k3⟩,_⟩,_⟩:=P.bare;have h1:=P.lt;have h2:=P.lt2;have hkd:=P.kd;have ho:=fun q hq=>fQ wr b3 ⟨({ l with Xg:=f,ks:=ks,cs:=cs }:bI).row⟩ q hq;have hA:=zn (KT P.own ⟨({ l with Xg:=f,ks:=ks,cs:=cs }:bI).row⟩);have fr:∀{A:Option Addr} {n cap:Nat} {xs:List Int},Il wr (b3+1) (.slice A n cap) xs→Fr A (b3+1):=fun h a ea=>by subst ea;obtain⟨g,o,s⟩:=a;exact (h.lt g (by simp [dI,Value.ownBlock])).1
 have hok:=P.ok;refine⟨P.t.setRow _ (.inr (by omega)),(fQ _ _ _ _ (by omega)).trans P.h2,eQ P.h3,h1,{ hok with Xr:=fun h=>absurd hkd h,path:=fun h=>by have h:l.kind=5:=h;omega },⟨⟨?_,?_,?_,hA.1,P.ti.off P.slim ho,P.mk_.off P.slim ho,by show l.Xh≤50;omega⟩,?_,fr hk,fr hc,hA.2⟩,k2,k3⟩
 ·show dn _ l.Xi l.Xh l.kids;rw [k1,k2,k3];exact jd _
 ·exact hk.ints'.off (fr hk) (Nat.lt_succ_self _) ho
 ·exact hc.ints'.off (fr hc) (Nat.lt_succ_self _) ho
 show Fr l.Xi _;rw [k1];exact .nil _
theorem dB.below{w w':World}{A:Option Addr}{n:Nat}{ts:List dC}{bb:Nat}(h:dB w A n ts)(hb:0<n→∀a,A=some a→a.block<bb)(ho:∀q,q<bb→w'.heap[q]?=w.heap[q]?): dB w' A n ts:=by refine⟨h.1,fun j t ht=>?_⟩;obtain⟨h1,g,o,h2,h3⟩:=h.2 j t ht;have hj:=(ah.1 ht).1;have hg:=hb (by have:=h.1;omega) _ h2;refine⟨h1,g,o,h2,fun i v hv=>?_⟩;rw [←h3 i v hv];simp only [World.cell?,ho g hg]
theorem dB.lt{w:World}{A:Option Addr}{n:Nat}{ts:List dC}(h:dB w A n ts): 0<n→∀a,A=some a→a.block<w.heap.size:=by
 intro hn a ha;have hl:0<ts.length:=by have:=h.1;omega
 obtain⟨h1,g,o,h2,h3⟩:=h.2 0 ts[0] (by simp [hl]);rw [h2]at ha;injection ha with ha;rw [←ha];exact ai (h3 0 _ rfl)
structure OE(w wr:World)(b3 bb:Nat)(S:List Value)(l:bI): Prop where
 t:bH [] w wr
 hs:wr.heap[w.heap.size]?=some (.cells ⟨S⟩ 102 (0,0))
 h2:wr.heap[w.heap.size+1]?=some (.cells ⟨dF.row⟩ 89 (0,0))
 h3:wr.heap[b3]?=some (.cells ⟨l.row⟩ 89 (0,0))
 lt:w.heap.size+2≤b3∧b3<bb∧bb≤wr.heap.size
 ok:bI.Tidy { l with pts:=P3 } 0
 kd:l.kind=5
 bare:l.Bare0
 own:iK kK wr bb (.slice l.pA l.pn l.pc) (l.pts.map jZ)
 ti:dB wr l.tA l.tn l.Xm
 tb:0<l.tn→∀a,l.tA=some a→a.block<bb
 mk_:dB wr l.mA l.mn l.mask
 mb:0<l.mn→∀a,l.mA=some a→a.block<bb
theorem uJ.path(P:uJ w wr b3 S 5 l): OE w wr b3 wr.heap.size S l:=
 have h:=P.bare.2.1
 have hA:=P.bare.2.2.1
 have hn:=P.bare.2.2.2.1
 have hc:=P.bare.2.2.2.2
 ⟨P.t,P.hs,P.h2,P.h3,⟨P.lt,P.lt2,aQ _⟩,P.ok,P.kd,P.bare.1,by rw [h,hA,hn,hc];exact jU _ _ _,P.ti,P.ti.lt,P.mk_,P.mk_.lt⟩
variable {bb:Nat}
theorem OE.turn(P:OE w wr b3 bb S l)(T:bH [] wr u): OE w u b3 bb S l:=by obtain⟨l1,l2,l3⟩:=P.lt;have hs:=T.size;exact⟨P.t.trans T,(T.old _ (by omega) (by simp)).trans P.hs,(T.old _ (by omega) (by simp)).trans P.h2,(T.old _ (by omega) (by simp)).trans P.h3,⟨l1,l2,by omega⟩,P.ok,P.kd,P.bare,P.own.turn T,P.ti.turn T,P.tb,P.mk_.turn T,P.mb⟩
theorem OE.step(P:OE w wr b3 bb S l){bs:List Nat}(T:bH bs wr u)(hb:∀q∈bs,bb≤q){A:Option Addr}{n c:Nat}{ps:List (Int×Int)}(hI:iK kK u bb (.slice A n c) (ps.map jZ)):
  OE w (u.setCell ⟨b3,27,none⟩ (.slice A n c)) b3 bb S { l with pA:=A,pn:=n,pc:=c,pts:=ps }:=by
 obtain⟨l1,l2,l3⟩:=P.lt;have hs:=T.size;have old:∀q,q<bb→u.heap[q]?=wr.heap[q]?:=fun q hq=>T.old q (by omega) (fun hm=>by have:=hb q hm;omega);have h3:=(old b3 l2).trans P.h3;have hsl:Ho u b3:=⟨_,_,_,h3,by simp [bI.row]⟩;have ho:=fun q hq=>dG u b3 27 (.slice A n c) q hq;have hok:=P.ok;have hkd:=P.kd;refine⟨(fH P.t T (fun q hq=>by have:=hb q hq;omega)).sc,(dG _ _ _ _ _ (by omega)).trans ((old _ (by omega)).trans P.hs),(dG _ _ _ _ _ (by omega)).trans ((old _ (by omega)).trans P.h2),dU h3 rfl,⟨l1,l2,by rw [World.size_setCell];omega⟩,
  { hok with Xo:=fun h=>absurd hkd h },hkd,P.bare,?_,(P.ti.below P.tb old).off hsl ho,P.tb,(P.mk_.below P.mb old).off hsl ho,P.mb⟩
 exact hI.kept ((bH.refl [b3] u).setCell _ (.inl (by simp))) (fun q hq hm=>by have:=(hI.2.lt q hq).1;simp at hm;omega)
theorem OE.fin(P:OE w wr b3 bb S l)(hp:jy l.pts=true): WA w wr b3 l:=by
 obtain⟨⟨k1,k2,k3⟩,⟨f1,f2,f3⟩,c1,c2,c3⟩:=P.bare;obtain⟨l1,l2,l3⟩:=P.lt;have hA:=zn P.own;have hk:=P.ok;refine⟨P.t,P.h2,P.h3,l1,{ hk with path:=fun _=>hp },⟨⟨?_,?_,?_,hA.1,P.ti,P.mk_,by omega⟩,?_,?_,?_,hA.2.mono l2⟩,k2,k3⟩
 ·rw [k1,k2,k3];exact jd _
 ·rw [f1,f2,f3];exact jd _
 ·rw [c1,c2,c3];exact jd _
 ·rw [k1];exact .nil _
 ·rw [f1];exact .nil _
 rw [c1];exact .nil _
theorem MP{ps:List (Int×Int)}(h3:3≤ps.length)(h64:ps.length≤64)(hf:∀p∈ps,uG p.1 p.2=false): jy ps=true:=by unfold jy;simp only [az,decide_eq_true_eq,aZ];exact⟨⟨h3,h64⟩,fun p hp=>by rw [hf p hp];rfl⟩
theorem gV{z:Int}(h0:-1000≤z)(h1:z≤1000): wrap64 z=z:=fC _ (by omega) (by omega)
theorem uJ.pix(P:uJ w wr b3 S 5 l)(r g b a:Int): uJ w (wr.setRow b3 ⟨({ l with f0:=r,f1:=g,f2:=b,f3:=a }:bI).row⟩) b3 S 5 { l with f0:=r,f1:=g,f2:=b,f3:=a }:=by
 have hkd:=P.kd;refine P.put { l with f0:=r,f1:=g,f2:=b,f3:=a } ?_ hkd ?_ P.own P.ti P.mk_
 ·have o:=P.ok;exact { o with Xo:=fun h=>absurd hkd h }
 exact P.bare
def Rn(p c:Int): Int:=p.fdiv (2 ^ (min c.toNat 64))
theorem GG{P:Program}{o:Oper}{a:Act}{xt yt:TypeId}{x y:Operand}{p c:Int}(ho:o.op=.binOp .shr xt x y yt)(hx:a.eval x=p)(hy:a.eval y=c)(hc:0≤c)(w:World): (execOp a.eval o).run P w=.ok (.value (.int .i64 (Rn p c))) w:=by simp only [execOp,ho,hx,hy];simp [eqGuard,binOp,Op.shift,show ¬c<0 by omega,Rn,IntKind.bits]
theorem PZ(x y:Int)(u:World): (Instr.build 147 #[(0,x),(1,y)]).run prog u=.ok (.agg ⟨jZ (x,y)⟩) u:=by kernel_rfl
theorem wQ:(prog.info? 83).map (·.size)=some 6:=by kernel_rfl
theorem Tv:(prog.info? 64).map (·.size)=some 4:=by kernel_rfl
theorem dS:(prog.info? 89).map (fun i=>(i.zero,i.size))=some (some (.agg ⟨dF.row⟩),31):=by kernel_rfl
theorem gI(u:World): (Instr.alloc 89 true (.tuple #[])).run prog u=.ok (.pointer (some ⟨u,0,none⟩)) (u.alloc (.cells ⟨dF.row⟩ 89)):=by unfold Instr.alloc;rw [Sem.run_bind,(zero_of_info dS).1];rfl
theorem zo:(prog.info? 80).map (·.size)=some 7:=by kernel_rfl
theorem row_one(l:bI): ∀v∈l.row,v.oneCell'=true:=by intro v hv;simp only [bI.row,aS,List.mem_nil_iff,or_false]at hv;rcases hv with h | h | h | h | h | h | h | h | h | h | h | h | h | h | h | h | h | h | h | h | h | h | h | h | h | h | h | h | h | h | h <;> (subst h;rfl)
theorem gX(u:World)(l:bI): (Instr.storeAt 89 (.pointer (some ⟨u,0,none⟩)) (.agg ⟨l.row⟩)).run prog (u.alloc (.cells ⟨dF.row⟩ 89))=.ok () (u.alloc (.cells ⟨l.row⟩ 89)):=
 run_storeAt_new u 89 _ ⟨l.row⟩ (zero_of_info dS).2 rfl (all_oneCell_toArray (cs:=l.row) (row_one l))
theorem wu(k:Int)(h1:1≤k)(h2:k≤5): bI.Tidy { fB k with pts:=P3 } 0:=by
 obtain rfl | rfl | rfl | rfl | rfl:k=1∨k=2∨k=3∨k=4∨k=5:=by omega
 all_goals
  refine⟨?_,?_,?_,?_,?_,?_,?_,?_,?_,?_,?_,?_,?_,?_⟩ <;> simp [fB,kW,P3] <;> decide
theorem Ec(k:Int): (fB k).Bare:=⟨⟨⟨rfl,rfl,rfl⟩,⟨rfl,rfl,rfl⟩,rfl,rfl,rfl⟩,rfl,rfl,rfl,rfl⟩
theorem kZ(w:World): dB w none 0 []:=⟨rfl,fun j t h=>by simp at h⟩
theorem nC{w u:World}(hu:∀q,q<w.heap.size→u.heap[q]?=w.heap[q]?){g i:Nat}{v:Value}(h:w.cell? ⟨g,i,none⟩=some v): u.cell? ⟨g,i,none⟩=some v:=by rw [←h];simp only [World.cell?,hu g (ai h)]
theorem dn.keep{w u:World}(hu:∀q,q<w.heap.size→u.heap[q]?=w.heap[q]?){A:Option Addr}{n:Nat}{c:List Int}(h:dn w A n c): dn u A n c:=
 ⟨h.1,fun j hj=>by obtain⟨g,o,e,h2⟩:=h.2 j hj;exact⟨g,o,e,nC hu h2⟩⟩
theorem iL.keep{w u:World}(hu:∀q,q<w.heap.size→u.heap[q]?=w.heap[q]?){A:Option Addr}{n:Nat}{c:List (Int×Int)}(h:iL w A n c): iL u A n c:=
 ⟨h.1,fun j hj=>by obtain⟨g,o,e,h2,h3⟩:=h.2 j hj;exact⟨g,o,e,nC hu h2,nC hu h3⟩⟩
theorem dB.keep{w u:World}(hu:∀q,q<w.heap.size→u.heap[q]?=w.heap[q]?){A:Option Addr}{n:Nat}{c:List dC}(h:dB w A n c): dB u A n c:=
 ⟨h.1,fun j t ht=>by obtain⟨h1,g,o,e,h2⟩:=h.2 j t ht;exact⟨h1,g,o,e,fun i v hv=>nC hu (h2 i v hv)⟩⟩
theorem bI.At.keep{w u:World}(hu:∀q,q<w.heap.size→u.heap[q]?=w.heap[q]?){l:bI}(h:l.At w): l.At u:=
 ⟨h.kids.keep hu,h.ks.keep hu,h.cs.keep hu,h.pts.keep hu,h.Xm.keep hu,h.mask.keep hu,h.Xk⟩
end
theorem UW:(prog.info? 3).map (fun i=>(i.zero,i.size,i.bytes))=some (some (.int .i64 0),1,8):=by kernel_rfl
def fF:kD:=⟨3,1,8,(0:Int),UW,rfl,by decide,by decide,by decide⟩
def kw(k:kD)(w:World)(A:Option Addr)(rows:List (List Value)): Prop:=∀j r,rows[j]?=some r→∃g o,A=some ⟨g,o,none⟩∧w.rangeAt g (o+j*k.size) r
theorem kw.turn{k:kD}{w w':World}{A:Option Addr}{rows:List (List Value)}(h:kw k w A rows)(T:bH [] w w'): kw k w' A rows:=fun j r hr=>by obtain⟨g,o,e,h2⟩:=h j r hr;exact⟨g,o,e,fJ T h2⟩
theorem kw.nil{k:kD}{w:World}{rows:List (List Value)}(h:kw k w none rows): rows=[]:=by
 cases rows with
 | nil=>rfl
 | cons r rows=>
  obtain⟨g,o,e,_⟩:=h 0 r rfl;cases e
theorem kw.some{k:kD}{w:World}{a:Addr}{rows:List (List Value)}(h:kw k w (.some a) rows): ∃g o,(rows≠[]→a=⟨g,o,none⟩)∧∀j r,rows[j]?=.some r→w.rangeAt g (o+j*k.size) r:=by
 cases rows with
 | nil=>exact⟨0,0,fun h=>absurd rfl h,fun j r h=>by simp at h⟩
 | cons r rows=>
  obtain⟨g,o,e,_⟩:=h 0 r rfl;injection e with e;refine⟨g,o,fun _=>e,fun j r hr=>?_⟩;obtain⟨g',o',e',h2⟩:=h j r hr;rw [e]at e';injection e' with e';injection e' with e1 e2 _;subst e1;subst e2;exact h2
def zA(k:kD)(w w':World)(rows:List (List Value))(e:Ending): Prop:=∃v,e=.returned v∧iK k w' w.heap.size v rows
theorem lQ(k:kD)(u:World): iK k (u.alloc (.cells #[] k.e)) u.heap.size (.slice (some ⟨u,0,none⟩) 0 0) []:=
 ⟨fun r h=>by simp at h,by simp,.inr ⟨_,_,_,_,rfl,aQ _,heap_alloc_new _ _,aQ _,by omega,by simp,fun j v hj=>by simp at hj⟩⟩
theorem vM{k:kD}{t:TypeId}(ht:prog.underlying t=some (.slice k.e)){w:World}{base:Nat}{v:Value}{rows news:List (List Value)}(h:iK k w base v rows)(a:Addr)(cap:Nat)(h1:∀r∈news,k.Row r)
  (hc:kw k w (some a) news) (hb:base≤w.heap.size) (hn:rows.length+news.length≤100000) (ty:TypeId) :
  ∃v' w',(Builtin.append_ #[t,t] ty #[v,.slice (some a) news.length cap]).run prog w=.ok v' w'∧iK k w' base v' (rows ++ news)∧bH (dI v) w w'∧(∀g∈dI v',g∈dI v∨w.heap.size≤g):=by
 obtain⟨i,hI,iz,is,ib⟩:=k.info;have hl:news.flatten.length=news.length*k.size:=by rw [oz fun r hr=>(h1 r hr).len]
 obtain⟨g,o,ha,hR⟩:=hc.some;have haj:∀j,j<news.length*k.size→a=⟨g,o,none⟩:=fun j hj=>ha (fun e=>by rw [e]at hj;simp at hj);obtain⟨v',w',e1,e2,e3,e4⟩:=oq (P:=prog) (ty:=ty) ht hI iz is ib k.hz k.hs h.2 a news.length cap news.flatten hl (fun j u hu=>by
  have hj:j<news.length*k.size:=by rw [←hl];exact (ah.1 hu).1
  have hq:j / k.size<news.length:=Nat.div_lt_of_lt_mul (by rw [Nat.mul_comm];exact hj);have hr:=Nat.mod_lt j k.hs;have he:j / k.size*k.size+j % k.size=j:=by rw [Nat.mul_comm];exact Nat.div_add_mod j k.size
  rw [←he,kP (fun r hr=>(h1 r hr).len) _ _ hr]at hu;have hn:news[j / k.size]?=some news[j / k.size]:=aB hq;rw [hn]at hu;rw [haj j hj,Addr.add_lit];have:=hR _ _ hn _ u hu;rw [show o+j=o+j / k.size*k.size+j % k.size by omega];exact this) (fun u hu=>by
  obtain⟨r,hr,hu⟩:=List.mem_flatten.1 hu;exact (h1 r hr).one u hu) (aK hn (by decide)) (by
  have:=k.hc;have:(rows.length+news.length)*k.bytes≤100000*4096:=Nat.mul_le_mul hn this;omega) hb
 refine⟨v',w',e1,⟨fun r hr=>?_,?_⟩,e3,e4⟩
 ·rcases aV.1 hr with hr | hr
  ·exact h.1 r hr
  exact h1 r hr
 rw [aO,List.flatten_append];exact e2
theorem BK(rows:List (List Value))(A:Option Addr)(cap:Nat)(hr:∀r∈rows,fF.Row r)(hn:rows.length≤50000)(w:World)(h:kw fF w A rows): Calls prog 171 #[.slice A rows.length cap] w fun e w'=>zA fF w w' rows e∧bH [] w w':=by
 cases A with
 | none=>
  obtain rfl:=h.nil;clear h hr hn;simp only [List.length_nil];have hq:(binOp .eql 22 (.slice none 0 cap) (.slice none 0 0)).run prog w=.ok (.bool true) w:=Lib.run_eql_slice_nil w _ _ none _ _ _ _ underlying22;go_enter func171,ntmps171;go_wp2_with fail
  go_ret;exact⟨⟨_,rfl,jU _ _ _⟩,bH.refl _ _⟩
 | some a=>
  have hq:(binOp .eql 22 (.slice (some a) rows.length cap) (.slice none 0 0)).run prog w=.ok (.bool false) w:=Lib.run_eql_slice_nil w _ _ (some a) _ _ _ _ underlying22;have hT:=(tR w).alloc (.cells #[] fF.e);obtain⟨v',w',e1,e2,e3,_⟩:=vM (t:=22) underlying22 (lQ fF w) a cap hr (h.turn hT) (by simp) (by simp;omega) 22;have e4:bH [] w w':=fH hT e3 (fun g hg=>by rw [qj]at hg;simp at hg;omega);have hb:∀u,(Instr.buildSlice 22 0 #[]).run prog u=.ok (.slice (some ⟨u,0,none⟩) 0 0) (u.alloc (.cells #[] fF.e)):=fun u=>by kernel_rfl
  have HE:=lh (bg e2 e4);have HB:=lh hb;have HA:=lh e1;clear e2 e3 e4 hT h hr hn hb e1;generalize rows.length=n at *;go_enter func171,ntmps171;go_wp2_with (first
   | (refine bQ rfl (gm (vs:=#[]) rfl rfl (HB.o _)) ?_;try go_frame)
   | (at_builtin;refine bQ rfl (dL (v:=.slice (some ⟨w,0,none⟩) 0 0) (y:=.slice (some a) n cap) (.tmp 5) (.tmp 6) 22 rfl rfl rfl HA.o) ?_;try go_frame))
  go_ret;exact⟨⟨_,rfl,HE.o.1⟩,HE.o.2⟩
theorem Oe(rows:List (List Value))(A:Option Addr)(cap:Nat)(hr:∀r∈rows,kK.Row r)(hn:rows.length≤50000)(w:World)(h:kw kK w A rows): Calls prog 172 #[.slice A rows.length cap] w fun e w'=>zA kK w w' rows e∧bH [] w w':=by
 cases A with
 | none=>
  obtain rfl:=h.nil;clear h hr hn;simp only [List.length_nil];have hq:(binOp .eql 84 (.slice none 0 cap) (.slice none 0 0)).run prog w=.ok (.bool true) w:=Lib.run_eql_slice_nil w _ _ none _ _ _ _ underlying84;go_enter func172,ntmps172;go_wp2_with fail
  go_ret;exact⟨⟨_,rfl,jU _ _ _⟩,bH.refl _ _⟩
 | some a=>
  have hq:(binOp .eql 84 (.slice (some a) rows.length cap) (.slice none 0 0)).run prog w=.ok (.bool false) w:=Lib.run_eql_slice_nil w _ _ (some a) _ _ _ _ underlying84;have hT:=(tR w).alloc (.cells #[] kK.e);obtain⟨v',w',e1,e2,e3,_⟩:=vM (t:=84) underlying84 (lQ kK w) a cap hr (h.turn hT) (by simp) (by simp;omega) 84;have e4:bH [] w w':=fH hT e3 (fun g hg=>by rw [qj]at hg;simp at hg;omega);have hb:∀u,(Instr.buildSlice 84 0 #[]).run prog u=.ok (.slice (some ⟨u,0,none⟩) 0 0) (u.alloc (.cells #[] kK.e)):=fun u=>by kernel_rfl
  have HE:=lh (bg e2 e4);have HB:=lh hb;have HA:=lh e1;clear e2 e3 e4 hT h hr hn hb e1;generalize rows.length=n at *;go_enter func172,ntmps172;go_wp2_with (first
   | (refine bQ rfl (gm (vs:=#[]) rfl rfl (HB.o _)) ?_;try go_frame)
   | (at_builtin;refine bQ rfl (dL (v:=.slice (some ⟨w,0,none⟩) 0 0) (y:=.slice (some a) n cap) (.tmp 5) (.tmp 6) 84 rfl rfl rfl HA.o) ?_;try go_frame))
  go_ret;exact⟨⟨_,rfl,HE.o.1⟩,HE.o.2⟩
theorem Hm(rows:List (List Value))(A:Option Addr)(cap:Nat)(hr:∀r∈rows,fF.Row r)(hn:rows.length≤50000)(w:World)(h:kw fF w A rows): Calls prog 173 #[.slice A rows.length cap] w fun e w'=>zA fF w w' rows e∧bH [] w w':=by
 cases A with
 | none=>
  obtain rfl:=h.nil;clear h hr hn;simp only [List.length_nil];have hq:(binOp .eql 81 (.slice none 0 cap) (.slice none 0 0)).run prog w=.ok (.bool true) w:=Lib.run_eql_slice_nil w _ _ none _ _ _ _ underlying81;go_enter func173,ntmps173;go_wp2_with fail
  go_ret;exact⟨⟨_,rfl,jU _ _ _⟩,bH.refl _ _⟩
 | some a=>
  have hq:(binOp .eql 81 (.slice (some a) rows.length cap) (.slice none 0 0)).run prog w=.ok (.bool false) w:=Lib.run_eql_slice_nil w _ _ (some a) _ _ _ _ underlying81;have hT:=(tR w).alloc (.cells #[] fF.e);obtain⟨v',w',e1,e2,e3,_⟩:=vM (t:=81) underlying81 (lQ fF w) a cap hr (h.turn hT) (by simp) (by simp;omega) 81;have e4:bH [] w w':=fH hT e3 (fun g hg=>by rw [qj]at hg;simp at hg;omega);have hb:∀u,(Instr.buildSlice 81 0 #[]).run prog u=.ok (.slice (some ⟨u,0,none⟩) 0 0) (u.alloc (.cells #[] fF.e)):=fun u=>by kernel_rfl
  have HE:=lh (bg e2 e4);have HB:=lh hb;have HA:=lh e1;clear e2 e3 e4 hT h hr hn hb e1;generalize rows.length=n at *;go_enter func173,ntmps173;go_wp2_with (first
   | (refine bQ rfl (gm (vs:=#[]) rfl rfl (HB.o _)) ?_;try go_frame)
   | (at_builtin;refine bQ rfl (dL (v:=.slice (some ⟨w,0,none⟩) 0 0) (y:=.slice (some a) n cap) (.tmp 5) (.tmp 6) 81 rfl rfl rfl HA.o) ?_;try go_frame))
  go_ret;exact⟨⟨_,rfl,HE.o.1⟩,HE.o.2⟩
theorem yG(rows:List (List Value))(A:Option Addr)(cap:Nat)(hr:∀r∈rows,kJ.Row r)(hn:rows.length≤50000)(w:World)(h:kw kJ w A rows): Calls prog 174 #[.slice A rows.length cap] w fun e w'=>zA kJ w w' rows e∧bH [] w w':=by
 cases A with
 | none=>
  obtain rfl:=h.nil;clear h hr hn;simp only [List.length_nil];have hq:(binOp .eql 85 (.slice none 0 cap) (.slice none 0 0)).run prog w=.ok (.bool true) w:=Lib.run_eql_slice_nil w _ _ none _ _ _ _ underlying85;go_enter func174,ntmps174;go_wp2_with fail
  go_ret;exact⟨⟨_,rfl,jU _ _ _⟩,bH.refl _ _⟩
 | some a=>
  have hq:(binOp .eql 85 (.slice (some a) rows.length cap) (.slice none 0 0)).run prog w=.ok (.bool false) w:=Lib.run_eql_slice_nil w _ _ (some a) _ _ _ _ underlying85;have hT:=(tR w).alloc (.cells #[] kJ.e);obtain⟨v',w',e1,e2,e3,_⟩:=vM (t:=85) underlying85 (lQ kJ w) a cap hr (h.turn hT) (by simp) (by simp;omega) 85;have e4:bH [] w w':=fH hT e3 (fun g hg=>by rw [qj]at hg;simp at hg;omega);have hb:∀u,(Instr.buildSlice 85 0 #[]).run prog u=.ok (.slice (some ⟨u,0,none⟩) 0 0) (u.alloc (.cells #[] kJ.e)):=fun u=>by kernel_rfl
  have HE:=lh (bg e2 e4);have HB:=lh hb;have HA:=lh e1;clear e2 e3 e4 hT h hr hn hb e1;generalize rows.length=n at *;go_enter func174,ntmps174;go_wp2_with (first
   | (refine bQ rfl (gm (vs:=#[]) rfl rfl (HB.o _)) ?_;try go_frame)
   | (at_builtin;refine bQ rfl (dL (v:=.slice (some ⟨w,0,none⟩) 0 0) (y:=.slice (some a) n cap) (.tmp 5) (.tmp 6) 85 rfl rfl rfl HA.o) ?_;try go_frame))
  go_ret;exact⟨⟨_,rfl,HE.o.1⟩,HE.o.2⟩
section
def bI.Like(l m:bI): Prop:=m={ l with Xi:=m.Xi,Xj:=m.Xj,Xg:={ l.Xg with kA:=m.Xg.kA,kc:=m.Xg.kc,cA:=m.Xg.cA,cc:=m.Xg.cc },pA:=m.pA,pc:=m.pc,tA:=m.tA,tc:=m.tc,mA:=m.mA,mc:=m.mc }
theorem bI.Like.refl(l:bI): l.Like l:=rfl
theorem yI(w:World)(b:Nat)(c:Array Value): (w.setRow b c).heap.size=w.heap.size:=by simp [World.setRow]
def gG(bs:List Nat)(w:World)(P:World→Prop): Prop:=∀u,w.heap.size≤u.heap.size→(∀q,q<w.heap.size→q∉bs→u.heap[q]?=w.heap[q]?)→P u
variable {bs:List Nat}
theorem gG.now{w:World}{P:World→Prop}(h:gG bs w P): P w:=h w (aQ _) fun _ _ _=>rfl
theorem gG.turn{w w':World}{P:World→Prop}(h:gG bs w P)(T:bH [] w w'): gG bs w' P:=fun u hs hu=>h u (aK T.size hs) fun q hq hb=>(hu q (aj hq T.size) hb).trans (T.old q hq (by simp))
theorem gG.setCell{b i:Nat}{v:Value}{w:World}{P:World→Prop}(h:gG bs w P)(hb:b∈bs): gG bs (w.setCell ⟨b,i,none⟩ v) P:=fun u hs hu=>h u (by rw [World.size_setCell]at hs;exact hs) fun q hq hq'=>(hu q (by rw [World.size_setCell];exact hq) hq').trans (dG _ _ _ _ q fun e=>hq' (e ▸ hb))
theorem gG.setRow{b:Nat}{c:Array Value}{w:World}{P:World→Prop}(h:gG bs w P)(hb:b∈bs): gG bs (w.setRow b c) P:=fun u hs hu=>h u (by rw [yI]at hs;exact hs) fun q hq hq'=>(hu q (by rw [yI];exact hq) hq').trans (fQ _ _ _ q fun e=>hq' (e ▸ hb))
theorem gG.and{w:World}{P Q:World→Prop}(h:gG bs w P)(k:gG bs w Q): gG bs w fun u=>P u∧Q u:=fun u hs hu=>⟨h u hs hu,k u hs hu⟩
theorem gG.imp{w:World}{P Q:World→Prop}(h:gG bs w P)(k:∀u,P u→Q u): gG bs w Q:=fun u hs hu=>k u (h u hs hu)
theorem AC{w w':World}(T:bH [] w w')(hb:∀b∈bs,w.heap.size≤b){P:World→Prop}(h:∀u,(∀q,q<w.heap.size→u.heap[q]?=w.heap[q]?)→P u): gG bs w' P:=fun u hs hu=>
 h u fun q hq=>(hu q (aj hq T.size) (fun hm=>by have:=hb q hm;omega)).trans (T.old q hq (by simp))
theorem gG.mono{w:World}{P:World→Prop}{cs:List Nat}(h:gG bs w P)(hc:∀b∈cs,b∈bs): gG cs w P:=fun u hs hu=>h u hs fun q hq hb=>hu q hq fun hm=>hb (hc q hm)
theorem gG.new{w w':World}{P:World→Prop}{cs:List Nat}(h:gG bs w P)(T:bH [] w w')(hc:∀b∈cs,b<w.heap.size→b∈bs): gG cs w' P:=fun u hs hu=>
 h u (aK T.size hs) fun q hq hb=>(hu q (aj hq T.size) (fun hm=>hb (hc q hm hq))).trans (T.old q hq (by simp))
theorem pK{k:kD}{w:World}{base:Nat}{v:Value}{rows:List (List Value)}(h:iK k w base v rows)(hb:∀b∈bs,b<base): gG bs w fun u=>iK k u base v rows:=fun u hs hu=>
 ⟨h.1,h.2.keep fun g hg=>hu g (h.2.lt g hg).2.1 (fun hm=>by have:=(h.2.lt g hg).1;have:=hb g hm;omega)⟩
def dK(x:Int): List Value:=[x]
theorem LP(x:Int): fF.Row (dK x):=⟨rfl,fun u hu=>by rw [aN.1 hu];rfl⟩
theorem xW{w:World}{A:Option Addr}{n:Nat}{c:List Int}(h:dn w A n c): kw fF w A (c.map dK):=fun j r hr=>by
 rw [aP]at hr;obtain⟨x,hx,rfl⟩:=Option.map_eq_some_iff.1 hr;have hj:=(ah.1 hx).1;obtain⟨g,o,e,h2⟩:=h.2 j (by rw [h.1];exact hj);refine⟨g,o,e,fun i u hu=>?_⟩;obtain _ | i:=i
 ·have:u=x:=by simpa [dK]using hu.symm
  rw [this];show w.cell? ⟨g,o+j*1+0,none⟩=_;rw [Nat.mul_one,Nat.add_zero,h2];simp [List.getD,hx]
 simp [dK]at hu
theorem rY{w:World}{base:Nat}{A:Option Addr}{n cap:Nat}{c:List Int}(h:iK fF w base (.slice A n cap) (c.map dK)): dn w A n c:=by
 rcases h.form with ⟨e,h0⟩ | ⟨g,o,cap',e,hb,_,_,hr⟩
 ·injection e with e1 e2 e3;have:c=[]:=List.map_eq_nil_iff.1 h0;rw [e1,e2,this];exact jd _
 injection e with e1 e2 e3;rw [aJ]at e2;refine⟨e2,fun j hj=>⟨g,o,e1,?_⟩⟩;rw [e2]at hj;have h2:=hr j (dK c[j]) (by simp [hj]) 0 _ rfl;rw [show fF.size=1 from rfl,Nat.mul_one,Nat.add_zero]at h2;rw [h2];simp [List.getD,hj]
theorem QD{w:World}{A:Option Addr}{n:Nat}{c:List (Int×Int)}(h:iL w A n c): kw kK w A (c.map jZ):=fun j r hr=>by
 rw [aP]at hr;obtain⟨x,hx,rfl⟩:=Option.map_eq_some_iff.1 hr;have hj:=(ah.1 hx).1;obtain⟨g,o,e,h2,h3⟩:=h.2 j (by rw [h.1];exact hj);refine⟨g,o,e,fun i u hu=>?_⟩;show w.cell? ⟨g,o+j*2+i,none⟩=_;have hd:c.getD j (0,0)=x:=by simp [List.getD,hx]
 rw [hd]at h2 h3;obtain _ | _ | i:=i
 ·have:u=x.1:=by simpa [jZ]using hu.symm
  rw [this];exact h2
 ·have:u=x.2:=by simpa [jZ]using hu.symm
  rw [this];exact h3
 simp [jZ]at hu
theorem AX{w:World}{A:Option Addr}{n:Nat}{ts:List dC}(h:dB w A n ts): kw kJ w A (ts.map dC.row):=fun j r hr=>by rw [aP]at hr;obtain⟨t,ht,rfl⟩:=Option.map_eq_some_iff.1 hr;obtain⟨_,g,o,e,h2⟩:=h.2 j t ht;exact⟨g,o,e,h2⟩
theorem wU{w:World}{A:Option Addr}{n:Nat}{ts:List dC}(h:dB w A n ts): ∀t∈ts,jo t.px:=fun t ht=>by obtain⟨j,hj⟩:=bu.1 ht;exact (h.2 j t hj).1
theorem Dj{w:World}{base:Nat}{A:Option Addr}{n cap:Nat}{ts:List dC}(hk:∀t∈ts,jo t.px)(h:iK kJ w base (.slice A n cap) (ts.map dC.row)): dB w A n ts:=by
 rcases h.form with ⟨e,h0⟩ | ⟨g,o,cap',e,hb,_,_,hr⟩
 ·injection e with e1 e2 e3;have:ts=[]:=List.map_eq_nil_iff.1 h0;rw [e1,e2,this];exact⟨rfl,fun j t h=>by simp at h⟩
 injection e with e1 e2 e3;rw [aJ]at e2;refine⟨e2,fun j t ht=>⟨hk t (aH ht),g,o,e1,?_⟩⟩;exact hr j t.row (by rw [aP,ht];rfl)
theorem jv{k:kD}{w:World}{base:Nat}{v:Value}{rows:List (List Value)}(h:iK k w base v rows): ∃A cap,v=.slice A rows.length cap:=by
 rcases h.form with ⟨e,h0⟩ | ⟨g,o,cap',e,_⟩
 ·exact⟨none,0,by rw [e,h0];rfl⟩
 exact⟨_,_,e⟩
theorem qM{c:List Int}: ∀r∈c.map dK,fF.Row r:=fun r hr=>by obtain⟨x,_,rfl⟩:=List.mem_map.1 hr;exact LP x
theorem Ja{c:List (Int×Int)}: ∀r∈c.map jZ,kK.Row r:=fun r hr=>by obtain⟨x,_,rfl⟩:=List.mem_map.1 hr;exact PE x
theorem vY{c:List dC}(h:∀t∈c,jo t.px): ∀r∈c.map dC.row,kJ.Row r:=fun r hr=>by obtain⟨x,hx,rfl⟩:=List.mem_map.1 hr;exact jA (h x hx)
structure bI.Thin(l:bI): Prop where
 k:l.Xh≤50
 p:l.pn≤5000
 a:l.Xg.kn≤5000
 b:l.Xg.cn≤5000
 t:l.tn≤5000
 m:l.mn≤5000
theorem bI.Like.thin{l m:bI}(h:l.Like m)(k:l.Thin): m.Thin:=by rw [h];exact⟨k.k,k.p,k.a,k.b,k.t,k.m⟩
theorem RX{k:kD}{w:World}{base:Nat}{A:Option Addr}{n c:Nat}{rows:List (List Value)}(h:iK k w base (.slice A n c) rows): n≤c:=by
 rcases h.form with ⟨e,_⟩ | ⟨g,o,cap,e,_,_,hl,_⟩
 ·injection e with _ e2 e3;omega
 injection e with _ e2 e3;omega
section
variable {bs:List Nat}
structure uC(C:Prop)(bs:List Nat)(w wr:World)(l0 l:bI): Prop where
 t:bH [] w wr
 h1:wr.heap[w.heap.size]?=some (.cells ⟨l.row⟩ 89 (0,0))
 h2:wr.heap[w.heap.size+1]?=some (.cells ⟨dF.row⟩ 89 (0,0))
 like:l0.Like l
 st:gG (w.heap.size :: (w.heap.size+1) :: bs) wr fun u=>l.At u
 kc:C→l.Xh≤l.Xj
variable {C:Prop} {w wr u:World} {l0 l:bI}
theorem uC.turn(P:uC C bs w wr l0 l)(T:bH [] wr u): uC C bs w u l0 l:=by have h1:=(ae.1 P.h1).1;have h2:=(ae.1 P.h2).1;exact⟨P.t.trans T,(T.old _ h1 (by simp)).trans P.h1,(T.old _ h2 (by simp)).trans P.h2,P.like,P.st.turn T,P.kc⟩
theorem uC.put(P:uC C bs w wr l0 l){l':bI}{i:Nat}{v:Value}(hr:l.row.set i v=l'.row)(hl:l0.Like l')(hs:gG (w.heap.size :: (w.heap.size+1) :: bs) wr fun u=>l'.At u){C':Prop}(hkc:C'→l'.Xh≤l'.Xj): uC C' bs w (wr.setCell ⟨w,i,none⟩ v) l0 l':=
 ⟨P.t.setCell _ (.inr (aQ _)),dU P.h1 hr,(dG _ _ _ _ _ (by omega)).trans P.h2,hl,hs.setCell (by simp),hkc⟩
theorem uC.kid(P:uC C bs w wr l0 l){base:Nat}{A':Option Addr}{c':Nat}(h:iK fF wr base (.slice A' l.Xh c') (l.kids.map dK))(hb:w.heap.size+1<base)(hbs:∀b∈bs,b<w.heap.size): uC True bs w (wr.setCell ⟨w,15,none⟩ (.slice A' l.Xh c')) l0 { l with Xi:=A',Xj:=c' }:=by
 refine P.put rfl ?_ ((P.st.and (pK h (fun b hm=>by simp only [aS]at hm;rcases hm with rfl | rfl | hm;omega;omega;have:=hbs b hm;omega))).imp fun u hu=>?_) (fun _=>RX h)
 ·have:=P.like;unfold bI.Like at this ⊢;rw [this]
 have hA:=hu.1;exact⟨rY hu.2,hA.ks,hA.cs,hA.pts,hA.Xm,hA.mask,hA.Xk⟩
theorem uC.pts(P:uC C bs w wr l0 l){base:Nat}{A':Option Addr}{c':Nat}(h:iK kK wr base (.slice A' l.pn c') (l.pts.map jZ))(hb:w.heap.size+1<base)(hbs:∀b∈bs,b<w.heap.size): uC C bs w (wr.setCell ⟨w,27,none⟩ (.slice A' l.pn c')) l0 { l with pA:=A',pc:=c' }:=by
 refine P.put rfl ?_ ((P.st.and (pK h (fun b hm=>by simp only [aS]at hm;rcases hm with rfl | rfl | hm;omega;omega;have:=hbs b hm;omega))).imp fun u hu=>?_) P.kc
 ·have:=P.like;unfold bI.Like at this ⊢;rw [this]
 have hA:=hu.1;exact⟨hA.kids,hA.ks,hA.cs,(zn hu.2).1,hA.Xm,hA.mask,hA.Xk⟩
theorem uC.ks(P:uC C bs w wr l0 l){base:Nat}{A':Option Addr}{c':Nat}(h:iK fF wr base (.slice A' l.Xg.kn c') (l.ks.map dK))(hb:w.heap.size+1<base)(hbs:∀b∈bs,b<w.heap.size): uC C bs w (wr.setCell ⟨w,19,none⟩ (.slice A' l.Xg.kn c')) l0 { l with Xg:={ l.Xg with kA:=A',kc:=c' } }:=by
 refine P.put rfl ?_ ((P.st.and (pK h (fun b hm=>by simp only [aS]at hm;rcases hm with rfl | rfl | hm;omega;omega;have:=hbs b hm;omega))).imp fun u hu=>?_) P.kc
 ·have:=P.like;unfold bI.Like at this ⊢;rw [this]
 have hA:=hu.1;exact⟨hA.kids,rY hu.2,hA.cs,hA.pts,hA.Xm,hA.mask,hA.Xk⟩
theorem uC.cs(P:uC C bs w wr l0 l){base:Nat}{A':Option Addr}{c':Nat}(h:iK fF wr base (.slice A' l.Xg.cn c') (l.cs.map dK))(hb:w.heap.size+1<base)(hbs:∀b∈bs,b<w.heap.size): uC C bs w (wr.setCell ⟨w,22,none⟩ (.slice A' l.Xg.cn c')) l0 { l with Xg:={ l.Xg with cA:=A',cc:=c' } }:=by
 refine P.put rfl ?_ ((P.st.and (pK h (fun b hm=>by simp only [aS]at hm;rcases hm with rfl | rfl | hm;omega;omega;have:=hbs b hm;omega))).imp fun u hu=>?_) P.kc
 ·have:=P.like;unfold bI.Like at this ⊢;rw [this]
 have hA:=hu.1;exact⟨hA.kids,hA.ks,rY hu.2,hA.pts,hA.Xm,hA.mask,hA.Xk⟩
theorem uC.Xm(P:uC C bs w wr l0 l)(hk:∀t∈l.Xm,jo t.px){base:Nat}{A':Option Addr}{c':Nat}(h:iK kJ wr base (.slice A' l.tn c') (l.Xm.map dC.row))(hb:w.heap.size+1<base)(hbs:∀b∈bs,b<w.heap.size): uC C bs w (wr.setCell ⟨w,28,none⟩ (.slice A' l.tn c')) l0 { l with tA:=A',tc:=c' }:=by
 refine P.put rfl ?_ ((P.st.and (pK h (fun b hm=>by simp only [aS]at hm;rcases hm with rfl | rfl | hm;omega;omega;have:=hbs b hm;omega))).imp fun u hu=>?_) P.kc
 ·have:=P.like;unfold bI.Like at this ⊢;rw [this]
 have hA:=hu.1;exact⟨hA.kids,hA.ks,hA.cs,hA.pts,Dj hk hu.2,hA.mask,hA.Xk⟩
theorem uC.mask(P:uC C bs w wr l0 l)(hk:∀t∈l.mask,jo t.px){base:Nat}{A':Option Addr}{c':Nat}(h:iK kJ wr base (.slice A' l.mn c') (l.mask.map dC.row))(hb:w.heap.size+1<base)(hbs:∀b∈bs,b<w.heap.size): uC C bs w (wr.setCell ⟨w,30,none⟩ (.slice A' l.mn c')) l0 { l with mA:=A',mc:=c' }:=by
 refine P.put rfl ?_ ((P.st.and (pK h (fun b hm=>by simp only [aS]at hm;rcases hm with rfl | rfl | hm;omega;omega;have:=hbs b hm;omega))).imp fun u hu=>?_) P.kc
 ·have:=P.like;unfold bI.Like at this ⊢;rw [this]
 have hA:=hu.1;exact⟨hA.kids,hA.ks,hA.cs,hA.pts,hA.Xm,Dj hk hu.2,hA.Xk⟩
end
theorem IM(l:bI)(w:World)(bs:List Nat)(hbs:∀b∈bs,b<w.heap.size)(h:gG bs w fun u=>l.At u)(hth:l.Thin): Calls prog 118 #[l.v] w fun e w'=>(∃m,l.Like m∧gG bs w' (fun u=>m.At u)∧m.Xh≤m.Xj∧e=.returned m.v)∧bH [] w w':=by
 obtain⟨W,hW⟩:∃W,W=(w.alloc (.cells ⟨l.row⟩ 89)).alloc (.cells ⟨dF.row⟩ 89):=⟨_,rfl⟩;have T0:bH [] w W:=hW ▸ ((tR w).alloc _).alloc _;have x0:W.heap[w.heap.size]?=some (.cells ⟨l.row⟩ 89 (0,0)):=hW ▸ bO bN;have x1:W.heap[w.heap.size+1]?=some (.cells ⟨dF.row⟩ 89 (0,0)):=hW ▸ bN;have P:uC False bs w W l l:=⟨T0,x0,x1,rfl,h.new T0 (fun b hm hb=>by simp only [aS]at hm;rcases hm with rfl | rfl | hm;omega;omega;exact hm),False.elim⟩;have HBS:=lh hbs;have HAL:=lh gI;have HTH:=lh hth;clear h x0 x1 T0 hth hbs;unfold bI.v;go_enter func118,ntmps118;go_upto_region 1 with (refine bQ rfl (di (t:=89) rfl (HAL.o _)) ?_;try go_frame)
 rw [←hW];clear hW HAL;simp only [aI];go_cut [] (fun wx=>∃m,uC True bs w wx l m);case first=>
  have hlen:l.Xh=(l.kids.map dK).length:=by rw [aJ];exact P.st.now.kids.1
  have hCl:=BK (l.kids.map dK) l.Xi l.Xj qM (by rw [←hlen];have:=(P.like.thin HTH.o).k;omega) W (xW P.st.now.kids);rw [←hlen]at hCl;have y:=bJ (i:=15) P.h1 (v:=.slice l.Xi l.Xh l.Xj) rfl;have yf:=dD P.h1 15;have hlt:w.heap.size+1<W.heap.size:=(ae.1 P.h2).1;have HP:=lh P;have HCL:=lh hCl;have HLEN:=lh hlen;clear P hCl hlen;go_wp2_with (go_at_call 171;refine HCL.o.mono ?_;rintro e w2 ⟨⟨v,rfl,hO⟩,ht⟩;obtain⟨A',c',rfl⟩:=jv hO;have P2:=HP.o.turn ht;have y:=bJ (i:=15) P2.h1 (v:=.slice l.Xi l.Xh l.Xj) rfl;have yf:=dD P2.h1 15;have HP2:=lh P2;rw [←HLEN.o]at hO ⊢;have HO:=lh hO;clear P2 hO ht)
  go_meet;exact⟨_,HP2.o.kid HO.o hlt HBS.o⟩
 obtain⟨l1,P⟩:=hcut;go_upto_region 2 with (fail)
 go_cut [] (fun wx=>∃m,uC True bs w wx l m);case first=>
  have hlen:l1.pn=(l1.pts.map jZ).length:=by rw [aJ];exact P.st.now.pts.1
  have hCl:=Oe (l1.pts.map jZ) l1.pA l1.pc Ja (by rw [←hlen];have:=(P.like.thin HTH.o).p;omega) wc (QD P.st.now.pts);rw [←hlen]at hCl;have y:=bJ (i:=27) P.h1 (v:=.slice l1.pA l1.pn l1.pc) rfl;have yf:=dD P.h1 27;have hlt:w.heap.size+1<wc.heap.size:=(ae.1 P.h2).1;have HP:=lh P;have HCL:=lh hCl;have HLEN:=lh hlen;clear P hCl hlen;go_wp2_with (go_at_call 172;refine HCL.o.mono ?_;rintro e w2 ⟨⟨v,rfl,hO⟩,ht⟩;obtain⟨A',c',rfl⟩:=jv hO;have P2:=HP.o.turn ht;have y:=bJ (i:=27) P2.h1 (v:=.slice l1.pA l1.pn l1.pc) rfl;have yf:=dD P2.h1 27;have HP2:=lh P2;rw [←HLEN.o]at hO ⊢;have HO:=lh hO;clear P2 hO ht)
  go_meet;exact⟨_,HP2.o.pts HO.o hlt HBS.o⟩
 obtain⟨l2,P⟩:=hcut;go_upto_region 3 with (fail)
 go_cut [] (fun wx=>∃m,uC True bs w wx l m);case first=>
  have hlen:l2.Xg.kn=(l2.ks.map dK).length:=by rw [aJ];exact P.st.now.ks.1
  have hCl:=BK (l2.ks.map dK) l2.Xg.kA l2.Xg.kc qM (by rw [←hlen];have:=(P.like.thin HTH.o).a;omega) wc (xW P.st.now.ks);rw [←hlen]at hCl;have y:=bJ (i:=19) P.h1 (v:=.slice l2.Xg.kA l2.Xg.kn l2.Xg.kc) rfl;have yf:=dD P.h1 19;have hlt:w.heap.size+1<wc.heap.size:=(ae.1 P.h2).1;have HP:=lh P;have HCL:=lh hCl;have HLEN:=lh hlen;clear P hCl hlen;go_wp2_with (go_at_call 171;refine HCL.o.mono ?_;rintro e w2 ⟨⟨v,rfl,hO⟩,ht⟩;obtain⟨A',c',rfl⟩:=jv hO;have P2:=HP.o.turn ht;have y:=bJ (i:=19) P2.h1 (v:=.slice l2.Xg.kA l2.Xg.kn l2.Xg.kc) rfl;have yf:=dD P2.h1 19;have HP2:=lh P2;rw [←HLEN.o]at hO ⊢;have HO:=lh hO;clear P2 hO ht)
  go_meet;exact⟨_,HP2.o.ks HO.o hlt HBS.o⟩
 obtain⟨l3,P⟩:=hcut;go_upto_region 4 with (fail)
 go_cut [] (fun wx=>∃m,uC True bs w wx l m);case first=>
  have hlen:l3.Xg.cn=(l3.cs.map dK).length:=by rw [aJ];exact P.st.now.cs.1
  have hCl:=Hm (l3.cs.map dK) l3.Xg.cA l3.Xg.cc qM (by rw [←hlen];have:=(P.like.thin HTH.o).b;omega) wc (xW P.st.now.cs);rw [←hlen]at hCl;have y:=bJ (i:=22) P.h1 (v:=.slice l3.Xg.cA l3.Xg.cn l3.Xg.cc) rfl;have yf:=dD P.h1 22;have hlt:w.heap.size+1<wc.heap.size:=(ae.1 P.h2).1;have HP:=lh P;have HCL:=lh hCl;have HLEN:=lh hlen;clear P hCl hlen;go_wp2_with (go_at_call 173;refine HCL.o.mono ?_;rintro e w2 ⟨⟨v,rfl,hO⟩,ht⟩;obtain⟨A',c',rfl⟩:=jv hO;have P2:=HP.o.turn ht;have y:=bJ (i:=22) P2.h1 (v:=.slice l3.Xg.cA l3.Xg.cn l3.Xg.cc) rfl;have yf:=dD P2.h1 22;have HP2:=lh P2;rw [←HLEN.o]at hO ⊢;have HO:=lh hO;clear P2 hO ht)
  go_meet;exact⟨_,HP2.o.cs HO.o hlt HBS.o⟩
 obtain⟨l4,P⟩:=hcut;go_upto_region 5 with (fail)
 go_cut [] (fun wx=>∃m,uC True bs w wx l m);case first=>
  have hlen:l4.tn=(l4.Xm.map dC.row).length:=by rw [aJ];exact P.st.now.Xm.1
  have hCl:=yG (l4.Xm.map dC.row) l4.tA l4.tc (vY (wU P.st.now.Xm)) (by rw [←hlen];have:=(P.like.thin HTH.o).t;omega) wc (AX P.st.now.Xm);rw [←hlen]at hCl;have y:=bJ (i:=28) P.h1 (v:=.slice l4.tA l4.tn l4.tc) rfl;have yf:=dD P.h1 28;have hlt:w.heap.size+1<wc.heap.size:=(ae.1 P.h2).1;have HOK:=lh (wU P.st.now.Xm);have HP:=lh P;have HCL:=lh hCl;have HLEN:=lh hlen;clear P hCl hlen;go_wp2_with (go_at_call 174;refine HCL.o.mono ?_;rintro e w2 ⟨⟨v,rfl,hO⟩,ht⟩;obtain⟨A',c',rfl⟩:=jv hO;have P2:=HP.o.turn ht;have y:=bJ (i:=28) P2.h1 (v:=.slice l4.tA l4.tn l4.tc) rfl;have yf:=dD P2.h1 28;have HP2:=lh P2;rw [←HLEN.o]at hO ⊢;have HO:=lh hO;clear P2 hO ht)
  go_meet;exact⟨_,HP2.o.Xm HOK.o HO.o hlt HBS.o⟩
 obtain⟨l5,P⟩:=hcut;go_upto_region 6 with (fail)
 go_cut [] (fun wx=>∃m,uC True bs w wx l m);case first=>
  have hlen:l5.mn=(l5.mask.map dC.row).length:=by rw [aJ];exact P.st.now.mask.1
  have hCl:=yG (l5.mask.map dC.row) l5.mA l5.mc (vY (wU P.st.now.mask)) (by rw [←hlen];have:=(P.like.thin HTH.o).m;omega) wc (AX P.st.now.mask);rw [←hlen]at hCl;have y:=bJ (i:=30) P.h1 (v:=.slice l5.mA l5.mn l5.mc) rfl;have yf:=dD P.h1 30;have hlt:w.heap.size+1<wc.heap.size:=(ae.1 P.h2).1;have HOK:=lh (wU P.st.now.mask);have HP:=lh P;have HCL:=lh hCl;have HLEN:=lh hlen;clear P hCl hlen;go_wp2_with (go_at_call 174;refine HCL.o.mono ?_;rintro e w2 ⟨⟨v,rfl,hO⟩,ht⟩;obtain⟨A',c',rfl⟩:=jv hO;have P2:=HP.o.turn ht;have y:=bJ (i:=30) P2.h1 (v:=.slice l5.mA l5.mn l5.mc) rfl;have yf:=dD P2.h1 30;have HP2:=lh P2;rw [←HLEN.o]at hO ⊢;have HO:=lh hO;clear P2 hO ht)
  go_meet;exact⟨_,HP2.o.mask HOK.o HO.o hlt HBS.o⟩
 obtain⟨l6,P⟩:=hcut;have HP:=lh P;clear P;have hlA:(Instr.loadAt 89 (.pointer (some ⟨w,0,none⟩))).run prog wc=.ok (.agg ⟨l6.row⟩) wc:=run_loadAt_mid wc w.heap.size 0 89 l6.row _ (gp HP.o.h1 (by simp)) underlying89 rfl (zero_of_info dS).2;have hstA:=dQ (o:=0) (ty:=89) (p:=l6.row) (L':=l6.row) HP.o.h2 (zero_of_info dS).2 (by simp [bI.row]) (row_one _) (by simp [bI.row]);have hl9:=run_loadVar_row (P:=prog) _ (w.heap.size+1) 89 89 ⟨l6.row⟩ (0,0) _ (eQ (L':=l6.row) HP.o.h2) underlying89 rfl (zero_of_info dS).2;go_wp2_with (first
  | (refine bQ rfl (dw rfl rfl hlA) ?_;try go_frame)
  | (refine bU rfl 89 (.tmp 2) (.tmp 35) rfl rfl rfl hstA ?_;try go_frame))
 have TT:=HP.o.t.setRow (g:=w.heap.size+1) ⟨l6.row⟩ (.inr (by omega));refine ag (v:=l6.v) ?_ rfl ⟨⟨l6,HP.o.like,?_,HP.o.kc trivial,rfl⟩,TT⟩
 ·simp [results,results118,asAddr,hl9];rfl
 exact (HP.o.st.setRow (by simp)).mono (fun b hb=>by simp [hb])
theorem WC(l:bI)(w:World)(bs:List Nat)(hbs:∀b∈bs,b<w.heap.size)(h:gG bs w fun u=>l.At u)(hth:l.Thin): Calls prog 118 #[l.v] w fun e w'=>(∃m,l.Like m∧gG bs w' (fun u=>m.At u)∧e=.returned m.v)∧bH [] w w':=(IM l w bs hbs h hth).mono fun e w' hh=>by obtain⟨⟨m,h1,h2,_,h3⟩,t⟩:=hh;exact⟨⟨m,h1,h2,h3⟩,t⟩
end
def vC(x n:Int): Int:=(x.tmod n+n).tmod n
theorem zl(x:Int){n:Int}(h:0<n): -n<x.tmod n∧x.tmod n<n:=by have h1:=Int.tmod_lt_of_pos x h;refine⟨?_,h1⟩;have h2:=Int.tmod_lt_of_pos (-x) h;rw [Int.neg_tmod]at h2;omega
theorem GM(x:Int){n:Int}(h:0<n): 0≤vC x n∧vC x n<n:=by have h1:=zl x h;exact⟨Int.tmod_nonneg _ (by omega),Int.tmod_lt_of_pos _ h⟩
theorem IJ(x n:Int)(h0:0<n)(h1:n≤400)(w:World): Calls prog 21 #[x,n] w fun e w'=>e=.returned (.int .i64 (vC x n))∧w'=w:=by
 have hz:¬n=0:=by omega
 have hb:=zl x h0;have hb2:=zl (x.tmod n+n) h0;have w1:wrap64 (x.tmod n)=x.tmod n:=gV (by omega) (by omega);have w2:wrap64 (x.tmod n+n)=x.tmod n+n:=gV (by omega) (by omega);have w3:wrap64 ((x.tmod n+n).tmod n)=(x.tmod n+n).tmod n:=gV (by omega) (by omega);clear hb hb2;go_enter func21,ntmps21;go_wp2_with fail
 go_ret;exact⟨rfl,rfl⟩
end Go.Proofs.YtbpklgllihhgpaaGreat
