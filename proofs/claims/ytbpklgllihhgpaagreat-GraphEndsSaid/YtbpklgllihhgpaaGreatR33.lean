import Derived.Test.YtbpklgllihhgpaaGreatR31
import Derived.Test.YtbpklgllihhgpaaGreatR32
set_option maxRecDepth 100000
set_option maxHeartbeats 16000000
namespace Go.Proofs.YtbpklgllihhgpaaGreat
open Tryz Go.RowKit Go.Den
section
def Fr(A:Option Addr)(base:Nat): Prop:=∀a,A=some a→base≤a.block
theorem Fr.nil(base:Nat): Fr none base:=fun a h=>by cases h
theorem Fr.mono{A:Option Addr}{base b:Nat}(h:Fr A base)(hb:b≤base): Fr A b:=fun a e=>Nat.le_trans hb (h a e)
def Slim(w:World)(c:Nat): Prop:=∃arr t fz,w.heap[c]?=some (.cells arr t fz)∧arr.size≤200
theorem cell_off{w w':World}{c:Nat}(ho:∀q,q≠c→w'.heap[q]?=w.heap[q]?){g:Nat}(hg:g≠c)(i:Nat): w'.cell? ⟨g,i,none⟩=w.cell? ⟨g,i,none⟩:=by simp only [World.cell?,ho g hg]
theorem IntsAt.off{w w':World}{A:Option Addr}{n:Nat}{xs:List Int}{c base:Nat}(h:IntsAt w A n xs)(hf:Fr A base)(hc:c<base)(ho:∀q,q≠c→w'.heap[q]?=w.heap[q]?): IntsAt w' A n xs:=by refine⟨h.1,fun j hj=>?_⟩;obtain⟨g,o,e,h2⟩:=h.2 j hj;have:=hf _ e;exact⟨g,o,e,by rw [cell_off ho (by dsimp only at this;omega)];exact h2⟩
theorem PtsAt.off{w w':World}{A:Option Addr}{n:Nat}{xs:List (Int×Int)}{c base:Nat}(h:PtsAt w A n xs)(hf:Fr A base)(hc:c<base)(ho:∀q,q≠c→w'.heap[q]?=w.heap[q]?): PtsAt w' A n xs:=by
 refine⟨h.1,fun j hj=>?_⟩;obtain⟨g,o,e,h2,h3⟩:=h.2 j hj;have:=hf _ e;have hg:g≠c:=by dsimp only at this;omega
 exact⟨g,o,e,by rw [cell_off ho hg];exact h2,by rw [cell_off ho hg];exact h3⟩
theorem TilesAt.off{w w':World}{A:Option Addr}{n:Nat}{ts:List TileM}{c:Nat}(h:TilesAt w A n ts)(hs:Slim w c)(ho:∀q,q≠c→w'.heap[q]?=w.heap[q]?): TilesAt w' A n ts:=by
 refine⟨h.1,fun j t ht=>?_⟩;obtain⟨h1,g,o,h2,h3⟩:=h.2 j t ht;refine⟨h1,g,o,h2,?_⟩;have hg:g≠c:=by
  rintro rfl;obtain⟨arr,ty,fz,e1,e2⟩:=hs;have hl:257<t.row.length:=by simp [TileM.row,h1.1]
  have:=h3 257 _ (List.getElem?_eq_getElem hl);rw [cell_of_row _ _ _ _ _ _ e1,Array.getElem?_eq_none (by omega)]at this;cases this
 intro k u hu;rw [←h3 k u hu];exact cell_off ho hg _
structure LayerM.New(l:LayerM)(w:World)(base:Nat): Prop where
 at_:l.At w
 fi:Fr l.kidA base
 fk:Fr l.filt.kA base
 fc:Fr l.filt.cA base
 fp:Fr l.pA base
theorem LayerM.New.off{l:LayerM}{w w':World}{base c:Nat}(h:l.New w base)(hc:c<base)(hs:Slim w c)(ho:∀q,q≠c→w'.heap[q]?=w.heap[q]?): l.New w' base:=
 ⟨⟨h.at_.kids.off h.fi hc ho,h.at_.ks.off h.fk hc ho,h.at_.cs.off h.fc hc ho,h.at_.pts.off h.fp hc ho,h.at_.tiles.off hs ho,h.at_.mask.off hs ho,h.at_.kidb⟩,h.fi,h.fk,h.fc,h.fp⟩
theorem LayerM.New.turn{l:LayerM}{w w':World}{base:Nat}(h:l.New w base)(T:Turn [] w w'): l.New w' base:=⟨h.at_.turn T,h.fi,h.fk,h.fc,h.fp⟩
theorem LayerM.New.mono{l:LayerM}{w:World}{base b:Nat}(h:l.New w base)(hb:b≤base): l.New w b:=⟨h.at_,h.fi.mono hb,h.fk.mono hb,h.fc.mono hb,h.fp.mono hb⟩
theorem setCell_row{w:World}{b i:Nat}{L L':List Value}{v:Value}{t:TypeId}{fz:Nat×Nat}(h:w.heap[b]?=some (.cells ⟨L⟩ t fz))(hr:L.set i v=L'): w.setCell ⟨b,i,none⟩ v=w.setRow b ⟨L'⟩:=by
 subst hr;simp only [World.setCell,World.setRow];congr 1;apply Array.ext_getElem?;intro j;simp only [Array.getElem?_modify];by_cases e:b=j
 ·subst e;simp [h]
 simp [e]
theorem infoPT:(prog.info? 147).map (fun i=>(i.zero,i.size,i.bytes))=some (some (.agg #[(0:Int),(0:Int)]),2,16):=by kernel_rfl
def elemP:Elem:=⟨147,2,16,.agg #[(0:Int),(0:Int)],infoPT,rfl,by decide,by decide,by decide⟩
def ptRow(p:Int×Int): List Value:=[p.1,p.2]
theorem pt_row(p:Int×Int): elemP.Row (ptRow p):=⟨rfl,fun u hu=>by
 simp only [ptRow,List.mem_cons,List.mem_nil_iff,or_false]at hu;rcases hu with rfl | rfl <;> rfl⟩
theorem own_pts{w:World}{base:Nat}{A:Option Addr}{n cap:Nat}{ps:List (Int×Int)}(h:Own elemP w base (.slice A n cap) (ps.map ptRow)): PtsAt w A n ps∧Fr A base:=by
 rcases h.form with ⟨e,h0⟩ | ⟨g,o,cap',e,hb,_,_,hr⟩
 ·injection e with e1 e2 e3;rw [e1,e2];have:ps=[]:=List.map_eq_nil_iff.1 h0;rw [this];exact⟨⟨rfl,fun j hj=>absurd hj (Nat.not_lt_zero j)⟩,.nil _⟩
 injection e with e1 e2 e3;rw [List.length_map]at e2;rw [e1,e2];refine⟨⟨rfl,fun j hj=>⟨g,o,rfl,?_⟩⟩,fun a ea=>by injection ea with ea;rw [←ea];exact hb⟩;have hj':(ps.map ptRow)[j]?=some (ptRow ps[j]):=by simp [hj]
 have h2:=hr j _ hj';have e5:ps.getD j (0,0)=ps[j]:=by simp [List.getD,hj]
 rw [e5];rw [show elemP.size=2 from rfl]at h2;exact⟨by simpa using h2 0 _ rfl,by simpa [Nat.add_assoc]using h2 1 _ rfl⟩
def s8(s0 s1 s2 s3 s4 s5 s6 s7:Int): List Value:=[s0,s1,s2,s3,s4,s5,s6,s7]
def P3:List (Int×Int):=[(0,0),(0,0),(0,0)]
def LayerM.Bare0(l:LayerM): Prop:=(l.kidA=none∧l.kidn=0∧l.kids=[])∧(l.filt.kA=none∧l.filt.kn=0∧l.ks=[])∧l.filt.cA=none∧l.filt.cn=0∧l.cs=[]
def LayerM.Bare(l:LayerM): Prop:=l.Bare0∧l.pts=[]∧l.pA=none∧l.pn=0∧l.pc=0
def zeroL : LayerM :=
  { id := 0, kind := 0, name := ⟨#[]⟩, hidden := false, opacity := 0, mode := 0, clip := false,
    place := ⟨0, 0, 0, 0, 0, 0, 0⟩, space := 0, kidA := none, kidn := 0, kidc := 0, kids := [], of := 0,
    filt := ⟨0, 0, none, 0, 0, 0, 0, none, 0, 0⟩, ks := [], cs := [], f0 := 0, f1 := 0, f2 := 0, f3 := 0, pA := none, pn := 0, pc := 0, pts := [],
    tA := none, tn := 0, tc := 0, tiles := [], hasMask := false, mA := none, mn := 0, mc := 0, mask := [] }
structure LyW(w wr:World)(b3:Nat)(S:List Value)(k:Int)(l:LayerM): Prop where
 t:Turn [] w wr
 hs:wr.heap[w.heap.size]?=some (.cells ⟨S⟩ 102 (0,0))
 h2:wr.heap[w.heap.size+1]?=some (.cells ⟨zeroL.row⟩ 89 (0,0))
 h3:wr.heap[b3]?=some (.cells ⟨l.row⟩ 89 (0,0))
 lt:w.heap.size+2≤b3
 ok:LayerM.Tidy { l with pts:=P3 } 0
 kd:l.kind=k
 bare:l.Bare
 own:Own elemP wr (b3+1) (.slice l.pA l.pn l.pc) (l.pts.map ptRow)
 ti:TilesAt wr l.tA l.tn l.tiles
 mk_:TilesAt wr l.mA l.mn l.mask
variable {w wr u:World} {b3:Nat} {S:List Value} {k:Int} {l:LayerM}
theorem LyW.lt2(P:LyW w wr b3 S k l): b3<wr.heap.size:=(Array.getElem?_eq_some_iff.1 P.h3).1
theorem LyW.turn(P:LyW w wr b3 S k l)(T:Turn [] wr u): LyW w u b3 S k l:=by have h1:=P.lt;have h2:=P.lt2;exact⟨P.t.trans T,(T.old _ (by omega) (by simp)).trans P.hs,(T.old _ (by omega) (by simp)).trans P.h2,(T.old _ (by omega) (by simp)).trans P.h3,P.lt,P.ok,P.kd,P.bare,P.own.turn T,P.ti.turn T,P.mk_.turn T⟩
theorem LyW.slim(P:LyW w wr b3 S k l): Slim wr b3:=⟨_,_,_,P.h3,by simp [LayerM.row]⟩
theorem turn_row(u:World)(b:Nat)(c:Array Value): Turn [b] u (u.setRow b c):=(Turn.refl [b] u).setRow _ (.inl (by simp))
theorem own_off{v:Value}{rows:List (List Value)}(h:Own elemP u (b3+1) v rows)(c:Array Value): Own elemP (u.setRow b3 c) (b3+1) v rows:=
 h.kept (turn_row u b3 c) fun g hg hm=>by have:=(h.2.lt g hg).1;simp at hm;omega
theorem LyW.put(P:LyW w wr b3 S k l)(l':LayerM)(ok:LayerM.Tidy { l' with pts:=P3 } 0)(kd:l'.kind=k)(bare:l'.Bare)(own:Own elemP wr (b3+1) (.slice l'.pA l'.pn l'.pc) (l'.pts.map ptRow))(ti:TilesAt wr l'.tA l'.tn l'.tiles)(mk:TilesAt wr l'.mA l'.mn l'.mask): LyW w (wr.setRow b3 ⟨l'.row⟩) b3 S k l':=by have h1:=P.lt;have h2:=P.lt2;exact⟨P.t.setRow _ (.inr (by omega)),(setRow_other _ _ _ _ (by omega)).trans P.hs,(setRow_other _ _ _ _ (by omega)).trans P.h2,setRow_at P.h3,h1,ok,kd,bare,own_off own _,ti.off P.slim (fun q hq=>setRow_other _ _ _ q hq),mk.off P.slim (fun q hq=>setRow_other _ _ _ q hq)⟩
theorem LyW.cell(P:LyW w wr b3 S k l)(l':LayerM){i:Nat}{v:Value}(hr:l.row.set i v=l'.row)(ok:LayerM.Tidy { l' with pts:=P3 } 0)(kd:l'.kind=k)(bare:l'.Bare)(own:Own elemP wr (b3+1) (.slice l'.pA l'.pn l'.pc) (l'.pts.map ptRow))(ti:TilesAt wr l'.tA l'.tn l'.tiles)(mk:TilesAt wr l'.mA l'.mn l'.mask): LyW w (wr.setCell ⟨b3,i,none⟩ v) b3 S k l':=by rw [setCell_row P.h3 hr];exact P.put l' ok kd bare own ti mk
structure LyF(w wr:World)(b3:Nat)(l:LayerM): Prop where
 t:Turn [] w wr
 h2:wr.heap[w.heap.size+1]?=some (.cells ⟨zeroL.row⟩ 89 (0,0))
 h3:wr.heap[b3]?=some (.cells ⟨l.row⟩ 89 (0,0))
 lt:w.heap.size+2≤b3
 ok:l.Tidy 0
 nw:l.New wr (b3+1)
 kid:l.kidn=0∧l.kids=[]
theorem LyW.fin(P:LyW w wr b3 S k l)(hp:l.kind=5→pathB l.pts=true): LyF w wr b3 l:=by
 obtain⟨⟨⟨k1,k2,k3⟩,⟨f1,f2,f3⟩,c1,c2,c3⟩,_⟩:=P.bare;have hA:=own_pts P.own;have hk:=P.ok;refine⟨P.t,P.h2,P.h3,P.lt,{ hk with path:=hp },⟨⟨?_,?_,?_,hA.1,P.ti,P.mk_,by omega⟩,?_,?_,?_,hA.2⟩,k2,k3⟩
 ·rw [k1,k2,k3];exact ints_none _
 ·rw [f1,f2,f3];exact ints_none _
 ·rw [c1,c2,c3];exact ints_none _
 ·rw [k1];exact .nil _
 ·rw [f1];exact .nil _
 rw [c1];exact .nil _
theorem LyW.filt(P:LyW w wr b3 S 3 l)(f:Fv)(ks cs:List Int)(hk:Il wr (b3+1) (.slice f.kA f.kn f.kc) ks)(hc:Il wr (b3+1) (.slice f.cA f.cn f.cc) cs): LyF w (wr.setRow b3 ⟨({ l with filt:=f,ks:=ks,cs:=cs }:LayerM).row⟩) b3 { l with filt:=f,ks:=ks,cs:=cs }:=by
 obtain⟨⟨⟨k1,k2,k3⟩,_⟩,_⟩:=P.bare;have h1:=P.lt;have h2:=P.lt2;have hkd:=P.kd;have ho:=fun q hq=>setRow_other wr b3 ⟨({ l with filt:=f,ks:=ks,cs:=cs }:LayerM).row⟩ q hq;have hA:=own_pts (own_off P.own ⟨({ l with filt:=f,ks:=ks,cs:=cs }:LayerM).row⟩);have fr:∀{A:Option Addr} {n cap:Nat} {xs:List Int},Il wr (b3+1) (.slice A n cap) xs→Fr A (b3+1):=fun h a ea=>by subst ea;obtain⟨g,o,s⟩:=a;exact (h.lt g (by simp [blks,Value.ownBlock])).1
 have hok:=P.ok;refine⟨P.t.setRow _ (.inr (by omega)),(setRow_other _ _ _ _ (by omega)).trans P.h2,setRow_at P.h3,h1,{ hok with nofilt:=fun h=>absurd hkd h,path:=fun h=>by have h:l.kind=5:=h;omega },⟨⟨?_,?_,?_,hA.1,P.ti.off P.slim ho,P.mk_.off P.slim ho,by show l.kidn≤50;omega⟩,?_,fr hk,fr hc,hA.2⟩,k2,k3⟩
 ·show IntsAt _ l.kidA l.kidn l.kids;rw [k1,k2,k3];exact ints_none _
 ·exact hk.ints'.off (fr hk) (Nat.lt_succ_self _) ho
 ·exact hc.ints'.off (fr hc) (Nat.lt_succ_self _) ho
 show Fr l.kidA _;rw [k1];exact .nil _
theorem TilesAt.below{w w':World}{A:Option Addr}{n:Nat}{ts:List TileM}{bb:Nat}(h:TilesAt w A n ts)(hb:0<n→∀a,A=some a→a.block<bb)(ho:∀q,q<bb→w'.heap[q]?=w.heap[q]?): TilesAt w' A n ts:=by refine⟨h.1,fun j t ht=>?_⟩;obtain⟨h1,g,o,h2,h3⟩:=h.2 j t ht;have hj:=(List.getElem?_eq_some_iff.1 ht).1;have hg:=hb (by have:=h.1;omega) _ h2;refine⟨h1,g,o,h2,fun i v hv=>?_⟩;rw [←h3 i v hv];simp only [World.cell?,ho g hg]
theorem TilesAt.lt{w:World}{A:Option Addr}{n:Nat}{ts:List TileM}(h:TilesAt w A n ts): 0<n→∀a,A=some a→a.block<w.heap.size:=by
 intro hn a ha;have hl:0<ts.length:=by have:=h.1;omega
 obtain⟨h1,g,o,h2,h3⟩:=h.2 0 ts[0] (by simp [hl]);rw [h2]at ha;injection ha with ha;rw [←ha];exact block_lt_of_cell (h3 0 _ rfl)
structure LyV(w wr:World)(b3 bb:Nat)(S:List Value)(l:LayerM): Prop where
 t:Turn [] w wr
 hs:wr.heap[w.heap.size]?=some (.cells ⟨S⟩ 102 (0,0))
 h2:wr.heap[w.heap.size+1]?=some (.cells ⟨zeroL.row⟩ 89 (0,0))
 h3:wr.heap[b3]?=some (.cells ⟨l.row⟩ 89 (0,0))
 lt:w.heap.size+2≤b3∧b3<bb∧bb≤wr.heap.size
 ok:LayerM.Tidy { l with pts:=P3 } 0
 kd:l.kind=5
 bare:l.Bare0
 own:Own elemP wr bb (.slice l.pA l.pn l.pc) (l.pts.map ptRow)
 ti:TilesAt wr l.tA l.tn l.tiles
 tb:0<l.tn→∀a,l.tA=some a→a.block<bb
 mk_:TilesAt wr l.mA l.mn l.mask
 mb:0<l.mn→∀a,l.mA=some a→a.block<bb
theorem LyW.path(P:LyW w wr b3 S 5 l): LyV w wr b3 wr.heap.size S l:=
 have h:=P.bare.2.1
 have hA:=P.bare.2.2.1
 have hn:=P.bare.2.2.2.1
 have hc:=P.bare.2.2.2.2
 ⟨P.t,P.hs,P.h2,P.h3,⟨P.lt,P.lt2,Nat.le_refl _⟩,P.ok,P.kd,P.bare.1,by rw [h,hA,hn,hc];exact own_none _ _ _,P.ti,P.ti.lt,P.mk_,P.mk_.lt⟩
variable {bb:Nat}
theorem LyV.turn(P:LyV w wr b3 bb S l)(T:Turn [] wr u): LyV w u b3 bb S l:=by obtain⟨l1,l2,l3⟩:=P.lt;have hs:=T.size;exact⟨P.t.trans T,(T.old _ (by omega) (by simp)).trans P.hs,(T.old _ (by omega) (by simp)).trans P.h2,(T.old _ (by omega) (by simp)).trans P.h3,⟨l1,l2,by omega⟩,P.ok,P.kd,P.bare,P.own.turn T,P.ti.turn T,P.tb,P.mk_.turn T,P.mb⟩
theorem LyV.step(P:LyV w wr b3 bb S l){bs:List Nat}(T:Turn bs wr u)(hb:∀q∈bs,bb≤q){A:Option Addr}{n c:Nat}{ps:List (Int×Int)}(hI:Own elemP u bb (.slice A n c) (ps.map ptRow)):
  LyV w (u.setCell ⟨b3,27,none⟩ (.slice A n c)) b3 bb S { l with pA:=A,pn:=n,pc:=c,pts:=ps }:=by
 obtain⟨l1,l2,l3⟩:=P.lt;have hs:=T.size;have old:∀q,q<bb→u.heap[q]?=wr.heap[q]?:=fun q hq=>T.old q (by omega) (fun hm=>by have:=hb q hm;omega);have h3:=(old b3 l2).trans P.h3;have hsl:Slim u b3:=⟨_,_,_,h3,by simp [LayerM.row]⟩;have ho:=fun q hq=>setCell_other u b3 27 (.slice A n c) q hq;have hok:=P.ok;have hkd:=P.kd;refine⟨(turn_new P.t T (fun q hq=>by have:=hb q hq;omega)).sc,(setCell_other _ _ _ _ _ (by omega)).trans ((old _ (by omega)).trans P.hs),(setCell_other _ _ _ _ _ (by omega)).trans ((old _ (by omega)).trans P.h2),setCell_at h3 rfl,⟨l1,l2,by rw [World.size_setCell];omega⟩,
  { hok with nopath:=fun h=>absurd hkd h },hkd,P.bare,?_,(P.ti.below P.tb old).off hsl ho,P.tb,(P.mk_.below P.mb old).off hsl ho,P.mb⟩
 exact hI.kept ((Turn.refl [b3] u).setCell _ (.inl (by simp))) (fun q hq hm=>by have:=(hI.2.lt q hq).1;simp at hm;omega)
theorem LyV.fin(P:LyV w wr b3 bb S l)(hp:pathB l.pts=true): LyF w wr b3 l:=by
 obtain⟨⟨k1,k2,k3⟩,⟨f1,f2,f3⟩,c1,c2,c3⟩:=P.bare;obtain⟨l1,l2,l3⟩:=P.lt;have hA:=own_pts P.own;have hk:=P.ok;refine⟨P.t,P.h2,P.h3,l1,{ hk with path:=fun _=>hp },⟨⟨?_,?_,?_,hA.1,P.ti,P.mk_,by omega⟩,?_,?_,?_,hA.2.mono l2⟩,k2,k3⟩
 ·rw [k1,k2,k3];exact ints_none _
 ·rw [f1,f2,f3];exact ints_none _
 ·rw [c1,c2,c3];exact ints_none _
 ·rw [k1];exact .nil _
 ·rw [f1];exact .nil _
 rw [c1];exact .nil _
theorem pathB_far{ps:List (Int×Int)}(h3:3≤ps.length)(h64:ps.length≤64)(hf:∀p∈ps,farB p.1 p.2=false): pathB ps=true:=by unfold pathB;simp only [Bool.and_eq_true,decide_eq_true_eq,List.all_eq_true];exact⟨⟨h3,h64⟩,fun p hp=>by rw [hf p hp];rfl⟩
theorem wrap_bd{z:Int}(h0:-1000≤z)(h1:z≤1000): wrap64 z=z:=wrap_small _ (by omega) (by omega)
theorem LyW.pix(P:LyW w wr b3 S 5 l)(r g b a:Int): LyW w (wr.setRow b3 ⟨({ l with f0:=r,f1:=g,f2:=b,f3:=a }:LayerM).row⟩) b3 S 5 { l with f0:=r,f1:=g,f2:=b,f3:=a }:=by
 have hkd:=P.kd;refine P.put { l with f0:=r,f1:=g,f2:=b,f3:=a } ?_ hkd ?_ P.own P.ti P.mk_
 ·have o:=P.ok;exact { o with nopath:=fun h=>absurd hkd h }
 exact P.bare
def shrM(p c:Int): Int:=p.fdiv (2 ^ (min c.toNat 64))
theorem exec_shr{P:Program}{o:Oper}{a:Act}{xt yt:TypeId}{x y:Operand}{p c:Int}(ho:o.op=.binOp .shr xt x y yt)(hx:a.eval x=p)(hy:a.eval y=c)(hc:0≤c)(w:World): (execOp a.eval o).run P w=.ok (.value (.int .i64 (shrM p c))) w:=by simp only [execOp,ho,hx,hy];simp [eqGuard,binOp,Op.shift,show ¬c<0 by omega,shrM,IntKind.bits]
theorem build_PT(x y:Int)(u:World): (Instr.build 147 #[(0,x),(1,y)]).run prog u=.ok (.agg ⟨ptRow (x,y)⟩) u:=by kernel_rfl
theorem infoFIL:(prog.info? 83).map (·.size)=some 6:=by kernel_rfl
theorem infoPXn:(prog.info? 64).map (·.size)=some 4:=by kernel_rfl
theorem infoLYR:(prog.info? 89).map (fun i=>(i.zero,i.size))=some (some (.agg ⟨zeroL.row⟩),31):=by kernel_rfl
theorem alloc_LY(u:World): (Instr.alloc 89 true (.tuple #[])).run prog u=.ok (.pointer (some ⟨u,0,none⟩)) (u.alloc (.cells ⟨zeroL.row⟩ 89)):=by unfold Instr.alloc;rw [Sem.run_bind,(zero_of_info infoLYR).1];rfl
theorem infoAFn:(prog.info? 80).map (·.size)=some 7:=by kernel_rfl
theorem row_one(l:LayerM): ∀v∈l.row,v.oneCell'=true:=by intro v hv;simp only [LayerM.row,List.mem_cons,List.mem_nil_iff,or_false]at hv;rcases hv with h | h | h | h | h | h | h | h | h | h | h | h | h | h | h | h | h | h | h | h | h | h | h | h | h | h | h | h | h | h | h <;> (subst h;rfl)
theorem store_LY(u:World)(l:LayerM): (Instr.storeAt 89 (.pointer (some ⟨u,0,none⟩)) (.agg ⟨l.row⟩)).run prog (u.alloc (.cells ⟨zeroL.row⟩ 89))=.ok () (u.alloc (.cells ⟨l.row⟩ 89)):=
 run_storeAt_new u 89 _ ⟨l.row⟩ (zero_of_info infoLYR).2 rfl (all_oneCell_toArray (cs:=l.row) (row_one l))
theorem default_tidy(k:Int)(h1:1≤k)(h2:k≤5): LayerM.Tidy { defaultM k with pts:=P3 } 0:=by
 obtain rfl | rfl | rfl | rfl | rfl:k=1∨k=2∨k=3∨k=4∨k=5:=by omega
 all_goals
  refine⟨?_,?_,?_,?_,?_,?_,?_,?_,?_,?_,?_,?_,?_,?_⟩ <;> simp [defaultM,names9,P3] <;> decide
theorem default_bare(k:Int): (defaultM k).Bare:=⟨⟨⟨rfl,rfl,rfl⟩,⟨rfl,rfl,rfl⟩,rfl,rfl,rfl⟩,rfl,rfl,rfl,rfl⟩
theorem tiles_none'(w:World): TilesAt w none 0 []:=⟨rfl,fun j t h=>by simp at h⟩
theorem cell_keep{w u:World}(hu:∀q,q<w.heap.size→u.heap[q]?=w.heap[q]?){g i:Nat}{v:Value}(h:w.cell? ⟨g,i,none⟩=some v): u.cell? ⟨g,i,none⟩=some v:=by rw [←h];simp only [World.cell?,hu g (block_lt_of_cell h)]
theorem IntsAt.keep{w u:World}(hu:∀q,q<w.heap.size→u.heap[q]?=w.heap[q]?){A:Option Addr}{n:Nat}{c:List Int}(h:IntsAt w A n c): IntsAt u A n c:=
 ⟨h.1,fun j hj=>by obtain⟨g,o,e,h2⟩:=h.2 j hj;exact⟨g,o,e,cell_keep hu h2⟩⟩
theorem PtsAt.keep{w u:World}(hu:∀q,q<w.heap.size→u.heap[q]?=w.heap[q]?){A:Option Addr}{n:Nat}{c:List (Int×Int)}(h:PtsAt w A n c): PtsAt u A n c:=
 ⟨h.1,fun j hj=>by obtain⟨g,o,e,h2,h3⟩:=h.2 j hj;exact⟨g,o,e,cell_keep hu h2,cell_keep hu h3⟩⟩
theorem TilesAt.keep{w u:World}(hu:∀q,q<w.heap.size→u.heap[q]?=w.heap[q]?){A:Option Addr}{n:Nat}{c:List TileM}(h:TilesAt w A n c): TilesAt u A n c:=
 ⟨h.1,fun j t ht=>by obtain⟨h1,g,o,e,h2⟩:=h.2 j t ht;exact⟨h1,g,o,e,fun i v hv=>cell_keep hu (h2 i v hv)⟩⟩
theorem LayerM.At.keep{w u:World}(hu:∀q,q<w.heap.size→u.heap[q]?=w.heap[q]?){l:LayerM}(h:l.At w): l.At u:=
 ⟨h.kids.keep hu,h.ks.keep hu,h.cs.keep hu,h.pts.keep hu,h.tiles.keep hu,h.mask.keep hu,h.kidb⟩
end
theorem infoIN:(prog.info? 3).map (fun i=>(i.zero,i.size,i.bytes))=some (some (.int .i64 0),1,8):=by kernel_rfl
def elemN:Elem:=⟨3,1,8,(0:Int),infoIN,rfl,by decide,by decide,by decide⟩
def RowsAt(k:Elem)(w:World)(A:Option Addr)(rows:List (List Value)): Prop:=∀j r,rows[j]?=some r→∃g o,A=some ⟨g,o,none⟩∧w.rangeAt g (o+j*k.size) r
theorem RowsAt.turn{k:Elem}{w w':World}{A:Option Addr}{rows:List (List Value)}(h:RowsAt k w A rows)(T:Turn [] w w'): RowsAt k w' A rows:=fun j r hr=>by obtain⟨g,o,e,h2⟩:=h j r hr;exact⟨g,o,e,range_turn T h2⟩
theorem RowsAt.nil{k:Elem}{w:World}{rows:List (List Value)}(h:RowsAt k w none rows): rows=[]:=by
 cases rows with
 | nil=>rfl
 | cons r rows=>
  obtain⟨g,o,e,_⟩:=h 0 r rfl;cases e
theorem RowsAt.some{k:Elem}{w:World}{a:Addr}{rows:List (List Value)}(h:RowsAt k w (.some a) rows): ∃g o,(rows≠[]→a=⟨g,o,none⟩)∧∀j r,rows[j]?=.some r→w.rangeAt g (o+j*k.size) r:=by
 cases rows with
 | nil=>exact⟨0,0,fun h=>absurd rfl h,fun j r h=>by simp at h⟩
 | cons r rows=>
  obtain⟨g,o,e,_⟩:=h 0 r rfl;injection e with e;refine⟨g,o,fun _=>e,fun j r hr=>?_⟩;obtain⟨g',o',e',h2⟩:=h j r hr;rw [e]at e';injection e' with e';injection e' with e1 e2 _;subst e1;subst e2;exact h2
def IsClone(k:Elem)(w w':World)(rows:List (List Value))(e:Ending): Prop:=∃v,e=.returned v∧Own k w' w.heap.size v rows
theorem own_empty(k:Elem)(u:World): Own k (u.alloc (.cells #[] k.e)) u.heap.size (.slice (some ⟨u,0,none⟩) 0 0) []:=
 ⟨fun r h=>by simp at h,by simp,.inr ⟨_,_,_,_,rfl,Nat.le_refl _,heap_alloc_new _ _,Nat.le_refl _,by omega,by simp,fun j v hj=>by simp at hj⟩⟩
theorem app_rows{k:Elem}{t:TypeId}(ht:prog.underlying t=some (.slice k.e)){w:World}{base:Nat}{v:Value}{rows news:List (List Value)}(h:Own k w base v rows)(a:Addr)(cap:Nat)(h1:∀r∈news,k.Row r)
  (hc:RowsAt k w (some a) news) (hb:base≤w.heap.size) (hn:rows.length+news.length≤100000) (ty:TypeId) :
  ∃v' w',(Builtin.append_ #[t,t] ty #[v,.slice (some a) news.length cap]).run prog w=.ok v' w'∧Own k w' base v' (rows ++ news)∧Turn (blks v) w w'∧(∀g∈blks v',g∈blks v∨w.heap.size≤g):=by
 obtain⟨i,hI,iz,is,ib⟩:=k.info;have hl:news.flatten.length=news.length*k.size:=by rw [flatten_len fun r hr=>(h1 r hr).len]
 obtain⟨g,o,ha,hR⟩:=hc.some;have haj:∀j,j<news.length*k.size→a=⟨g,o,none⟩:=fun j hj=>ha (fun e=>by rw [e]at hj;simp at hj);obtain⟨v',w',e1,e2,e3,e4⟩:=srow_append (P:=prog) (ty:=ty) ht hI iz is ib k.hz k.hs h.2 a news.length cap news.flatten hl (fun j u hu=>by
  have hj:j<news.length*k.size:=by rw [←hl];exact (List.getElem?_eq_some_iff.1 hu).1
  have hq:j / k.size<news.length:=Nat.div_lt_of_lt_mul (by rw [Nat.mul_comm];exact hj);have hr:=Nat.mod_lt j k.hs;have he:j / k.size*k.size+j % k.size=j:=by rw [Nat.mul_comm];exact Nat.div_add_mod j k.size
  rw [←he,flatten_at (fun r hr=>(h1 r hr).len) _ _ hr]at hu;have hn:news[j / k.size]?=some news[j / k.size]:=List.getElem?_eq_getElem hq;rw [hn]at hu;rw [haj j hj,Addr.add_lit];have:=hR _ _ hn _ u hu;rw [show o+j=o+j / k.size*k.size+j % k.size by omega];exact this) (fun u hu=>by
  obtain⟨r,hr,hu⟩:=List.mem_flatten.1 hu;exact (h1 r hr).one u hu) (Nat.le_trans hn (by decide)) (by
  have:=k.hc;have:(rows.length+news.length)*k.bytes≤100000*4096:=Nat.mul_le_mul hn this;omega) hb
 refine⟨v',w',e1,⟨fun r hr=>?_,?_⟩,e3,e4⟩
 ·rcases List.mem_append.1 hr with hr | hr
  ·exact h.1 r hr
  exact h1 r hr
 rw [List.length_append,List.flatten_append];exact e2
theorem clone_ints(rows:List (List Value))(A:Option Addr)(cap:Nat)(hr:∀r∈rows,elemN.Row r)(hn:rows.length≤50000)(w:World)(h:RowsAt elemN w A rows): Calls prog 171 #[.slice A rows.length cap] w fun e w'=>IsClone elemN w w' rows e∧Turn [] w w':=by
 cases A with
 | none=>
  obtain rfl:=h.nil;clear h hr hn;simp only [List.length_nil];have hq:(binOp .eql 22 (.slice none 0 cap) (.slice none 0 0)).run prog w=.ok (.bool true) w:=Lib.run_eql_slice_nil w _ _ none _ _ _ _ underlying22;go_enter func171,ntmps171;go_wp2_with fail
  go_ret;exact⟨⟨_,rfl,own_none _ _ _⟩,Turn.refl _ _⟩
 | some a=>
  have hq:(binOp .eql 22 (.slice (some a) rows.length cap) (.slice none 0 0)).run prog w=.ok (.bool false) w:=Lib.run_eql_slice_nil w _ _ (some a) _ _ _ _ underlying22;have hT:=(tR w).alloc (.cells #[] elemN.e);obtain⟨v',w',e1,e2,e3,_⟩:=app_rows (t:=22) underlying22 (own_empty elemN w) a cap hr (h.turn hT) (by simp) (by simp;omega) 22;have e4:Turn [] w w':=turn_new hT e3 (fun g hg=>by rw [blks_slice]at hg;simp at hg;omega);have hb:∀u,(Instr.buildSlice 22 0 #[]).run prog u=.ok (.slice (some ⟨u,0,none⟩) 0 0) (u.alloc (.cells #[] elemN.e)):=fun u=>by kernel_rfl
  have HE:=lh (And.intro e2 e4);have HB:=lh hb;have HA:=lh e1;clear e2 e3 e4 hT h hr hn hb e1;generalize rows.length=n at *;go_enter func171,ntmps171;go_wp2_with (first
   | (refine wpList_yield rfl (exec_slice (vs:=#[]) rfl rfl (HB.out _)) ?_;try go_frame)
   | (at_builtin;refine wpList_yield rfl (exec_app (v:=.slice (some ⟨w,0,none⟩) 0 0) (y:=.slice (some a) n cap) (.tmp 5) (.tmp 6) 22 rfl rfl rfl HA.out) ?_;try go_frame))
  go_ret;exact⟨⟨_,rfl,HE.out.1⟩,HE.out.2⟩
theorem clone_pts(rows:List (List Value))(A:Option Addr)(cap:Nat)(hr:∀r∈rows,elemP.Row r)(hn:rows.length≤50000)(w:World)(h:RowsAt elemP w A rows): Calls prog 172 #[.slice A rows.length cap] w fun e w'=>IsClone elemP w w' rows e∧Turn [] w w':=by
 cases A with
 | none=>
  obtain rfl:=h.nil;clear h hr hn;simp only [List.length_nil];have hq:(binOp .eql 84 (.slice none 0 cap) (.slice none 0 0)).run prog w=.ok (.bool true) w:=Lib.run_eql_slice_nil w _ _ none _ _ _ _ underlying84;go_enter func172,ntmps172;go_wp2_with fail
  go_ret;exact⟨⟨_,rfl,own_none _ _ _⟩,Turn.refl _ _⟩
 | some a=>
  have hq:(binOp .eql 84 (.slice (some a) rows.length cap) (.slice none 0 0)).run prog w=.ok (.bool false) w:=Lib.run_eql_slice_nil w _ _ (some a) _ _ _ _ underlying84;have hT:=(tR w).alloc (.cells #[] elemP.e);obtain⟨v',w',e1,e2,e3,_⟩:=app_rows (t:=84) underlying84 (own_empty elemP w) a cap hr (h.turn hT) (by simp) (by simp;omega) 84;have e4:Turn [] w w':=turn_new hT e3 (fun g hg=>by rw [blks_slice]at hg;simp at hg;omega);have hb:∀u,(Instr.buildSlice 84 0 #[]).run prog u=.ok (.slice (some ⟨u,0,none⟩) 0 0) (u.alloc (.cells #[] elemP.e)):=fun u=>by kernel_rfl
  have HE:=lh (And.intro e2 e4);have HB:=lh hb;have HA:=lh e1;clear e2 e3 e4 hT h hr hn hb e1;generalize rows.length=n at *;go_enter func172,ntmps172;go_wp2_with (first
   | (refine wpList_yield rfl (exec_slice (vs:=#[]) rfl rfl (HB.out _)) ?_;try go_frame)
   | (at_builtin;refine wpList_yield rfl (exec_app (v:=.slice (some ⟨w,0,none⟩) 0 0) (y:=.slice (some a) n cap) (.tmp 5) (.tmp 6) 84 rfl rfl rfl HA.out) ?_;try go_frame))
  go_ret;exact⟨⟨_,rfl,HE.out.1⟩,HE.out.2⟩
theorem clone_curve(rows:List (List Value))(A:Option Addr)(cap:Nat)(hr:∀r∈rows,elemN.Row r)(hn:rows.length≤50000)(w:World)(h:RowsAt elemN w A rows): Calls prog 173 #[.slice A rows.length cap] w fun e w'=>IsClone elemN w w' rows e∧Turn [] w w':=by
 cases A with
 | none=>
  obtain rfl:=h.nil;clear h hr hn;simp only [List.length_nil];have hq:(binOp .eql 81 (.slice none 0 cap) (.slice none 0 0)).run prog w=.ok (.bool true) w:=Lib.run_eql_slice_nil w _ _ none _ _ _ _ underlying81;go_enter func173,ntmps173;go_wp2_with fail
  go_ret;exact⟨⟨_,rfl,own_none _ _ _⟩,Turn.refl _ _⟩
 | some a=>
  have hq:(binOp .eql 81 (.slice (some a) rows.length cap) (.slice none 0 0)).run prog w=.ok (.bool false) w:=Lib.run_eql_slice_nil w _ _ (some a) _ _ _ _ underlying81;have hT:=(tR w).alloc (.cells #[] elemN.e);obtain⟨v',w',e1,e2,e3,_⟩:=app_rows (t:=81) underlying81 (own_empty elemN w) a cap hr (h.turn hT) (by simp) (by simp;omega) 81;have e4:Turn [] w w':=turn_new hT e3 (fun g hg=>by rw [blks_slice]at hg;simp at hg;omega);have hb:∀u,(Instr.buildSlice 81 0 #[]).run prog u=.ok (.slice (some ⟨u,0,none⟩) 0 0) (u.alloc (.cells #[] elemN.e)):=fun u=>by kernel_rfl
  have HE:=lh (And.intro e2 e4);have HB:=lh hb;have HA:=lh e1;clear e2 e3 e4 hT h hr hn hb e1;generalize rows.length=n at *;go_enter func173,ntmps173;go_wp2_with (first
   | (refine wpList_yield rfl (exec_slice (vs:=#[]) rfl rfl (HB.out _)) ?_;try go_frame)
   | (at_builtin;refine wpList_yield rfl (exec_app (v:=.slice (some ⟨w,0,none⟩) 0 0) (y:=.slice (some a) n cap) (.tmp 5) (.tmp 6) 81 rfl rfl rfl HA.out) ?_;try go_frame))
  go_ret;exact⟨⟨_,rfl,HE.out.1⟩,HE.out.2⟩
theorem clone_tiles(rows:List (List Value))(A:Option Addr)(cap:Nat)(hr:∀r∈rows,elemT.Row r)(hn:rows.length≤50000)(w:World)(h:RowsAt elemT w A rows): Calls prog 174 #[.slice A rows.length cap] w fun e w'=>IsClone elemT w w' rows e∧Turn [] w w':=by
 cases A with
 | none=>
  obtain rfl:=h.nil;clear h hr hn;simp only [List.length_nil];have hq:(binOp .eql 85 (.slice none 0 cap) (.slice none 0 0)).run prog w=.ok (.bool true) w:=Lib.run_eql_slice_nil w _ _ none _ _ _ _ underlying85;go_enter func174,ntmps174;go_wp2_with fail
  go_ret;exact⟨⟨_,rfl,own_none _ _ _⟩,Turn.refl _ _⟩
 | some a=>
  have hq:(binOp .eql 85 (.slice (some a) rows.length cap) (.slice none 0 0)).run prog w=.ok (.bool false) w:=Lib.run_eql_slice_nil w _ _ (some a) _ _ _ _ underlying85;have hT:=(tR w).alloc (.cells #[] elemT.e);obtain⟨v',w',e1,e2,e3,_⟩:=app_rows (t:=85) underlying85 (own_empty elemT w) a cap hr (h.turn hT) (by simp) (by simp;omega) 85;have e4:Turn [] w w':=turn_new hT e3 (fun g hg=>by rw [blks_slice]at hg;simp at hg;omega);have hb:∀u,(Instr.buildSlice 85 0 #[]).run prog u=.ok (.slice (some ⟨u,0,none⟩) 0 0) (u.alloc (.cells #[] elemT.e)):=fun u=>by kernel_rfl
  have HE:=lh (And.intro e2 e4);have HB:=lh hb;have HA:=lh e1;clear e2 e3 e4 hT h hr hn hb e1;generalize rows.length=n at *;go_enter func174,ntmps174;go_wp2_with (first
   | (refine wpList_yield rfl (exec_slice (vs:=#[]) rfl rfl (HB.out _)) ?_;try go_frame)
   | (at_builtin;refine wpList_yield rfl (exec_app (v:=.slice (some ⟨w,0,none⟩) 0 0) (y:=.slice (some a) n cap) (.tmp 5) (.tmp 6) 85 rfl rfl rfl HA.out) ?_;try go_frame))
  go_ret;exact⟨⟨_,rfl,HE.out.1⟩,HE.out.2⟩
theorem layerAt_some{ls:List LayerM}{id:Int}{l:LayerM}(h:layerAt ls id=some l): ∃k:Nat,atM (ls.map (·.id)) id=(k:Int)∧ls[k]?=some l∧l.id=id:=by
 unfold layerAt at h;unfold atM;cases ha:atN (ls.map (·.id)) id with
 | none=>rw [ha]at h;cases h
 | some k=>
  rw [ha]at h;have h:ls[k]?=some l:=h;refine⟨k,rfl,h,?_⟩;unfold atN at ha;rw [List.findIdx?_eq_some_iff_getElem]at ha;obtain⟨h1,h2,_⟩:=ha;obtain⟨h3,h4⟩:=List.getElem?_eq_some_iff.1 h;rw [List.getElem_map,h4]at h2;simpa using h2
theorem ref_lay(d:DocM)(id:Int)(l:LayerM)(hl:layerAt d.layers id=some l)(w:World)(h:d.At w): Calls prog 47 #[d.v,id] w fun e w'=>e=.returned l.v∧Turn [] w w':=by
 obtain⟨k,hk,hlk,_⟩:=layerAt_some hl;have hA:=fun u (t:Turn [] w u)=>ref_at d id u (h.turn t);rw [show d.ids=d.layers.map (·.id) from rfl,hk]at hA;have hls:k<d.layers.length:=(List.getElem?_eq_some_iff.1 hlk).1;have hkl:k<d.ln:=by rw [h.layers.1];exact hls
 obtain⟨gl,ol,hg,hR⟩:=h.layers.cell (by omega);have hR2:=fun u (t:Turn [] w u)=>(hR u t k l hlk).2;clear hR;have hsm:=h.small;clear hlk hls h hl hk;obtain⟨sA,sn,sc,spaces,root,next,lA,ln,lc,layers⟩:=d;simp only [DocM.v]at *;subst hg;have HA:=lh hA;have HR:=lh hR2;clear hA hR2;obtain⟨W,hW⟩:∃W,W=(w.alloc (.cells #[.slice sA sn sc,root,next,.slice (some ⟨gl,ol,none⟩) ln lc] 29)).alloc (.cells ⟨zeroL.row⟩ 89):=⟨_,rfl⟩;have T0:Turn [] w W:=hW ▸ ((tR w).alloc _).alloc _;have hWs:w.heap.size+2≤W.heap.size:=by rw [hW];simp
 have x0:W.heap[w.heap.size]?=some (.cells ⟨[.slice sA sn sc,root,next,.slice (some ⟨gl,ol,none⟩) ln lc]⟩ 29 (0,0)):=by rw [hW];simp only [heap_at,World.size_alloc];rw [if_neg (by omega),if_pos (by first | trivial | omega)]
 have x1:W.heap[w.heap.size+1]?=some (.cells ⟨zeroL.row⟩ 89 (0,0)):=by rw [hW];simp only [heap_at,World.size_alloc];rw [if_pos (by first | trivial | omega)]
 have q0:=cell_at (i:=0) x0 rfl;have q1:=cell_at (i:=1) x0 rfl;have q2:=cell_at (i:=2) x0 rfl;have q3:=cell_at (i:=3) x0 rfl;have HX1:=lh x1;have HAL:=lh alloc_LY;clear x0 x1;go_enter func47,ntmps47;go_upto_region 1 with (refine wpList_yield rfl (exec_alloc (t:=89) rfl (HAL.out _)) ?_;try go_frame)
 rw [←hW];clear hW HAL;have b0:(0:Int)≤(k:Int):=by omega
 have b1:(k:Int)<(ln:Int):=by omega
 refine AnyTill.start (fun w'=>Turn [] W w') 7 (by kernel_rfl) ?_;have hS:Turn [] W W.drew:=(tR W).drawn 1;generalize W.drew=V at *;refine tk 0 9 5 (.pointer (some ⟨w,3,none⟩)) hS ?_;try go_frame
 refine tk 1 9 6 (.slice (some ⟨gl,ol,none⟩) ln lc) hS ?_ (hy:=fun w' hw=>by have e3:=tc hw q3;go_simp);try go_frame
 refine tk 2 9 7 (.agg #[.slice sA sn sc,root,next,.slice (some ⟨gl,ol,none⟩) ln lc]) hS ?_ (hy:=fun w' hw=>by have e0:=tc hw q0;have e1:=tc hw q1;have e2:=tc hw q2;have e3:=tc hw q3;go_simp);try go_frame
 refine tk 3 9 8 id hS ?_;try go_frame
 refine tk1 4 fun K hK=>?_;go_simp;refine (HA.out _ (T0.trans hS)).mono ?_;rintro e wy ⟨rfl,ht⟩;have hS:=hS.trans ht;clear ht;refine hK _ _ (fun _=>hS) ?_;clear hK K;try go_frame
 refine tk 5 9 10 (.pointer (some ⟨gl,ol+k*31,none⟩)) hS ?_;try go_frame
 refine tk 6 9 11 (.agg ⟨l.row⟩) hS ?_ rfl (hy:=fun w' hw=>exec_load rfl rfl (run_loadAt_mid _ gl (ol+k*31) 89 l.row _ (HR.out _ (T0.trans hw)) underlying89 rfl (zero_of_info infoLYR).2));try go_frame
 have x1:=(hS.old (w.heap.size+1) (by omega) (by simp)).trans HX1.out;have hst:=part_store (o:=0) (ty:=89) (p:=l.row) (L':=l.row) x1 (zero_of_info infoLYR).2 (by simp [LayerM.row]) (row_one _) (by simp [LayerM.row]);have hl9:=run_loadVar_row (P:=prog) _ (w.heap.size+1) 89 89 ⟨l.row⟩ (0,0) _ (setRow_at (L':=l.row) x1) underlying89 rfl (zero_of_info infoLYR).2;refine tk1 7 fun K hK=>?_;refine wp_storeR (d:=none) rfl 89 (.tmp 4) (.tmp 11) rfl rfl rfl hst ?_;refine hK _ _ (fun h=>absurd rfl h) ?_;clear hK K;try go_frame
 refine tkd ?_;go_wp2_with fail
 exact bodyPost_ret (v:=l.v) (by simp [results,results47,asAddr,hl9];rfl) rfl ⟨rfl,(T0.trans hS).setRow _ (.inr (by omega))⟩
theorem atM_isSome{ls:List LayerM}{id:Int}: decide (0≤atM (ls.map (·.id)) id)=(layerAt ls id).isSome:=by
 cases h:layerAt ls id with
 | none=>
  unfold layerAt at h;unfold atM;cases ha:atN (ls.map (·.id)) id with
  | none=>rfl
  | some k=>
   rw [ha]at h;have h:ls[k]?=none:=h;unfold atN at ha;rw [List.findIdx?_eq_some_iff_getElem]at ha;obtain⟨h1,_⟩:=ha;rw [List.getElem?_eq_none_iff]at h;simp at h1;omega
 | some l=>
  obtain⟨k,hk,_⟩:=layerAt_some h;rw [hk];simp
theorem ref_known(d:DocM)(id:Int)(w:World)(h:d.At w)(ht:d.Tidy)(hok:d.Ok): Calls prog 45 #[d.v,id] w fun e w'=>e=.returned (.bool (layerAt d.layers id).isSome)∧Turn [] w w':=by
 have hC:=fun u (t:Turn [] w u)=>ref_check d u (h.turn t) ht;have hA:=fun u (t:Turn [] w u)=>ref_at d id u (h.turn t);have hq:=atM_isSome (ls:=d.layers) (id:=id);rw [show d.ids=d.layers.map (·.id) from rfl]at hA;rw [←hq];clear h ht hq;have HOK:=lh hok;have HC:=lh hC;have HA:=lh hA;clear hC hA hok;generalize d.Ok=OKP at *;generalize atM (d.layers.map (·.id)) id=q at *;obtain⟨sA,sn,sc,spaces,root,next,lA,ln,lc,layers⟩:=d;simp only [DocM.v]at *;have T0:=(tR w).alloc (.cells #[.slice sA sn sc,root,next,.slice lA ln lc] 29);have TT:=Turn.refl [] (w.alloc (.cells #[.slice sA sn sc,root,next,.slice lA ln lc] 29));go_enter func45,ntmps45;go_upto_region 2 with (go_at_call 37;refine (HC.out _ T0).mono ?_;rintro e w1 ⟨⟨e,i,he⟩,ht⟩;obtain rfl:=he.2 HOK.out;have TT:=TT.trans ht;obtain⟨hc,hf⟩:=tcell TT;have hlt:w.heap.size<w1.heap.size:=(by have:=ht.size;simp at this;omega);clear he)
 go_wp2_with (go_at_call 20;refine (HA.out _ ((T0.trans TT).alloc _)).mono ?_;rintro e w2 ⟨rfl,ht2⟩)
 go_ret;exact⟨rfl,((T0.trans TT).alloc _).trans ht2⟩
theorem infoDEP:(prog.info? 46).map (fun i=>(i.zero,i.size,i.bytes))=some (some (.agg #[(0:Int),.bool false,(0:Int),(0:Int),(0:Int),(0:Int)]),6,48):=by kernel_rfl
def elemD:Elem:=⟨46,6,48,.agg #[(0:Int),.bool false,(0:Int),(0:Int),(0:Int),(0:Int)],infoDEP,rfl,by decide,by decide,by decide⟩
theorem dep_row(x:DepM): elemD.Row x.row:=⟨rfl,fun u hu=>by
 simp only [DepM.row,List.mem_cons,List.mem_nil_iff,or_false]at hu;rcases hu with rfl | rfl | rfl | rfl | rfl | rfl <;> rfl⟩
def OwnD(w:World)(base:Nat)(v:Value)(ds:List DepM): Prop:=Own elemD w base v (ds.map DepM.row)
structure PutD(w w':World)(base:Nat)(out:Value)(ds:List DepM)(e:Ending): Prop where
 ex:∃v,e=.returned v∧OwnD w' base v ds∧(∀g∈blks v,g∈blks out∨w.heap.size≤g)
 t:Turn (blks out) w w'
theorem ref_dput(ds:List DepM)(x:DepM)(out:Value)(base:Nat)(w:World)(h:OwnD w base out ds)(hb:base≤w.heap.size)(hn:ds.length≤1000): Calls prog 48 #[out,x.v] w fun e w'=>PutD w w' base out (putD ds x) e:=by
 have hE:=ref_empty x.r;have T0:=(tR w).alloc (.cells ⟨x.row⟩ 46);cases hx:x.r.empty with
 | true=>
  rw [hx]at hE;have hp:putD ds x=ds:=by unfold putD;rw [hx];rfl
  rw [hp];have HE:=lh hE;have HO:=lh h;clear hE h hx hp;obtain⟨layer,below,r0,r1,r2,r3⟩:=x;simp only [DepM.v,DepM.row,Rc.v]at *;go_enter func48,ntmps48;go_wp2_with (go_at_call 46;refine (HE.out _).mono ?_;rintro e w1 ⟨rfl,ht⟩)
  go_ret;exact⟨⟨out,rfl,HO.out.turn (T0.trans ht),fun g hg=>.inl hg⟩,(T0.trans ht).mono (by simp)⟩
 | false=>
  rw [hx]at hE;have hp:putD ds x=ds ++ [x]:=by unfold putD;rw [hx];rfl
  rw [hp];have HE:=lh hE;have HO:=lh h;have HRW:=lh (dep_row x);clear hE h hx hp;obtain⟨layer,below,r0,r1,r2,r3⟩:=x;simp only [DepM.v,DepM.row,Rc.v]at *;go_enter func48,ntmps48;go_upto_region 4 with (go_at_call 46;refine (HE.out _).mono ?_;rintro e w1 ⟨rfl,ht⟩;obtain⟨hc,hf⟩:=tcell ht)
  have T1:=T0.trans ht;obtain⟨v',u',e1,e2,e3,e4⟩:=app_new (k:=elemD) (t:=35) underlying35 (HO.out.turn T1) HRW.out (by have:=T1.size;omega) (by rw [List.length_map];omega) 35;have hsl:=slice_one (k:=elemD) (t:=35) underlying35 HRW.out w1;have HF:Hid (PutD w u' base out (ds ++ [⟨layer,below,r0,r1,r2,r3⟩]) (.returned v')):=lh ⟨⟨v',rfl,by unfold OwnD;rw [List.map_append];exact e2,fun g hg=>(e4 g hg).imp id fun h=>by have:=T1.size;omega⟩,(T1.mono (by simp)).trans e3⟩;have HAP:=lh e1;have HSL:=lh hsl;clear e1 e2 e3 e4 hsl T1 ht T0;go_wp2_with (first
   | (at_builtin;refine wpList_yield rfl (exec_app (v:=out) (y:=.slice (some ⟨w1,0,none⟩) 1 1) (.tmp 11) (.tmp 13) 35 rfl rfl rfl HAP.out) ?_;try go_frame)
   | (refine wpList_yield rfl (exec_slice1 (x:=.tmp 12) (y:=.agg #[layer,.bool below,r0,r1,r2,r3]) rfl rfl HSL.out) ?_;try go_frame))
  go_ret;exact HF.out
def restM(x n:Int): Int:=(x.tmod n+n).tmod n
theorem tmod_bd(x:Int){n:Int}(h:0<n): -n<x.tmod n∧x.tmod n<n:=by have h1:=Int.tmod_lt_of_pos x h;refine⟨?_,h1⟩;have h2:=Int.tmod_lt_of_pos (-x) h;rw [Int.neg_tmod]at h2;omega
theorem restM_bd(x:Int){n:Int}(h:0<n): 0≤restM x n∧restM x n<n:=by have h1:=tmod_bd x h;exact⟨Int.tmod_nonneg _ (by omega),Int.tmod_lt_of_pos _ h⟩
theorem law_rest(x n:Int)(h0:0<n)(h1:n≤400)(w:World): Calls prog 21 #[x,n] w fun e w'=>e=.returned (.int .i64 (restM x n))∧w'=w:=by
 have hz:¬n=0:=by omega
 have hb:=tmod_bd x h0;have hb2:=tmod_bd (x.tmod n+n) h0;have w1:wrap64 (x.tmod n)=x.tmod n:=wrap_bd (by omega) (by omega);have w2:wrap64 (x.tmod n+n)=x.tmod n+n:=wrap_bd (by omega) (by omega);have w3:wrap64 ((x.tmod n+n).tmod n)=(x.tmod n+n).tmod n:=wrap_bd (by omega) (by omega);clear hb hb2;go_enter func21,ntmps21;go_wp2_with fail
 go_ret;exact⟨rfl,rfl⟩
end Go.Proofs.YtbpklgllihhgpaaGreat
