import Derived.Test.YtbpklgllihhgpaaGreatA31
import Derived.Test.YtbpklgllihhgpaaGreatA44
set_option maxRecDepth 100000
set_option maxHeartbeats 16000000
namespace Go.Proofs.YtbpklgllihhgpaaGreat
open Tryz Go.RowKit Go.Den
def jO(p q B:Nat)(w w':World): Prop:=∃bs,(∀b∈bs,b=p∨b=q∨B≤b)∧bH bs w w'
theorem jO.refl(p q B:Nat)(w:World): jO p q B w w:=⟨[],fun _ h=>absurd h aW,bH.refl _ _⟩
theorem jO.of{p q B:Nat}{w w':World}(T:bH [] w w'): jO p q B w w':=⟨[],fun _ h=>absurd h aW,T⟩
theorem jO.trans{p q B:Nat}{u v w:World}(h:jO p q B u v)(k:jO p q B v w): jO p q B u w:=by obtain⟨bs,h1,h2⟩:=h;obtain⟨cs,k1,k2⟩:=k;exact⟨bs ++ cs,fun b hb=>(aV.1 hb).elim (h1 b) (k1 b),(h2.mono fun b hb=>List.mem_append_left _ hb).trans (k2.mono fun b hb=>List.mem_append_right _ hb)⟩
theorem jO.old{p q B:Nat}{w w':World}(h:jO p q B w w'){c:Nat}(hp:c≠p)(hq:c≠q)(hc:c<B)(hw:c<w.heap.size): w'.heap[c]?=w.heap[c]?:=by obtain⟨bs,h1,h2⟩:=h;refine h2.old c hw fun hm=>?_;rcases h1 c hm with h | h | h <;> omega
theorem jO.size{p q B:Nat}{w w':World}(h:jO p q B w w'): w.heap.size≤w'.heap.size:=by obtain⟨_,_,h2⟩:=h;exact h2.size
theorem jO.new{p q B:Nat}{u v w:World}(h:bH [] u v)(k:jO p q B v w)(hp:u.heap.size≤p)(hq:u.heap.size≤q)(hB:u.heap.size≤B): bH [] u w:=by obtain⟨bs,h1,h2⟩:=k;exact⟨aK h.size h2.size,fun j hj hn=>(h2.old j (aj hj h.size) fun hm=>by rcases h1 j hm with h | h | h <;> omega).trans (h.old j hj hn),h2.os.trans h.os,h2.tape.trans h.tape,h2.output.trans h.output⟩
structure Qc(w:World)(B c:Nat)(vx vy:Value)(xs ys:List Int): Prop where
 ox:iK fF w B vx (xs.map dK)
 oy:iK fF w B vy (ys.map dK)
 dj:∀g∈dI vx,g∉dI vy
 nx:∀g∈dI vx,g≠c
 ny:∀g∈dI vy,g≠c
 sz:B≤w.heap.size
 cl:c<w.heap.size
theorem Qc.turn{w w':World}{B c:Nat}{vx vy:Value}{xs ys:List Int}(h:Qc w B c vx vy xs ys)(T:bH [] w w'): Qc w' B c vx vy xs ys:=
 ⟨h.ox.turn T,h.oy.turn T,h.dj,h.nx,h.ny,aK h.sz T.size,aj h.cl T.size⟩
theorem Qc.swap{w:World}{B c:Nat}{vx vy:Value}{xs ys:List Int}(h:Qc w B c vx vy xs ys): Qc w B c vy vx ys xs:=
 ⟨h.oy,h.ox,fun g hg hm=>h.dj g hm hg,h.ny,h.nx,h.sz,h.cl⟩
theorem V7:prog.underlying 22=some (.slice fF.e):=by kernel_rfl
theorem Qc.app{w:World}{B c:Nat}{vx vy:Value}{xs ys:List Int}(h:Qc w B c vx vy xs ys){s:Nat}{z:Int}(R:w.rangeAt s 0 (dK z))(hn:xs.length≤1000)(ty:TypeId):
  ∃v' w',(Builtin.append_ #[22,22] ty #[vx,.slice (some ⟨s,0,none⟩) 1 1]).run prog w=.ok v' w'∧Qc w' B c v' vy (xs ++ [z]) ys∧bH (dI vx) w w':=by
 obtain⟨v',w',e1,e2,e3,e4⟩:=zH (news:=[dK z]) V7 h.ox s 0 1 1 rfl (fun r hr=>by rw [aN.1 hr];exact LP z) (fun j r hr=>by
  cases j with
  | succ j=>simp at hr
  | zero=>
   have hr:dK z=r:=(by simpa using hr);subst hr;simpa using R) h.sz (by simp;omega) ty
 refine⟨v',w',e1,⟨by rw [List.map_append];exact e2,h.oy.kept e3 fun g hg hm=>h.dj g hm hg,fun g hg hm=>?_,fun g hg=>?_,h.ny,aK h.sz e3.size,aj h.cl e3.size⟩,e3⟩
 ·rcases e4 g hg with hg | hg
  ·exact h.dj g hg hm
  have:=(h.oy.2.lt g hm).2.1;omega
 rcases e4 g hg with hg | hg
 ·exact h.nx g hg
 have:=h.cl;omega
theorem zM(x:Int)(u:World): (Instr.buildSlice 22 1 #[(0,x)]).run prog u=.ok (.slice (some ⟨u,0,none⟩) 1 1) (u.alloc (.cells ⟨dK x⟩ fF.e)):=by kernel_rfl
theorem iK.fresh{k:kD}{w:World}{B:Nat}{v:Value}{rows:List (List Value)}(h:iK k w B v rows): ∀g∈dI v,g<w.heap.size:=fun g hg=>(h.2.lt g hg).2.1
theorem pW{w w':World}{bs:List Nat}{s:Nat}{r:List Value}(T:bH bs w w')(hs:s<w.heap.size)(hb:s∉bs)(R:w.rangeAt s 0 r): w'.rangeAt s 0 r:=fun j u hu=>by have:=R j u hu;simp only [World.cell?,T.old s hs hb]at *;exact this
structure NT(w:World)(bx by_ B:Nat)(xs ys:List Int): Prop where
 ex:∃vx vy,w.heap[bx]?=some (.cells #[vx] 22 (0,0))∧w.heap[by_]?=some (.cells #[vy] 22 (0,0))∧iK fF w B vx (xs.map dK)∧iK fF w B vy (ys.map dK)∧∀g∈dI vx,g∉dI vy
 lx:bx<B
 ly:by_<B
 ne:bx≠by_
 sz:B≤w.heap.size
theorem NT.turn{w w':World}{bx by_ B:Nat}{xs ys:List Int}(h:NT w bx by_ B xs ys)(T:bH [] w w'): NT w' bx by_ B xs ys:=by obtain⟨⟨vx,vy,h1,h2,h3,h4,h5⟩,lx,ly,ne,sz⟩:=h;exact⟨⟨vx,vy,(T.old bx (by omega) (by simp)).trans h1,(T.old by_ (by omega) (by simp)).trans h2,h3.turn T,h4.turn T,h5⟩,lx,ly,ne,aK sz T.size⟩
theorem pU{w:World}{b:Nat}{x v:Value}{ty:TypeId}(h:w.heap[b]?=some (.cells #[x] ty (0,0))): (w.setCell ⟨b,0,none⟩ v).heap[b]?=some (.cells #[v] ty (0,0)):=by simp only [World.setCell,au,if_true,h];rfl
theorem NT.fin{w V:World}{bx by_ B c:Nat}{x y vx vy:Value}{xs ys:List Int}(hx:w.heap[bx]?=some (.cells #[x] 22 (0,0)))(hy:w.heap[by_]?=some (.cells #[y] 22 (0,0)))(D:Qc V B c vx vy xs ys)(P:jO bx by_ B w V)(hS:V.heap[bx]?=w.heap[bx]?∧V.heap[by_]?=w.heap[by_]?)(lx:bx<B)(ly:by_<B)(ne:bx≠by_):
  NT ((V.setCell ⟨bx,0,none⟩ vx).setCell ⟨by_,0,none⟩ vy) bx by_ B xs ys∧jO bx by_ B w ((V.setCell ⟨bx,0,none⟩ vx).setCell ⟨by_,0,none⟩ vy):=by
 have ix:=hS.1.trans hx;have iy:=hS.2.trans hy;have T1:=((bH.refl [bx,by_] V).setCell (a:=⟨bx,0,none⟩) vx (.inl (by simp))).setCell (a:=⟨by_,0,none⟩) vy (.inl (by simp));refine⟨⟨⟨vx,vy,?_,?_,D.ox.kept T1 fun g hg hm=>?_,D.oy.kept T1 fun g hg hm=>?_,D.dj⟩,lx,ly,ne,aK D.sz T1.size⟩,P.trans ⟨[bx,by_],fun b hb=>?_,T1⟩⟩
 ·rw [bW (pU ix) ne]
 ·exact pU (bW iy (Ne.symm ne))
 ·have:=(D.ox.2.lt g hg).1;simp at hm;omega
 ·have:=(D.oy.2.lt g hg).1;simp at hm;omega
 simp at hb;omega
theorem Oj(p:Af)(hp:p.ok=true)(x y:Int)(hx0:-1048576≤x)(hx1:x≤1048576)(hy0:-1048576≤y)(hy1:y≤1048576)(pa bx by_ B:Nat)(xs ys:List Int)(hxl:xs.length≤1000)(hyl:ys.length≤1000)(hpa:pa<B)(w:World)(ha:w.heap[pa]?=some (.cells (VT p) 80 (0,0)))(hb:NT w bx by_ B xs ys):
  Calls prog 135 #[.agg #[x,y],.pointer (some ⟨bx,0,none⟩),.pointer (some ⟨pa,0,none⟩),.pointer (some ⟨by_,0,none⟩)] w fun e w'=>e=.returned (.tuple #[])∧NT w' bx by_ B (xs ++ [p.px x y]) (ys ++ [p.py x y])∧jO bx by_ B w w':=by
 obtain⟨⟨i1,i2,i3,i4⟩,⟨i5,i6,i7,i8⟩,_⟩:=p.img hp x y hx0 hx1 hy0 hy1;have j1:=(mM _).trans i1;have j2:=(mM _).trans i2;have j3:=(mM _).trans i3;have j4:=(mM _).trans i4;have j5:=(mM _).trans i5;have j6:=(mM _).trans i6;have j7:=(mM _).trans i7;have j8:=(mM _).trans i8;clear i1 i2 i3 i4 i5 i6 i7 i8 hp hx0 hx1 hy0 hy1;generalize p.px x y=zx at *;generalize p.py x y=zy at *;obtain⟨⟨vx,vy,kx,ky,ox,oy,dj⟩,lx,ly,ne,sz⟩:=hb;obtain⟨W,hW⟩:∃W,W=w.alloc (.cells #[x,y] 147):=⟨_,rfl⟩;have T0:bH [] w W:=hW ▸ (tR w).alloc _;have hWs:w.heap.size<W.heap.size:=by rw [hW];simp
 have hpt:W.heap[w.heap.size]?=some (.cells #[x,y] 147 (0,0)):=by rw [hW];exact heap_alloc_new _ _
 have hA:=(T0.old pa (by omega) (by simp)).trans ha;have hX:=(T0.old bx (by omega) (by simp)).trans kx;have hY:=(T0.old by_ (by omega) (by simp)).trans ky;have D0:Qc W B w.heap.size vx vy xs ys:=⟨ox.turn T0,oy.turn T0,dj,fun g hg e=>by have:=ox.fresh g hg;omega,fun g hg e=>by have:=oy.fresh g hg;omega,aK sz T0.size,hWs⟩;have HK:=lh (bg kx (bg ky T0));have HD0:=lh D0;have HAX:=lh (bg hA (bg hX (bg hY hpt)));clear ox oy dj kx ky ha hA hX hY hpt D0;obtain⟨a,b,c,d,e,f,den⟩:=p;simp only at *;go_enter func135,ntmps135;go_upto_region 1 with (fail)
 rw [←hW];clear hW;generalize hp0:w.heap.size=p0 at *;have hF:∀u:World,(∀q,(q<B∨q=p0)→u.heap[q]?=W.heap[q]?)→u.cell? ⟨bx,0,none⟩=some vx∧u.cell? ⟨by_,0,none⟩=some vy∧(u.cell? ⟨p0,0,none⟩=some (.int .i64 x)∧u.cell? ⟨p0,1,none⟩=some (.int .i64 y))∧u.cell? ⟨pa,0,none⟩=some (.int .i64 a)∧u.cell? ⟨pa,1,none⟩=some (.int .i64 b)∧u.cell? ⟨pa,2,none⟩=some (.int .i64 c)∧u.cell? ⟨pa,3,none⟩=some (.int .i64 d)∧u.cell? ⟨pa,4,none⟩=some (.int .i64 e)∧u.cell? ⟨pa,5,none⟩=some (.int .i64 f):=fun u hu=>by obtain⟨hA,hX,hY,hpt⟩:=HAX.o;have q1:=(hu pa (.inl hpa)).trans hA;have q2:=(hu bx (.inl lx)).trans hX;have q3:=(hu by_ (.inl ly)).trans hY;have q4:=(hu p0 (.inr rfl)).trans hpt;exact⟨bK q2 (i:=0) rfl,bK q3 (i:=0) rfl,⟨bK q4 (i:=0) rfl,bK q4 (i:=1) rfl⟩,bK q1 (i:=0) rfl,bK q1 (i:=1) rfl,bK q1 (i:=2) rfl,bK q1 (i:=3) rfl,bK q1 (i:=4) rfl,bK q1 (i:=5) rfl⟩
 have HF:=lh hF;clear hF;refine dY.start (fun w'=>∀q,(q<B∨q=p0)→w'.heap[q]?=W.heap[q]?) 34 (by kernel_rfl) ?_;have hS:∀q,(q<B∨q=p0)→W.drew.heap[q]?=W.heap[q]?:=fun q _=>rfl;have TD:bH [] W W.drew:=(tR W).drawn 1;have D:=HD0.o.turn TD;have PD:jO bx by_ B W W.drew:=.of TD;generalize W.drew=V at *;clear TD;refine pk 0 9 5 (vx) hS ?_ (hy:=by intro w' hw;obtain⟨f1,f2,⟨f3,f4⟩,f5,f6,f7,f8,f9,f10⟩:=HF.o w' hw;go_simp);try go_frame
 refine pk 1 9 6 (.pointer (some ⟨pa,0,none⟩)) hS ?_;try go_frame
 refine pk 2 9 7 a hS ?_ (hy:=by intro w' hw;obtain⟨f1,f2,⟨f3,f4⟩,f5,f6,f7,f8,f9,f10⟩:=HF.o w' hw;go_simp);try go_frame
 refine pk 3 9 8 (.pointer (some ⟨p0,0,none⟩)) hS ?_;try go_frame
 refine pk 4 9 9 x hS ?_ (hy:=by intro w' hw;obtain⟨f1,f2,⟨f3,f4⟩,f5,f6,f7,f8,f9,f10⟩:=HF.o w' hw;go_simp);try go_frame
 refine pk 5 9 10 (.int .i64 (a*x)) hS ?_;try go_frame
 refine pk 6 9 11 (.pointer (some ⟨pa,1,none⟩)) hS ?_;try go_frame
 refine pk 7 9 12 b hS ?_ (hy:=by intro w' hw;obtain⟨f1,f2,⟨f3,f4⟩,f5,f6,f7,f8,f9,f10⟩:=HF.o w' hw;go_simp);try go_frame
 refine pk 8 9 13 (.pointer (some ⟨p0,1,none⟩)) hS ?_;try go_frame
 refine pk 9 9 14 y hS ?_ (hy:=by intro w' hw;obtain⟨f1,f2,⟨f3,f4⟩,f5,f6,f7,f8,f9,f10⟩:=HF.o w' hw;go_simp);try go_frame
 refine pk 10 9 15 (.int .i64 (b*y)) hS ?_;try go_frame
 refine pk 11 9 16 (.int .i64 (a*x+b*y)) hS ?_;try go_frame
 refine pk 12 9 17 (.pointer (some ⟨pa,2,none⟩)) hS ?_;try go_frame
 refine pk 13 9 18 c hS ?_ (hy:=by intro w' hw;obtain⟨f1,f2,⟨f3,f4⟩,f5,f6,f7,f8,f9,f10⟩:=HF.o w' hw;go_simp);try go_frame
 refine pk 14 9 19 zx hS ?_;try go_frame
 refine pk 17 9 22 (vy) hS ?_ (hy:=by intro w' hw;obtain⟨f1,f2,⟨f3,f4⟩,f5,f6,f7,f8,f9,f10⟩:=HF.o w' hw;go_simp);try go_frame
 refine pk 18 9 23 (.pointer (some ⟨pa,3,none⟩)) hS ?_;try go_frame
 refine pk 19 9 24 d hS ?_ (hy:=by intro w' hw;obtain⟨f1,f2,⟨f3,f4⟩,f5,f6,f7,f8,f9,f10⟩:=HF.o w' hw;go_simp);try go_frame
 refine pk 20 9 25 (.pointer (some ⟨p0,0,none⟩)) hS ?_;try go_frame
 refine pk 21 9 26 x hS ?_ (hy:=by intro w' hw;obtain⟨f1,f2,⟨f3,f4⟩,f5,f6,f7,f8,f9,f10⟩:=HF.o w' hw;go_simp);try go_frame
 refine pk 22 9 27 (.int .i64 (d*x)) hS ?_;try go_frame
 refine pk 23 9 28 (.pointer (some ⟨pa,4,none⟩)) hS ?_;try go_frame
 refine pk 24 9 29 e hS ?_ (hy:=by intro w' hw;obtain⟨f1,f2,⟨f3,f4⟩,f5,f6,f7,f8,f9,f10⟩:=HF.o w' hw;go_simp);try go_frame
 refine pk 25 9 30 (.pointer (some ⟨p0,1,none⟩)) hS ?_;try go_frame
 refine pk 26 9 31 y hS ?_ (hy:=by intro w' hw;obtain⟨f1,f2,⟨f3,f4⟩,f5,f6,f7,f8,f9,f10⟩:=HF.o w' hw;go_simp);try go_frame
 refine pk 27 9 32 (.int .i64 (e*y)) hS ?_;try go_frame
 refine pk 28 9 33 (.int .i64 (d*x+e*y)) hS ?_;try go_frame
 refine pk 29 9 34 (.pointer (some ⟨pa,5,none⟩)) hS ?_;try go_frame
 refine pk 30 9 35 f hS ?_ (hy:=by intro w' hw;obtain⟨f1,f2,⟨f3,f4⟩,f5,f6,f7,f8,f9,f10⟩:=HF.o w' hw;go_simp);try go_frame
 refine pk 31 9 36 zy hS ?_;try go_frame
 clear j1 j2 j3 j4 j5 j6 j7 j8;have HSZ:=lh (bg D.sz D.cl);refine dY.two (i:=15) (j:=32) rfl rfl (by kernel_rfl) rfl rfl (fun K hK=>?_) (fun K hK=>?_)
 ·refine bZ (d:=some 20) rfl (dV (x:=.tmp 19) rfl rfl (zM zx V)) ?_;have TZ:=(tR V).alloc (.cells ⟨dK zx⟩ fF.e);have R0:=jT V (dK zx) fF.e;have L0:V.heap.size<(V.alloc (.cells ⟨dK zx⟩ fF.e)).heap.size:=by simp
  have N0x:=fun hm=>Nat.lt_irrefl _ (D.ox.fresh V.heap.size hm);have N0y:=fun hm=>Nat.lt_irrefl _ (D.oy.fresh V.heap.size hm);replace D:=D.turn TZ;replace PD:=PD.trans (.of TZ);replace hS:=fun q hq=>(TZ.old q (by rcases hq with h | rfl;exact aj h HSZ.o.1;exact HSZ.o.2) (by simp)).trans (hS q hq);replace HSZ:=lh (bg (aK HSZ.o.1 TZ.size) (aj HSZ.o.2 TZ.size));refine hK _ _ (fun _=>hS) ?_;clear hK K TZ;try go_frame
  generalize hV':V.alloc (.cells ⟨dK zx⟩ fF.e)=V' at *;clear hV';generalize V.heap.size=s0 at *;clear V;obtain⟨V,rfl⟩:∃V,V=V':=⟨_,rfl⟩;refine dY.two (i:=16) (j:=32) rfl rfl (by kernel_rfl) rfl rfl (fun K hK=>?_) (fun K hK=>?_)
  ·obtain⟨v0',U,hrun,D',TU⟩:=(D).app R0 hxl 22;refine bZ (d:=some 21) rfl (dL (.tmp 5) (.tmp 20) 22 rfl rfl rfl hrun) ?_;have hbs:=fun g hg=>(D.ox.2.lt g hg).1;have hnc:=D.nx;replace PD:=PD.trans ⟨_,fun b hb=>.inr (.inr (hbs b hb)),TU⟩;replace hS:=fun q hq=>(TU.old q (by rcases hq with h | rfl;exact aj h HSZ.o.1;exact HSZ.o.2) (fun hm=>by rcases hq with h | h;exact absurd h (Nat.not_lt.2 (hbs q hm));exact hnc q hm h)).trans (hS q hq);replace HSZ:=lh (bg (aK HSZ.o.1 TU.size) (aj HSZ.o.2 TU.size));replace D:=D';refine hK _ _ (fun _=>hS) ?_;clear hK K TU hrun hbs hnc R0 L0 N0x N0y;(try go_frame);clear V;obtain⟨V,rfl⟩:∃V,V=U:=⟨_,rfl⟩;clear D';refine Oo 32 fun K hK=>?_;refine bZ (d:=some 37) rfl (dV (x:=.tmp 36) rfl rfl (zM zy V)) ?_;have TZ:=(tR V).alloc (.cells ⟨dK zy⟩ fF.e);have R1:=jT V (dK zy) fF.e;have L1:V.heap.size<(V.alloc (.cells ⟨dK zy⟩ fF.e)).heap.size:=(by simp);have N1x:=fun hm=>Nat.lt_irrefl _ (D.ox.fresh V.heap.size hm);have N1y:=fun hm=>Nat.lt_irrefl _ (D.oy.fresh V.heap.size hm);replace D:=D.turn TZ;replace PD:=PD.trans (.of TZ);replace hS:=fun q hq=>(TZ.old q (by rcases hq with h | rfl;exact aj h HSZ.o.1;exact HSZ.o.2) (by simp)).trans (hS q hq);replace HSZ:=lh (bg (aK HSZ.o.1 TZ.size) (aj HSZ.o.2 TZ.size));refine hK _ _ (fun _=>hS) ?_;clear hK K TZ;(try go_frame);generalize hV':V.alloc (.cells ⟨dK zy⟩ fF.e)=V' at *;clear hV';generalize V.heap.size=s1 at *;clear V;obtain⟨V,rfl⟩:∃V,V=V':=⟨_,rfl⟩;refine Oo 33 fun K hK=>?_;obtain⟨v1',U,hrun,D',TU⟩:=(D.swap).app R1 hyl 22;refine bZ (d:=some 38) rfl (dL (.tmp 22) (.tmp 37) 22 rfl rfl rfl hrun) ?_;have hbs:=fun g hg=>(D.oy.2.lt g hg).1;have hnc:=D.ny;replace PD:=PD.trans ⟨_,fun b hb=>.inr (.inr (hbs b hb)),TU⟩;replace hS:=fun q hq=>(TU.old q (by rcases hq with h | rfl;exact aj h HSZ.o.1;exact HSZ.o.2) (fun hm=>by rcases hq with h | h;exact absurd h (Nat.not_lt.2 (hbs q hm));exact hnc q hm h)).trans (hS q hq);replace HSZ:=lh (bg (aK HSZ.o.1 TU.size) (aj HSZ.o.2 TU.size));replace D:=D'.swap;refine hK _ _ (fun _=>hS) ?_;clear hK K TU hrun hbs hnc R1 L1 N1x N1y;(try go_frame);clear V;obtain⟨V,rfl⟩:∃V,V=U:=⟨_,rfl⟩;clear D';obtain⟨A0,c0,h0⟩:=jv D.ox;obtain⟨A1,c1,h1⟩:=jv D.oy;generalize ((xs ++ [zx]).map dK).length=n0 at h0;generalize ((ys ++ [zy]).map dK).length=n1 at h1;subst h0;subst h1;have hSx:=hS bx (.inl lx);have hSy:=hS by_ (.inl ly);have hR:=NT.fin HAX.o.2.1 HAX.o.2.2.1 D PD ⟨hSx,hSy⟩ lx ly ne;have ex:=bK (hSx.trans HAX.o.2.1) (i:=0) rfl;have fx:=dm (hSx.trans HAX.o.2.1) 0;have eY:=bW (b:=bx) (i:=0) (v:=.slice A0 n0 c0) (hSy.trans HAX.o.2.2.1) (Ne.symm ne);have ey:=bK eY (i:=0) rfl;have fy:=dm eY 0;have HR:=lh hR;clear hR eY hSx hSy D;refine Oo 34 fun K hK=>?_;go_simp;refine hK _ _ (fun h=>absurd h (by decide)) ?_;clear hK K;(try go_frame);refine Oo 35 fun K hK=>?_;go_simp;refine hK _ _ (fun h=>absurd h (by decide)) ?_;clear hK K;(try go_frame);refine dY.done (by kernel_rfl) ?_;clear ex fx ey fy;(go_wp2_with fail);go_end0;exact⟨rfl,HR.o.1,(jO.of HK.o.2.2).trans HR.o.2⟩
  refine bZ (d:=some 37) rfl (dV (x:=.tmp 36) rfl rfl (zM zy V)) ?_;have TZ:=(tR V).alloc (.cells ⟨dK zy⟩ fF.e);have R1:=jT V (dK zy) fF.e;have L1:V.heap.size<(V.alloc (.cells ⟨dK zy⟩ fF.e)).heap.size:=by simp
  have N1x:=fun hm=>Nat.lt_irrefl _ (D.ox.fresh V.heap.size hm);have N1y:=fun hm=>Nat.lt_irrefl _ (D.oy.fresh V.heap.size hm);replace R0:=pW TZ L0 (by simp) R0;replace L0:=aj L0 TZ.size;replace D:=D.turn TZ;replace PD:=PD.trans (.of TZ);replace hS:=fun q hq=>(TZ.old q (by rcases hq with h | rfl;exact aj h HSZ.o.1;exact HSZ.o.2) (by simp)).trans (hS q hq);replace HSZ:=lh (bg (aK HSZ.o.1 TZ.size) (aj HSZ.o.2 TZ.size));refine hK _ _ (fun _=>hS) ?_;clear hK K TZ;try go_frame
  generalize hV':V.alloc (.cells ⟨dK zy⟩ fF.e)=V' at *;clear hV';generalize V.heap.size=s1 at *;clear V;obtain⟨V,rfl⟩:∃V,V=V':=⟨_,rfl⟩;refine Oo 16 fun K hK=>?_;obtain⟨v0',U,hrun,D',TU⟩:=(D).app R0 hxl 22;refine bZ (d:=some 21) rfl (dL (.tmp 5) (.tmp 20) 22 rfl rfl rfl hrun) ?_;replace R1:=pW TU L1 N1x R1;replace L1:=aj L1 TU.size;have hbs:=fun g hg=>(D.ox.2.lt g hg).1;have hnc:=D.nx;replace PD:=PD.trans ⟨_,fun b hb=>.inr (.inr (hbs b hb)),TU⟩;replace hS:=fun q hq=>(TU.old q (by rcases hq with h | rfl;exact aj h HSZ.o.1;exact HSZ.o.2) (fun hm=>by rcases hq with h | h;exact absurd h (Nat.not_lt.2 (hbs q hm));exact hnc q hm h)).trans (hS q hq);replace HSZ:=lh (bg (aK HSZ.o.1 TU.size) (aj HSZ.o.2 TU.size));replace D:=D';refine hK _ _ (fun _=>hS) ?_;clear hK K TU hrun hbs hnc R0 L0 N0x N0y;try go_frame
  clear V;obtain⟨V,rfl⟩:∃V,V=U:=⟨_,rfl⟩;clear D';refine Oo 33 fun K hK=>?_;obtain⟨v1',U,hrun,D',TU⟩:=(D.swap).app R1 hyl 22;refine bZ (d:=some 38) rfl (dL (.tmp 22) (.tmp 37) 22 rfl rfl rfl hrun) ?_;have hbs:=fun g hg=>(D.oy.2.lt g hg).1;have hnc:=D.ny;replace PD:=PD.trans ⟨_,fun b hb=>.inr (.inr (hbs b hb)),TU⟩;replace hS:=fun q hq=>(TU.old q (by rcases hq with h | rfl;exact aj h HSZ.o.1;exact HSZ.o.2) (fun hm=>by rcases hq with h | h;exact absurd h (Nat.not_lt.2 (hbs q hm));exact hnc q hm h)).trans (hS q hq);replace HSZ:=lh (bg (aK HSZ.o.1 TU.size) (aj HSZ.o.2 TU.size));replace D:=D'.swap;refine hK _ _ (fun _=>hS) ?_;clear hK K TU hrun hbs hnc R1 L1 N1x N1y;try go_frame
  clear V;obtain⟨V,rfl⟩:∃V,V=U:=⟨_,rfl⟩;clear D';obtain⟨A0,c0,h0⟩:=jv D.ox;obtain⟨A1,c1,h1⟩:=jv D.oy;generalize ((xs ++ [zx]).map dK).length=n0 at h0;generalize ((ys ++ [zy]).map dK).length=n1 at h1;subst h0;subst h1;have hSx:=hS bx (.inl lx);have hSy:=hS by_ (.inl ly);have hR:=NT.fin HAX.o.2.1 HAX.o.2.2.1 D PD ⟨hSx,hSy⟩ lx ly ne;have ex:=bK (hSx.trans HAX.o.2.1) (i:=0) rfl;have fx:=dm (hSx.trans HAX.o.2.1) 0;have eY:=bW (b:=bx) (i:=0) (v:=.slice A0 n0 c0) (hSy.trans HAX.o.2.2.1) (Ne.symm ne);have ey:=bK eY (i:=0) rfl;have fy:=dm eY 0;have HR:=lh hR;clear hR eY hSx hSy D;refine Oo 34 fun K hK=>?_;go_simp;refine hK _ _ (fun h=>absurd h (by decide)) ?_;clear hK K;try go_frame
  refine Oo 35 fun K hK=>?_;go_simp;refine hK _ _ (fun h=>absurd h (by decide)) ?_;clear hK K;try go_frame
  refine dY.done (by kernel_rfl) ?_;clear ex fx ey fy;go_wp2_with fail
  go_end0;exact⟨rfl,HR.o.1,(jO.of HK.o.2.2).trans HR.o.2⟩
 refine bZ (d:=some 37) rfl (dV (x:=.tmp 36) rfl rfl (zM zy V)) ?_;have TZ:=(tR V).alloc (.cells ⟨dK zy⟩ fF.e);have R1:=jT V (dK zy) fF.e;have L1:V.heap.size<(V.alloc (.cells ⟨dK zy⟩ fF.e)).heap.size:=by simp
 have N1x:=fun hm=>Nat.lt_irrefl _ (D.ox.fresh V.heap.size hm);have N1y:=fun hm=>Nat.lt_irrefl _ (D.oy.fresh V.heap.size hm);replace D:=D.turn TZ;replace PD:=PD.trans (.of TZ);replace hS:=fun q hq=>(TZ.old q (by rcases hq with h | rfl;exact aj h HSZ.o.1;exact HSZ.o.2) (by simp)).trans (hS q hq);replace HSZ:=lh (bg (aK HSZ.o.1 TZ.size) (aj HSZ.o.2 TZ.size));refine hK _ _ (fun _=>hS) ?_;clear hK K TZ;try go_frame
 generalize hV':V.alloc (.cells ⟨dK zy⟩ fF.e)=V' at *;clear hV';generalize V.heap.size=s1 at *;clear V;obtain⟨V,rfl⟩:∃V,V=V':=⟨_,rfl⟩;refine Oo 15 fun K hK=>?_;refine bZ (d:=some 20) rfl (dV (x:=.tmp 19) rfl rfl (zM zx V)) ?_;have TZ:=(tR V).alloc (.cells ⟨dK zx⟩ fF.e);have R0:=jT V (dK zx) fF.e;have L0:V.heap.size<(V.alloc (.cells ⟨dK zx⟩ fF.e)).heap.size:=by simp
 have N0x:=fun hm=>Nat.lt_irrefl _ (D.ox.fresh V.heap.size hm);have N0y:=fun hm=>Nat.lt_irrefl _ (D.oy.fresh V.heap.size hm);replace R1:=pW TZ L1 (by simp) R1;replace L1:=aj L1 TZ.size;replace D:=D.turn TZ;replace PD:=PD.trans (.of TZ);replace hS:=fun q hq=>(TZ.old q (by rcases hq with h | rfl;exact aj h HSZ.o.1;exact HSZ.o.2) (by simp)).trans (hS q hq);replace HSZ:=lh (bg (aK HSZ.o.1 TZ.size) (aj HSZ.o.2 TZ.size));refine hK _ _ (fun _=>hS) ?_;clear hK K TZ;try go_frame
 generalize hV':V.alloc (.cells ⟨dK zx⟩ fF.e)=V' at *;clear hV';generalize V.heap.size=s0 at *;clear V;obtain⟨V,rfl⟩:∃V,V=V':=⟨_,rfl⟩;refine Oo 16 fun K hK=>?_;obtain⟨v0',U,hrun,D',TU⟩:=(D).app R0 hxl 22;refine bZ (d:=some 21) rfl (dL (.tmp 5) (.tmp 20) 22 rfl rfl rfl hrun) ?_;replace R1:=pW TU L1 N1x R1;replace L1:=aj L1 TU.size;have hbs:=fun g hg=>(D.ox.2.lt g hg).1;have hnc:=D.nx;replace PD:=PD.trans ⟨_,fun b hb=>.inr (.inr (hbs b hb)),TU⟩;replace hS:=fun q hq=>(TU.old q (by rcases hq with h | rfl;exact aj h HSZ.o.1;exact HSZ.o.2) (fun hm=>by rcases hq with h | h;exact absurd h (Nat.not_lt.2 (hbs q hm));exact hnc q hm h)).trans (hS q hq);replace HSZ:=lh (bg (aK HSZ.o.1 TU.size) (aj HSZ.o.2 TU.size));replace D:=D';refine hK _ _ (fun _=>hS) ?_;clear hK K TU hrun hbs hnc R0 L0 N0x N0y;try go_frame
 clear V;obtain⟨V,rfl⟩:∃V,V=U:=⟨_,rfl⟩;clear D';refine Oo 33 fun K hK=>?_;obtain⟨v1',U,hrun,D',TU⟩:=(D.swap).app R1 hyl 22;refine bZ (d:=some 38) rfl (dL (.tmp 22) (.tmp 37) 22 rfl rfl rfl hrun) ?_;have hbs:=fun g hg=>(D.oy.2.lt g hg).1;have hnc:=D.ny;replace PD:=PD.trans ⟨_,fun b hb=>.inr (.inr (hbs b hb)),TU⟩;replace hS:=fun q hq=>(TU.old q (by rcases hq with h | rfl;exact aj h HSZ.o.1;exact HSZ.o.2) (fun hm=>by rcases hq with h | h;exact absurd h (Nat.not_lt.2 (hbs q hm));exact hnc q hm h)).trans (hS q hq);replace HSZ:=lh (bg (aK HSZ.o.1 TU.size) (aj HSZ.o.2 TU.size));replace D:=D'.swap;refine hK _ _ (fun _=>hS) ?_;clear hK K TU hrun hbs hnc R1 L1 N1x N1y;try go_frame
 clear V;obtain⟨V,rfl⟩:∃V,V=U:=⟨_,rfl⟩;clear D';obtain⟨A0,c0,h0⟩:=jv D.ox;obtain⟨A1,c1,h1⟩:=jv D.oy;generalize ((xs ++ [zx]).map dK).length=n0 at h0;generalize ((ys ++ [zy]).map dK).length=n1 at h1;subst h0;subst h1;have hSx:=hS bx (.inl lx);have hSy:=hS by_ (.inl ly);have hR:=NT.fin HAX.o.2.1 HAX.o.2.2.1 D PD ⟨hSx,hSy⟩ lx ly ne;have ex:=bK (hSx.trans HAX.o.2.1) (i:=0) rfl;have fx:=dm (hSx.trans HAX.o.2.1) 0;have eY:=bW (b:=bx) (i:=0) (v:=.slice A0 n0 c0) (hSy.trans HAX.o.2.2.1) (Ne.symm ne);have ey:=bK eY (i:=0) rfl;have fy:=dm eY 0;have HR:=lh hR;clear hR eY hSx hSy D;refine Oo 34 fun K hK=>?_;go_simp;refine hK _ _ (fun h=>absurd h (by decide)) ?_;clear hK K;try go_frame
 refine Oo 35 fun K hK=>?_;go_simp;refine hK _ _ (fun h=>absurd h (by decide)) ?_;clear hK K;try go_frame
 refine dY.done (by kernel_rfl) ?_;clear ex fx ey fy;go_wp2_with fail
 go_end0;exact⟨rfl,HR.o.1,(jO.of HK.o.2.2).trans HR.o.2⟩
def xN(g:Nat→Int): Nat→List Int
 | 0=>[]
 | k+1=>xN g k ++ [g k]
theorem rD(g:Nat→Int): ∀k,(xN g k).length=k
 | 0=>rfl
 | k+1=>by unfold xN;rw [aO,rD g k];rfl
structure GU(w wr:World)(bx by_ B:Nat)(gx gy:Nat→Int)(k:Nat): Prop where
 b:NT wr bx by_ B (xN gx k) (xN gy k)
 t:jO bx by_ B w wr
theorem GU.turn{w wr u:World}{bx by_ B:Nat}{gx gy:Nat→Int}{k:Nat}(h:GU w wr bx by_ B gx gy k)(T:bH [] wr u): GU w u bx by_ B gx gy k:=⟨h.b.turn T,h.t.trans (.of T)⟩
theorem yU(p:Af)(hp:p.ok=true)(r:Rc)(hr:r.InC)(pa bx by_ B:Nat)(hpa:pa<B)(hpx:pa≠bx)(hpy:pa≠by_)(w:World)(ha:w.heap[pa]?=some (.cells (VT p) 80 (0,0)))(k:Nat)(hk:k≤100)(x y:Int)(hx:x=Ap r k)(hy:y=AU r k)(u:World)(h:GU w u bx by_ B (p.gx r) (p.gy r) k):
  Calls prog 135 #[.agg #[x,y],.pointer (some ⟨bx,0,none⟩),.pointer (some ⟨pa,0,none⟩),.pointer (some ⟨by_,0,none⟩)] u fun e w'=>e=.returned (.tuple #[])∧GU w w' bx by_ B (p.gx r) (p.gy r) (k+1):=by
 subst hx hy;exact (Oj p hp (Ap r k) (AU r k) (gW hr k).1.1 (gW hr k).1.2 (gW hr k).2.1 (gW hr k).2.2 pa bx by_ B _ _ (by rw [rD];omega) (by rw [rD];omega) hpa u ((h.t.old hpx hpy hpa (ae.1 ha).1).trans ha) h.b).mono fun e w' hh=>⟨hh.1,hh.2.1,h.t.trans hh.2.2⟩
theorem Gx(p:Af)(hp:p.ok=true)(r:Rc)(hr:r.InC)(pa bx by_ B:Nat)(hpa:pa<B)(hpx:pa≠bx)(hpy:pa≠by_)(w:World)(ha:w.heap[pa]?=some (.cells (VT p) 80 (0,0)))(hb:NT w bx by_ B [] []):
  Calls prog 122 #[r.x0,r.y0,r.x1,r.y1,.func (.func 135) #[] #[.pointer (some ⟨bx,0,none⟩),.pointer (some ⟨pa,0,none⟩),.pointer (some ⟨by_,0,none⟩)]] w fun e w'=>e=.returned (.tuple #[])∧GU w w' bx by_ B (p.gx r) (p.gy r) 4:=by
 have h0:GU w w bx by_ B (p.gx r) (p.gy r) 0:=⟨hb,.refl _ _ _ _⟩;have v0:=fun u=>yU p hp r hr pa bx by_ B hpa hpx hpy w ha 0 (by omega) r.x0 r.y0 rfl rfl u;have v1:=fun u=>yU p hp r hr pa bx by_ B hpa hpx hpy w ha 1 (by omega) r.x1 r.y0 rfl rfl u;have v2:=fun u=>yU p hp r hr pa bx by_ B hpa hpx hpy w ha 2 (by omega) r.x0 r.y1 rfl rfl u;have v3:=fun u=>yU p hp r hr pa bx by_ B hpa hpx hpy w ha 3 (by omega) r.x1 r.y1 rfl rfl u;generalize p.gx r=gx at *;generalize p.gy r=gy at *;obtain⟨x0,y0,x1,y1⟩:=r;simp only at *;have HV0:=lh v0;have HV1:=lh v1;have HV2:=lh v2;have HV3:=lh v3;have HR:=lh h0;clear v0 v1 v2 v3 h0 hb hr hp ha hpa hpx hpy;go_enter func122,ntmps122;go_wp2_with fail
 generalize hps:(#[x0,y0,x1,y0,x0,y1,x1,y1]:Array Value)=ps;have i0:∀u:World,(Instr.index 202 (.agg ps) (0:Int)).run prog u=.ok (.agg #[x0,y0]) u:=fun u=>by rw [←hps];kernel_rfl
 have i1:∀u:World,(Instr.index 202 (.agg ps) (1:Int)).run prog u=.ok (.agg #[x1,y0]) u:=fun u=>by rw [←hps];kernel_rfl
 have i2:∀u:World,(Instr.index 202 (.agg ps) (2:Int)).run prog u=.ok (.agg #[x0,y1]) u:=fun u=>by rw [←hps];kernel_rfl
 have i3:∀u:World,(Instr.index 202 (.agg ps) (3:Int)).run prog u=.ok (.agg #[x1,y1]) u:=fun u=>by rw [←hps];kernel_rfl
 have HI:=lh (bg i0 (bg i1 (bg i2 i3)));clear hps i0 i1 i2 i3;go_loopw [25] (fun s25 wr=>∃k:Nat,k≤4∧s25=k∧GU w wr bx by_ B gx gy k) (fun s25 _=>4 - (intOf s25).toNat);case atStart=>exact⟨0,by omega,rfl,HR.o⟩
 obtain⟨k,hk,rfl,hC⟩:=hrel;obtain⟨i0,i1,i2,i3⟩:=HI.o;have HC:=lh hC;clear hC;obtain rfl | rfl | rfl | rfl | rfl:k=0∨k=1∨k=2∨k=3∨k=4:=by omega
 ·have HD:=lh (HV0.o _ (HC.o.turn ((tR wr).alloc (.cells #[x0,y0] 147))));go_wp2_with (go_at_call 135;refine HD.o.mono ?_;rintro e w2 ⟨rfl,hR2⟩;have HR2:=lh hR2;clear hR2)
  go_roundw;case rel=>exact⟨1,by omega,by go_num,HR2.o⟩
  simp [intOf]
 ·have HD:=lh (HV1.o _ (HC.o.turn ((tR wr).alloc (.cells #[x1,y0] 147))));go_wp2_with (go_at_call 135;refine HD.o.mono ?_;rintro e w2 ⟨rfl,hR2⟩;have HR2:=lh hR2;clear hR2)
  go_roundw;case rel=>exact⟨2,by omega,by go_num,HR2.o⟩
  simp [intOf]
 ·have HD:=lh (HV2.o _ (HC.o.turn ((tR wr).alloc (.cells #[x0,y1] 147))));go_wp2_with (go_at_call 135;refine HD.o.mono ?_;rintro e w2 ⟨rfl,hR2⟩;have HR2:=lh hR2;clear hR2)
  go_roundw;case rel=>exact⟨3,by omega,by go_num,HR2.o⟩
  simp [intOf]
 ·have HD:=lh (HV3.o _ (HC.o.turn ((tR wr).alloc (.cells #[x1,y1] 147))));go_wp2_with (go_at_call 135;refine HD.o.mono ?_;rintro e w2 ⟨rfl,hR2⟩;have HR2:=lh hR2;clear hR2)
  go_roundw;case rel=>exact⟨4,by omega,by go_num,HR2.o⟩
  simp [intOf]
 clear i0 i1 i2 i3;go_wp2_with fail
 go_end0;exact⟨rfl,HC.o⟩
theorem QJ(p q:Int)(P:Program)(w:World): (Go.Builtin.min2 p q).run P w=.ok (.int .i64 (min p q)) w:=by
 have e:(if q<p then q else p)=min p q:=by split <;> omega
 show (pure (Value.int .i64 (if q<p then q else p)):Sem Value).run P w=_;rw [e];rfl
theorem Qa(a b c d:Int)(ty:TypeId)(w:World): (Builtin.min_ #[3,3,3,3] ty #[a,b,c,d]).run prog w=.ok (.int .i64 (min (min (min a b) c) d)) w:=by show (List.foldlM Go.Builtin.min2 a [b,c,d]).run prog w=_;simp only [List.foldlM_cons,List.foldlM_nil,Sem.run_bind,QJ,Result.andThen];rfl
theorem NG{o:Oper}{a:Act}{w:World}{x y z t:Operand}(hop:o.op=Op.call { callee:=Callee.builtin Builtin.min,args:=#[x,y,z,t],argTypes:=#[3,3,3,3] }){p q r s:Int}(hx:a.eval x=p)(hy:a.eval y=q)(hz:a.eval z=r)(ht:a.eval t=s): (execOp a.eval o).run prog w=.ok (.value (.int .i64 (min (min (min p q) r) s))) w:=by have e:=Qa p q r s o.type w;simp [execOp,hop,resolve,invoke,builtin,hx,hy,hz,ht,e,Result.andThen]
theorem QW(p q:Int)(P:Program)(w:World): (Go.Builtin.max2 p q).run P w=.ok (.int .i64 (max p q)) w:=by
 have e:(if p<q then q else p)=max p q:=by split <;> omega
 show (pure (Value.int .i64 (if p<q then q else p)):Sem Value).run P w=_;rw [e];rfl
theorem QM(a b c d:Int)(ty:TypeId)(w:World): (Builtin.max_ #[3,3,3,3] ty #[a,b,c,d]).run prog w=.ok (.int .i64 (max (max (max a b) c) d)) w:=by show (List.foldlM Go.Builtin.max2 a [b,c,d]).run prog w=_;simp only [List.foldlM_cons,List.foldlM_nil,Sem.run_bind,QW,Result.andThen];rfl
theorem Nz{o:Oper}{a:Act}{w:World}{x y z t:Operand}(hop:o.op=Op.call { callee:=Callee.builtin Builtin.max,args:=#[x,y,z,t],argTypes:=#[3,3,3,3] }){p q r s:Int}(hx:a.eval x=p)(hy:a.eval y=q)(hz:a.eval z=r)(ht:a.eval t=s): (execOp a.eval o).run prog w=.ok (.value (.int .i64 (max (max (max p q) r) s))) w:=by have e:=QM p q r s o.type w;simp [execOp,hop,resolve,invoke,builtin,hx,hy,hz,ht,e,Result.andThen]
theorem KE(A:Option Addr)(n c:Nat)(g:Nat→Int)(w:World)(h:dn w A n (xN g 4)): Calls prog 140 #[.slice A n c] w fun e w'=>e=.returned (.int .i64 (min (min (min (g 0) (g 1)) (g 2)) (g 3)))∧bH [] w w':=by
 have hn:n=4:=h.1.trans (rD g 4);subst hn;obtain⟨a,o_,rfl,_⟩:=h.2 0 (by omega);have hA:=fun u (t:bH [] w u) (j:Nat) (hj:j<4)=>(show u.cell? ⟨a,o_+j,none⟩=some (.int .i64 ((xN g 4).getD j 0)) by obtain⟨g',o',e',hc⟩:=(h.turn t).2 j hj;cases e';exact hc);have k0:=fun u (t:bH [] w u)=>hA u t 0 (by omega);have k1:=fun u (t:bH [] w u)=>hA u t 1 (by omega);have k2:=fun u (t:bH [] w u)=>hA u t 2 (by omega);have k3:=fun u (t:bH [] w u)=>hA u t 3 (by omega);simp only [xN,List.nil_append,List.cons_append,List.getD_cons_zero,List.getD_cons_succ,Nat.add_zero]at k0 k1 k2 k3;clear hA h;generalize g 0=z0 at *;generalize g 1=z1 at *;generalize g 2=z2 at *;generalize g 3=z3 at *;obtain⟨m,hm⟩:∃m,m=min (min (min z0 z1) z2) z3:=⟨_,rfl⟩;have HM:=lh hm;rw [←hm];clear hm;go_enter func140,ntmps140;go_upto_region 1 with fail
 refine sN 13 (tR w) fun V hS=>?_;refine tk 0 (.slice (some ⟨a,o_,none⟩) 4 c) ?_;go_frame;refine tk 1 (.pointer (some ⟨a,o_,none⟩)) ?_;go_frame;refine tk 2 z0 ?_ (hy:=by intro w' hw;have e:=k0 w' hw;go_simp);go_frame;refine tk 3 (.slice (some ⟨a,o_,none⟩) 4 c) ?_;go_frame;refine tk 4 (.pointer (some ⟨a,o_+1,none⟩)) ?_;go_frame;refine tk 5 z1 ?_ (hy:=by intro w' hw;have e:=k1 w' hw;go_simp);go_frame;refine tk 6 (.slice (some ⟨a,o_,none⟩) 4 c) ?_;go_frame;refine tk 7 (.pointer (some ⟨a,o_+2,none⟩)) ?_;go_frame;refine tk 8 z2 ?_ (hy:=by intro w' hw;have e:=k2 w' hw;go_simp);go_frame;refine tk 9 (.slice (some ⟨a,o_,none⟩) 4 c) ?_;go_frame;refine tk 10 (.pointer (some ⟨a,o_+3,none⟩)) ?_;go_frame;refine tk 11 z3 ?_ (hy:=by intro w' hw;have e:=k3 w' hw;go_simp);go_frame;refine tk 12 m ?_ rfl (hy:=fun w' hw=>(by rw [HM.o];exact NG (x:=.tmp 5) (y:=.tmp 8) (z:=.tmp 11) (t:=.tmp 14) rfl rfl rfl rfl rfl));go_frame;refine iZ fun K hK=>?_;go_simp;refine hK _ _ ?_;clear hK K;try go_frame
 clear k0 k1 k2 k3;go_wp2_with fail
 go_ret;exact⟨rfl,hS⟩
theorem G7(A:Option Addr)(n c:Nat)(g:Nat→Int)(w:World)(h:dn w A n (xN g 4)): Calls prog 141 #[.slice A n c] w fun e w'=>e=.returned (.int .i64 (max (max (max (g 0) (g 1)) (g 2)) (g 3)))∧bH [] w w':=by
 have hn:n=4:=h.1.trans (rD g 4);subst hn;obtain⟨a,o_,rfl,_⟩:=h.2 0 (by omega);have hA:=fun u (t:bH [] w u) (j:Nat) (hj:j<4)=>(show u.cell? ⟨a,o_+j,none⟩=some (.int .i64 ((xN g 4).getD j 0)) by obtain⟨g',o',e',hc⟩:=(h.turn t).2 j hj;cases e';exact hc);have k0:=fun u (t:bH [] w u)=>hA u t 0 (by omega);have k1:=fun u (t:bH [] w u)=>hA u t 1 (by omega);have k2:=fun u (t:bH [] w u)=>hA u t 2 (by omega);have k3:=fun u (t:bH [] w u)=>hA u t 3 (by omega);simp only [xN,List.nil_append,List.cons_append,List.getD_cons_zero,List.getD_cons_succ,Nat.add_zero]at k0 k1 k2 k3;clear hA h;generalize g 0=z0 at *;generalize g 1=z1 at *;generalize g 2=z2 at *;generalize g 3=z3 at *;obtain⟨m,hm⟩:∃m,m=max (max (max z0 z1) z2) z3:=⟨_,rfl⟩;have HM:=lh hm;rw [←hm];clear hm;go_enter func141,ntmps141;go_upto_region 1 with fail
 refine sN 13 (tR w) fun V hS=>?_;refine tk 0 (.slice (some ⟨a,o_,none⟩) 4 c) ?_;go_frame;refine tk 1 (.pointer (some ⟨a,o_,none⟩)) ?_;go_frame;refine tk 2 z0 ?_ (hy:=by intro w' hw;have e:=k0 w' hw;go_simp);go_frame;refine tk 3 (.slice (some ⟨a,o_,none⟩) 4 c) ?_;go_frame;refine tk 4 (.pointer (some ⟨a,o_+1,none⟩)) ?_;go_frame;refine tk 5 z1 ?_ (hy:=by intro w' hw;have e:=k1 w' hw;go_simp);go_frame;refine tk 6 (.slice (some ⟨a,o_,none⟩) 4 c) ?_;go_frame;refine tk 7 (.pointer (some ⟨a,o_+2,none⟩)) ?_;go_frame;refine tk 8 z2 ?_ (hy:=by intro w' hw;have e:=k2 w' hw;go_simp);go_frame;refine tk 9 (.slice (some ⟨a,o_,none⟩) 4 c) ?_;go_frame;refine tk 10 (.pointer (some ⟨a,o_+3,none⟩)) ?_;go_frame;refine tk 11 z3 ?_ (hy:=by intro w' hw;have e:=k3 w' hw;go_simp);go_frame;refine tk 12 m ?_ rfl (hy:=fun w' hw=>(by rw [HM.o];exact Nz (x:=.tmp 5) (y:=.tmp 8) (z:=.tmp 11) (t:=.tmp 14) rfl rfl rfl rfl rfl));go_frame;refine iZ fun K hK=>?_;go_simp;refine hK _ _ ?_;clear hK K;try go_frame
 clear k0 k1 k2 k3;go_wp2_with fail
 go_ret;exact⟨rfl,hS⟩
theorem CY(p:Af)(hp:p.ok=true)(n:Int)(h0:-17179869184≤n)(h1:n≤17179869184)(pa:Nat)(w:World)(ha:w.heap[pa]?=some (.cells (VT p) 80 (0,0))): Calls prog 136 #[n,.pointer (some ⟨pa,0,none⟩)] w fun e w'=>e=.returned (.int .i64 (qG (2*n - p.den) (2*p.den)))∧bH [] w w':=by
 have hbd:=(p.bds hp).2.1;have y6:=bK ha (i:=6) (v:=p.den) rfl;clear hp ha;generalize p.den=den at *;have hc:=LW (2*n - den) (2*den) (by omega) (by omega) w;have hq:=uf (2*n - den) (2*den) 1099511627776 (by omega) (by omega);have v1:wrap64 (2*n)=2*n:=dN _ (by omega) (by omega);have v2:wrap64 (2*n - den)=2*n - den:=dN _ (by omega) (by omega);have v3:wrap64 (2*den)=2*den:=dN _ (by omega) (by omega);clear hq;generalize qG (2*n - den) (2*den)=q at *;have HC:=lh hc;clear hc h0 h1 hbd;go_enter func136,ntmps136;go_wp2_with (go_at_call 137;refine HC.o.mono ?_;rintro e w1 ⟨rfl,rfl⟩)
 go_ret;exact⟨by simp,tR _⟩
theorem GR(p:Af)(hp:p.ok=true)(n:Int)(h0:-17179869184≤n)(h1:n≤17179869184)(pa:Nat)(w:World)(ha:w.heap[pa]?=some (.cells (VT p) 80 (0,0))): Calls prog 138 #[n,.pointer (some ⟨pa,0,none⟩)] w fun e w'=>e=.returned (.int .i64 (iq (2*n - p.den) (2*p.den)+1))∧bH [] w w':=by
 have hbd:=(p.bds hp).2.1;have y6:=bK ha (i:=6) (v:=p.den) rfl;clear hp ha;generalize p.den=den at *;have hc:=J3 (2*n - den) (2*den) (by omega) (by omega) w;have hq:=uf (2*n - den) (2*den) 1099511627776 (by omega) (by omega);have v1:wrap64 (2*n)=2*n:=dN _ (by omega) (by omega);have v2:wrap64 (2*n - den)=2*n - den:=dN _ (by omega) (by omega);have v3:wrap64 (2*den)=2*den:=dN _ (by omega) (by omega);have v4:wrap64 (iq (2*n - den) (2*den)+1)=iq (2*n - den) (2*den)+1:=dN _ (by omega) (by omega);generalize iq (2*n - den) (2*den)=q at *;have HC:=lh hc;clear hc h0 h1 hbd hq;go_enter func138,ntmps138;go_wp2_with (go_at_call 139;refine HC.o.mono ?_;rintro e w1 ⟨rfl,rfl⟩)
 go_ret;exact⟨by simp [v4],tR _⟩
theorem UQ(w:World): Calls prog 142 #[] w fun e w'=>e=.returned Rc.cv.v∧bH [] w w':=by
 go_enter func142,ntmps142;go_wp2_with fail
 exact ag (v:=Rc.cv.v) (by simp [results,results142,go_sem];rfl) rfl ⟨rfl,(tR w).alloc _⟩
end Go.Proofs.YtbpklgllihhgpaaGreat
