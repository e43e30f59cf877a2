import Derived.Test.YtbpklgllihhgpaaGreatA51
set_option maxRecDepth 100000
set_option maxHeartbeats 16000000
namespace Go.Proofs.YtbpklgllihhgpaaGreat
open Tryz Go.RowKit Go.Den
def bI.Xu(x:bI): bI:={ x with Xl:=256 }
def df.brk(d:df)(A:Option Addr)(c k:Nat)(x:bI): df:=⟨d.sA,d.sn,d.sc,d.spaces,d.root,d.next,A,d.ln,c,d.layers.set k x.Xu⟩
theorem Ns(x:bI): x.Xu.row=x.row.set 4 (256:Int):=rfl
theorem QV{l:bI}{u:World}(h:l.At u): l.Xu.At u:=⟨h.kids,h.ks,h.cs,h.pts,h.Xm,h.mask,h.Xk⟩
theorem Kr{l:bI}(h:l.Thin): l.Xu.Thin:=⟨h.k,h.p,h.a,h.b,h.t,h.m⟩
theorem VA{d:df}{u:World}(h:d.At u){A:Option Addr}{c k base:Nat}{x:bI}(hg:d.layers[k]?=some x)
  (ho:iK jS u base (.slice A d.ln c) ((d.layers.map bI.row).set k (x.row.set 4 (256:Int)))):(d.brk A c k x).At u:=by
 have hlen:(d.layers.set k x.Xu).map bI.row=(d.layers.map bI.row).set k (x.row.set 4 (256:Int)):=by rw [List.map_set,Ns]
 rw [←hlen]at ho;have hr:=(iK.rowsAt ho).1;refine⟨h.spaces,⟨by show d.ln=_;simp [df.brk,h.layers.1],fun j y hj=>?_⟩,h.small⟩;have hj:(d.layers.set k x.Xu)[j]?=some y:=hj;have hrow:((d.layers.set k x.Xu).map bI.row)[j]?=some y.row:=by rw [aP,hj];rfl
 refine⟨?_,hr j _ hrow⟩;rcases List.mem_or_eq_of_mem_set (aH hj)with hm | rfl
 ·obtain⟨i,hi⟩:=bu.1 hm;exact (h.layers.2 i y hi).1
 exact QV (h.layers.2 k x hg).1
theorem KI{d:df}{A:Option Addr}{c k:Nat}{x:bI}(hg:d.layers[k]?=some x): (d.brk A c k x).ids=d.ids:=by unfold df.ids df.brk;exact yX hg rfl
theorem PQ{ls:List bI}{g:Nat}{x kg r:bI}{id:Int}(h:ls[g]?=some x)(e:kg.id=x.id)(ek:kg.kind=x.kind)(hr:dh ls id=some r): ∃r',dh (ls.set g kg) id=some r'∧r'.kind=r.kind:=by
 unfold dh at *;rw [yX h e];cases ha:mW (ls.map (·.id)) id with
 | none=>rw [ha]at hr;cases hr
 | some k=>
  rw [ha]at hr;simp only at hr ⊢;have hk:=(ah.1 hr).1;rw [List.getElem?_set];by_cases hg:g=k
  ·subst hg;rw [h]at hr;injection hr with hr;subst hr;exact⟨kg,by simp [hk],ek⟩
  exact⟨r,by simp [hg,hr],rfl⟩
theorem zY{d:df}{w:World}(h:d.At w)(ht:d.Tidy)(hok:d.Ok): ∀l∈d.layers,l.Thin:=fun l hl=>by obtain⟨i,hi⟩:=bu.1 hl;exact Ub (ht.lay l hl) (hok.good i l hi) (h.layers.2 i l hi).1
theorem Q5{ls:List bI}{y z:Int}(hh:iY ls y z): ∃k:Nat,(ls.map (·.id))[k]?=some y:=by
 induction hh with
 | one h=>exact zV h
 | tail _ _ ih=>exact ih
theorem RU{d:df}{w:World}(h:d.At w)(ht:d.Tidy)(hok:d.Ok): E5 d none:=by
 refine⟨ht.spc,ht.sn,ht.ln,ht.next,ht.inc,ht.pos,ht.root,fun i l hl _=>⟨ht.lay l (aH hl),hok.good i l hl,zY h ht hok l (aH hl)⟩,?_,fun _=>hok.kids,fun _=>hok.clone,?_,fun _=>hok.depth⟩
 ·intro i hi;cases hi
 intro _ x hx;obtain⟨k,hk⟩:=Q5 hx;exact hok.free k x hk hx
theorem UM{d:df}{w:World}(h:d.At w)(ht:d.Tidy)(hok:d.Ok){A:Option Addr}{c k:Nat}{x:bI}(hg:d.layers[k]?=some x): E5 (d.brk A c k x) (some k)∧∀l∈(d.brk A c k x).layers,l.Thin:=by
 have hth:=zY h ht hok;have hkl:=(ah.1 hg).1;have hx:=ht.lay x (aH hg);refine⟨⟨ht.spc,ht.sn,ht.ln,ht.next,by rw [KI hg];exact ht.inc,by rw [KI hg];exact ht.pos,?_,fun i l hl hne=>?_,fun i hi=>?_,(fun e=>nomatch e),(fun e=>nomatch e),(fun e=>nomatch e),(fun e=>nomatch e)⟩,fun l hl=>?_⟩
 ·obtain⟨r,hr,hrk⟩:=ht.root;obtain⟨r',hr',hk'⟩:=PQ (kg:=x.Xu) hg rfl rfl hr;exact⟨r',hr',hk'.trans hrk⟩
 ·have hl:(d.layers.set k x.Xu)[i]?=some l:=hl;have hik:k≠i:=fun e=>hne (by rw [e]);rw [List.getElem?_set_ne hik]at hl;exact⟨ht.lay l (aH hl),hok.good i l hl,hth l (aH hl)⟩
 ·injection hi with hi;subst hi;exact⟨x.Xu,by show (d.layers.set k x.Xu)[k]?=_;rw [List.getElem?_set_self hkl],⟨hx.kind,hx.name,rfl⟩⟩
 rcases List.mem_or_eq_of_mem_set (show l∈d.layers.set k x.Xu from hl)with hm | rfl
 ·exact hth l hm
 exact Kr (hth x (aH hg))
theorem IZ(d:df)(n:Int)(w:World)(h:d.At w)(ht:d.Tidy)(hok:d.Ok)(hr1:d.root=1):
  Calls prog 15 #[d.v,n] w fun e w'=>(∃(d':df) (k:Nat),d'.At w'∧E5 d' (some k)∧(∀l∈d'.layers,l.Thin)∧e=.returned d'.v)∧bH [] w w':=by
 have hsm:=h.small;have hln:=h.layers.1;have hpos:0<d.ln:=by
  obtain⟨r,hr,_⟩:=ht.root;rcases Nat.eq_zero_or_pos d.ln with e | e
  ·have:d.layers=[]:=List.length_eq_zero_iff.1 (by omega);rw [this]at hr;cases hr
  exact e
 have hr:=fun u=>(IJ n (d.ln:Int) (by omega) (by omega) u).mono fun e w' (hh:e=_∧w'=u)=>(show e=_∧bH [] u w' from ⟨hh.1,hh.2 ▸ tR u⟩);obtain⟨k0,k1⟩:=GM n (n:=(d.ln:Int)) (by omega);generalize vC n (d.ln:Int)=kk at *;obtain⟨k,rfl⟩:=Int.eq_ofNat_of_zero_le k0;have hkl:k<d.layers.length:=by omega
 obtain⟨x,hx⟩:∃x,d.layers[k]?=some x:=⟨_,aB hkl⟩;obtain⟨gl,ol,hlA,hrows⟩:=h.layers.cell (by omega);obtain⟨U,hU⟩:∃U,U=(w.alloc (.cells #[.slice d.sA d.sn d.sc,d.root,d.next,.slice d.lA d.ln d.lc] 29)).alloc (.cells #[.slice none 0 0,(0:Int),(0:Int),.slice none 0 0] 29):=⟨_,rfl⟩;obtain⟨V,hV⟩:∃V,V=U.alloc (.cells #[.slice d.sA d.sn d.sc,d.root,d.next,.slice d.lA d.ln d.lc] 29):=⟨_,rfl⟩;have TU:bH [] w U:=by rw [hU];exact ((tR w).alloc _).alloc _
 have TV:bH [] U V:=by rw [hV];exact (tR U).alloc _
 have hUs:U.heap.size=w.heap.size+2:=by rw [hU];simp
 have hVs:V.heap.size=U.heap.size+1:=by rw [hV];simp
 have x3:U.heap[w.heap.size]?=some (.cells #[.slice d.sA d.sn d.sc,d.root,d.next,.slice d.lA d.ln d.lc] 29 (0,0)):=by rw [hU];exact (((bH.refl [] (w.alloc _)).alloc _).old _ (by simp) (by simp)).trans (heap_alloc_new w _)
 have x4:U.heap[w.heap.size+1]?=some (.cells #[.slice none 0 0,(0:Int),(0:Int),.slice none 0 0] 29 (0,0)):=by rw [hU];have:=heap_alloc_new (w.alloc (.cells #[.slice d.sA d.sn d.sc,d.root,d.next,.slice d.lA d.ln d.lc] 29)) (.cells #[.slice none 0 0,(0:Int),(0:Int),.slice none 0 0] 29);simpa using this
 have x5:V.heap[U.heap.size]?=some (.cells #[.slice d.sA d.sn d.sc,d.root,d.next,.slice d.lA d.ln d.lc] 29 (0,0)):=by rw [hV];exact heap_alloc_new _ _
 have TA:bH [] _ _:=(tR V).alloc (.cells #[] 89);have hap:∃A' n' c' W6,(Builtin.append_ #[27,27] 27 #[.slice (some ⟨V,0,none⟩) 0 0,.slice d.lA d.ln d.lc]).run prog (V.alloc (.cells #[] 89))=.ok (.slice A' n' c') W6∧iK jS W6 V.heap.size (.slice A' n' c') (d.layers.map bI.row)∧bH [] V W6:=by
  obtain⟨v',w',e1,e2,e3,e4⟩:=zH (k:=jS) (t:=27) (news:=d.layers.map bI.row) underlying27 (lQ jS V) gl ol d.lc d.ln (by rw [aJ];exact hln) (fun r hr=>by
   obtain⟨x,_,rfl⟩:=List.mem_map.1 hr;exact pI x) (fun j r hj=>by
   rw [aP]at hj;cases hx:d.layers[j]? with
   | none=>rw [hx]at hj;cases hj
   | some x=>
    rw [hx]at hj;injection hj with hj;subst hj;exact (hrows _ (TU.trans (TV.trans TA)) j x hx).2) (by simp) (by simp;omega) 27
  rw [←hlA]at e1;obtain⟨A',n',c',rfl⟩:∃A n c,v'=.slice A n c:=by rcases iK.form e2 with ⟨e,_⟩ | ⟨_,_,_,e,_⟩ <;> exact⟨_,_,_,e⟩
  exact⟨A',n',c',w',e1,by simpa using e2,fH TA e3 (fun q hq=>by rw [show q=V.heap.size by simpa [dI,Value.ownBlock]using hq];exact aQ _)⟩
 obtain⟨A',n',c',W6,e1,e2,T6⟩:=hap;have hnb:∀q,q<V.heap.size→q∉dI (.slice A' n' c'):=fun q hq hm=>by
  rcases iK.form e2 with ⟨e,_⟩ | ⟨g,o,cap,e,hb,_⟩
  ·rw [e]at hm;simp [dI,Value.ownBlock]at hm
  rw [e]at hm;have:q=g:=by simpa [dI,Value.ownBlock]using hm
  omega
 have x56:=(T6.old U.heap.size (by omega) (by simp)).trans x5;have x57:=x56;rw [hr1]at x57;have hN:JM U (W6.setCell ⟨U,3,none⟩ (.slice A' n' c')) U.heap.size d.sA d.sn d.sc d.next A' n' c' (d.layers.map bI.row):=
  ⟨(TV.trans T6).setCell _ (.inr (aQ _)),dU (L:=[.slice d.sA d.sn d.sc,(1:Int),d.next,.slice d.lA d.ln d.lc]) x57 rfl,iK.kept (iK.base e2 (by omega)) ((bH.refl [U.heap.size] W6).setCell _ (.inl (by simp))) (fun q hq hm=>by rw [aN]at hm;subst hm;exact hnb _ (by omega) hq),hnb _ (by omega),aQ _⟩
 have y3:(V.alloc (.cells #[] 89)).cell? ⟨w,3,none⟩=some (.slice d.lA d.ln d.lc):=bK (((TV.trans TA).old _ (by omega) (by simp)).trans x3) (i:=3) (v:=.slice d.lA d.ln d.lc) rfl;have q0:=bK x3 (i:=0) (v:=.slice d.sA d.sn d.sc) rfl;have q1:=bK x3 (i:=1) (v:=d.root) rfl;have q2:=bK x3 (i:=2) (v:=d.next) rfl;have q3:=bK x3 (i:=3) (v:=.slice d.lA d.ln d.lc) rfl;have z3:=bK x56 (i:=3) (v:=.slice d.lA d.ln d.lc) rfl;have zf:=fun j=>dm x56 j;have HAP:=lh e1;have HN:=lh hN;have HX4:=lh x4;have HBL:=lh (fun u:World=>(show (Instr.buildSlice 27 0 #[]).run prog u=.ok (.slice (some ⟨u,0,none⟩) 0 0) (u.alloc (.cells #[] 89)) by kernel_rfl));have HR:=lh hr;have HD:=lh (bg h (bg ht (bg hok (bg hr1 hx))));have HS:=lh (bg hUs (bg hVs (bg TU hnb)));have HB:=lh (bg hkl (bg hsm (bg hln hpos)));clear hUs hVs e1 hN x4 x5 x56 x57 hr hx hr1 hln hsm h ht hok x3 TU TV TA T6 hnb e2 hlA hrows;unfold df.v;go_enter func15,ntmps15;go_upto_region 1 with fail
 rw [←hU];clear hU;go_upto_region 2 with fail
 rw [←hV];clear hV;go_upto_region 3 with (first
  | (refine bQ (o:=⟨some 7,_,_,_,_,_⟩) rfl (gm (vs:=#[]) rfl rfl (HBL.o _)) ?_;try go_frame)
  | (at_builtin;refine bQ rfl (dL (v:=.slice (some ⟨V,0,none⟩) 0 0) (y:=.slice d.lA d.ln d.lc) (.tmp 7) (.tmp 9) 27 rfl rfl rfl HAP.o) ?_;try go_frame))
 clear y3 q0 q1 q2 q3 z3 zf HAP HBL;obtain⟨X,hX⟩:∃X,X=W6.setCell ⟨U,3,none⟩ (.slice A' n' c'):=⟨_,rfl⟩;rw [←hX];have HN2:Hid (JM U X U.heap.size d.sA d.sn d.sc d.next A' n' c' (d.layers.map bI.row)):=lh (by rw [hX];exact HN.o);clear hX HN;obtain⟨gn,on,hA',hn',hgnb,hrow⟩:=HN2.o.rowAt HD.o.2.2.2.2;subst hA';have hnl:n'=d.ln:=hn'.trans HB.o.2.2.1.symm;subst hnl;have hgn:=HN2.o.own.2.lt gn (by simp [dI,Value.ownBlock]);have HF:Hid (∀u,bH [] X u→u.cell? ⟨U,3,none⟩=some (.slice (some ⟨gn,on,none⟩) d.ln c')∧u.cell? ⟨gn,on+k*31+4,none⟩=some (.int .i64 x.Xl)∧u.frozen? ⟨gn,on+k*31+4,none⟩=false):=lh fun u t=>by obtain⟨arr,harr⟩:=hgn.2.2;exact⟨bK (t.ox HN2.o.h11) (i:=3) (v:=.slice (some ⟨gn,on,none⟩) d.ln c') rfl,hrow u t 4 _ rfl,dm ((t.old _ hgn.2.1 (by simp)).trans harr) _⟩
 have b0:(0:Int)≤(k:Int):=by omega
 have b1:(k:Int)<(d.ln:Int):=by omega
 have HGN:=lh hgn;have hne:gn≠U.heap.size:=hgnb;have HNE:=lh hne;clear hrow hgn hgnb hne hn';refine sN 9 (tR X) fun Z hS=>?_;refine tk 0 (.pointer (some ⟨U,3,none⟩)) ?_;go_frame;refine tk 1 (.slice (some ⟨gn,on,none⟩) d.ln c') ?_ (hy:=fun w' hw=>by obtain⟨f3,_⟩:=HF.o _ hw;go_simp);go_frame;refine tk 2 n ?_;go_frame;refine tk 3 (.pointer (some ⟨U,3,none⟩)) ?_;go_frame;refine tk 4 (.slice (some ⟨gn,on,none⟩) d.ln c') ?_ (hy:=fun w' hw=>by obtain⟨f3,_⟩:=HF.o _ hw;go_simp);go_frame;refine tk 5 ((d.ln:Int)) ?_;go_frame;refine eH 6 fun K hK=>?_;go_simp;refine (HR.o _).mono ?_;rintro e w8 ⟨rfl,t8⟩;have hS:=hS.trans t8;clear t8;refine hK _ _ (fun _=>hS) ?_;clear hK K;try go_frame
 refine tk 7 (.pointer (some ⟨gn,on+k*31,none⟩)) ?_;go_frame;refine tk 8 (.pointer (some ⟨gn,on+k*31+4,none⟩)) ?_;go_frame;obtain⟨_,k4,kfz⟩:=HF.o _ hS;obtain⟨Y,hY⟩:∃Y,Y=w8.setCell ⟨gn,on+k*31+4,none⟩ (256:Int):=⟨_,rfl⟩;have hYX:bH [] U Y:=by rw [hY];exact (HN2.o.t.trans hS).setCell _ (.inr HGN.o.1)
 have hN3:=HN2.o.turn hS;have hY5:Y.heap[U.heap.size]?=some (.cells #[.slice d.sA d.sn d.sc,(1:Int),d.next,.slice (some ⟨gn,on,none⟩) d.ln c'] 29 (0,0)):=by rw [hY];exact (dG _ gn _ _ _ (Ne.symm HNE.o)).trans hN3.h11
 have hYo:iK jS Y U.heap.size (.slice (some ⟨gn,on,none⟩) d.ln c') ((d.layers.map bI.row).set k (x.row.set 4 (256:Int))):=by rw [hY];exact vW (k:=jS) (i:=4) hN3.own (by rw [aP,HD.o.2.2.2.2];rfl) (by decide) _ rfl
 have hY4:=(hYX.old (w.heap.size+1) (by have:=HS.o.1;omega) (by simp)).trans HX4.o;have HY:=lh (bg hYX (bg hYo (bg hY4 hY5)));refine iZ fun K hK=>?_;go_simp;refine hK _ _ ?_;clear hK K;try go_frame
 rw [←hY];clear hY hYX hYo hY4 hY5 hN3 k4 kfz hS;have q0:=bK HY.o.2.2.2 (i:=0) (v:=.slice d.sA d.sn d.sc) rfl;have q1:=bK HY.o.2.2.2 (i:=1) (v:=(1:Int)) rfl;have q2:=bK HY.o.2.2.2 (i:=2) (v:=d.next) rfl;have q3:=bK HY.o.2.2.2 (i:=3) (v:=.slice (some ⟨gn,on,none⟩) d.ln c') rfl;have z0:=bK HY.o.2.2.1 (i:=0) (v:=.slice none 0 0) rfl;have z1:=bK HY.o.2.2.1 (i:=1) (v:=(0:Int)) rfl;have z2:=bK HY.o.2.2.1 (i:=2) (v:=(0:Int)) rfl;have z3:=bK HY.o.2.2.1 (i:=3) (v:=.slice none 0 0) rfl;have zf:=fun j=>dm HY.o.2.2.1 j;have hF1:((((Y.setCell ⟨w.heap.size+1,0,none⟩ (.slice d.sA d.sn d.sc)).setCell ⟨w.heap.size+1,1,none⟩ (1:Int)).setCell ⟨w.heap.size+1,2,none⟩ d.next).setCell ⟨w.heap.size+1,3,none⟩ (.slice (some ⟨gn,on,none⟩) d.ln c')).heap[w.heap.size+1]?=some (.cells #[.slice d.sA d.sn d.sc,(1:Int),d.next,.slice (some ⟨gn,on,none⟩) d.ln c'] 29 (0,0)):=ut HY.o.2.2.1 rfl;have hTs:bH [] w Y:=HS.o.2.2.1.trans HY.o.1;have hF3:bH [] w ((((Y.setCell ⟨w.heap.size+1,0,none⟩ (.slice d.sA d.sn d.sc)).setCell ⟨w.heap.size+1,1,none⟩ (1:Int)).setCell ⟨w.heap.size+1,2,none⟩ d.next).setCell ⟨w.heap.size+1,3,none⟩ (.slice (some ⟨gn,on,none⟩) d.ln c')):=((((hTs.setCell _ (.inr (by simp))).setCell _ (.inr (by simp))).setCell _ (.inr (by simp))).setCell _ (.inr (by simp)));have hF4:iK jS ((((Y.setCell ⟨w.heap.size+1,0,none⟩ (.slice d.sA d.sn d.sc)).setCell ⟨w.heap.size+1,1,none⟩ (1:Int)).setCell ⟨w.heap.size+1,2,none⟩ d.next).setCell ⟨w.heap.size+1,3,none⟩ (.slice (some ⟨gn,on,none⟩) d.ln c')) U.heap.size (.slice (some ⟨gn,on,none⟩) d.ln c') ((d.layers.map bI.row).set k (x.row.set 4 (256:Int))):=iK.kept HY.o.2.1 (((((bH.refl [w.heap.size+1] Y).setCell _ (.inl (by simp))).setCell _ (.inl (by simp))).setCell _ (.inl (by simp))).setCell _ (.inl (by simp))) (fun q hq hm=>by
  rw [aN]at hm;subst hm;exact HS.o.2.2.2 _ (by have:=HS.o.1;have:=HS.o.2.1;omega) hq)
 have hF2:=VA (HD.o.1.turn hF3) HD.o.2.2.2.2 hF4;have hck:=UM (A:=some ⟨gn,on,none⟩) (c:=c') HD.o.1 HD.o.2.1 HD.o.2.2.1 HD.o.2.2.2.2;have hl9:=run_loadVar_row (P:=prog) _ (w.heap.size+1) 29 29 #[.slice d.sA d.sn d.sc,(1:Int),d.next,.slice (some ⟨gn,on,none⟩) d.ln c'] (0,0) _ hF1 underlying29 rfl yT;have hvv:(d.brk (some ⟨gn,on,none⟩) c' k x).v=.agg #[.slice d.sA d.sn d.sc,(1:Int),d.next,.slice (some ⟨gn,on,none⟩) d.ln c']:=by show Value.agg #[.slice d.sA d.sn d.sc,d.root,d.next,.slice (some ⟨gn,on,none⟩) d.ln c']=_;rw [HD.o.2.2.2.1]
 have HFF:=lh (bg hF2 (bg hF3 (bg hl9 (bg hck hvv))));clear hF1 hF2 hF3 hF4 hl9 hck hvv hTs;go_wp2_with fail
 obtain⟨hF2,hF3,hl9,hck,hvv⟩:=HFF.o;refine ag (v:=.agg #[.slice d.sA d.sn d.sc,(1:Int),d.next,.slice (some ⟨gn,on,none⟩) d.ln c']) ?_ rfl ⟨⟨_,k,hF2,hck.1,hck.2,congrArg Ending.returned hvv.symm⟩,hF3⟩;simp [results,results15,asAddr,hl9]
def xE(q:Rc)(b:Bool): Array Value:=#[q.x0,q.y0,q.x1,q.y1,.bool b]
theorem Nk(q:Rc)(u:World): (Instr.build 42 #[(0,.agg #[q.x0,q.y0,q.x1,q.y1]),(1,.bool true)]).run prog u=.ok (.agg (xE q true)) u:=by kernel_rfl
theorem OG(d:df)(id:Int)(w:World)(h:d.At w)(D:yA d):
  Calls prog 17 #[d.v,id] w fun e w'=>e=.returned (.agg (xE ((iJ d none id).getD Rc.zero) (iJ d none id).isSome))∧bH [] w w':=by
 obtain⟨W,hW⟩:∃W,W=(w.alloc (.cells #[.slice d.sA d.sn d.sc,d.root,d.next,.slice d.lA d.ln d.lc] 29)).alloc (.cells #[(0:Int),(0:Int),(0:Int),(0:Int),.bool false] 42):=⟨_,rfl⟩;have T0:bH [] w W:=by rw [hW];exact ((tR w).alloc _).alloc _
 have x0:W.heap[w.heap.size]?=some (.cells #[.slice d.sA d.sn d.sc,d.root,d.next,.slice d.lA d.ln d.lc] 29 (0,0)):=hW ▸ bO bN;have x1:W.heap[w.heap.size+1]?=some (.cells (xE Rc.zero false) 42 (0,0)):=hW ▸ bN;have hk:=fun u (t:bH [] w u)=>OD d id u (h.turn t) D.tidy D.ok;have HF:Hid (∀u,bH [] W u→(u.cell? ⟨w,0,none⟩=some (.slice d.sA d.sn d.sc)∧u.cell? ⟨w,1,none⟩=some (.int .i64 d.root)∧u.cell? ⟨w,2,none⟩=some (.int .i64 d.next)∧u.cell? ⟨w,3,none⟩=some (.slice d.lA d.ln d.lc))∧(u.cell? ⟨w.heap.size+1,0,none⟩=some (.int .i64 0)∧u.cell? ⟨w.heap.size+1,1,none⟩=some (.int .i64 0)∧u.cell? ⟨w.heap.size+1,2,none⟩=some (.int .i64 0)∧u.cell? ⟨w.heap.size+1,3,none⟩=some (.int .i64 0)∧u.cell? ⟨w.heap.size+1,4,none⟩=some (.bool false))∧∀i,u.frozen? ⟨w.heap.size+1,i,none⟩=false):=lh fun u t=>by have e0:=t.ox x0;have e1:=t.ox x1;exact⟨iw e0,⟨bK e1 (i:=0) rfl,bK e1 (i:=1) rfl,bK e1 (i:=2) rfl,bK e1 (i:=3) rfl,bK e1 (i:=4) rfl⟩,fun i=>dm e1 i⟩
 obtain⟨⟨q0,q1,q2,q3⟩,-⟩:=HF.o W (tR W);have HK:=lh hk;have HT0:=lh T0;have HA:=lh h;have HDD:=lh D;clear hk T0 h D x0 x1;unfold df.v at *;go_enter func17,ntmps17;go_upto_region 1 with fail
 rw [←hW];clear hW;go_upto_region 2 with (go_at_call 45;refine (HK.o _ HT0.o).mono ?_;rintro e w1 ⟨rfl,t1⟩)
 clear q0 q1 q2 q3 HK;obtain⟨⟨p0,p1,p2,p3⟩,⟨z0,z1,z2,z3,z4⟩,zf⟩:=HF.o w1 t1;have HT1:=lh t1;have HTW:=lh (HT0.o.trans t1);clear t1;cases hl:dh d.layers id with
 | none=>
  have hres:iJ d none id=none:=by unfold iJ;simp only;rw [hl];rfl
  have HRES:=lh hres;clear hres HA HDD HF HT1 HT0;rw [show (none:Option bI).isSome=false from rfl];clear hl;go_wp2_with fail
  exact ag (v:=.agg #[(0:Int),(0:Int),(0:Int),(0:Int),.bool false]) (by simp [results,results17,go_sem,z0,z1,z2,z3,z4]) rfl ⟨by rw [HRES.o];rfl,((((HTW.o.sc).sc).sc).sc).sc⟩
 | some l=>
  have hres:iJ d none id=some (uk d.layers 3000 l):=by unfold iJ;simp only;rw [hl];rfl
  have HRES:=lh hres;have HLY:Hid (∀u,bH [] w u→Calls prog 47 #[d.v,id] u fun e w'=>e=.returned l.v∧bH [] u w'):=lh fun u t=>zq d id l hl u (HA.o.turn t);have HAR:Hid (∀u,bH [] w u→Calls prog 53 #[d.v,l.v] u fun e w'=>e=.returned (uk d.layers 3000 l).v∧bH [] u w'):=lh fun u t=>Ou HDD.o id l hl u (HA.o.turn t);rw [show (some l:Option bI).isSome=true from rfl];clear hres HA HDD hl;unfold df.v bI.v at *;generalize uk d.layers 3000 l=q at *;unfold Rc.v at HAR;have HB:=lh (Nk q);unfold xE at HB;clear p0 p1 p2 p3 z0 z1 z2 z3 z4 zf HTW;go_upto_region 4 with fail
  refine sN 6 HT1.o fun Y hS=>?_;refine tk 0 (.agg #[.slice d.sA d.sn d.sc,d.root,d.next,.slice d.lA d.ln d.lc]) ?_ (hy:=fun w' hw=>by obtain⟨⟨p0,p1,p2,p3⟩,-⟩:=HF.o _ hw;go_simp);go_frame;refine tk 1 (.agg #[.slice d.sA d.sn d.sc,d.root,d.next,.slice d.lA d.ln d.lc]) ?_ (hy:=fun w' hw=>by obtain⟨⟨p0,p1,p2,p3⟩,-⟩:=HF.o _ hw;go_simp);go_frame;refine tk 2 id ?_;go_frame;refine eH 3 fun K hK=>?_;go_simp;(with_reducible refine (HLY.o _ (HT0.o.trans hS)).mono ?_);rintro e w3 ⟨rfl,ht⟩;replace hS:=hS.trans ht;refine hK _ _ (fun _=>hS) ?_;clear hK K ht;try go_frame
  refine eH 4 fun K hK=>?_;go_simp;(with_reducible refine (HAR.o _ (HT0.o.trans hS)).mono ?_);rintro e w4 ⟨rfl,ht⟩;replace hS:=hS.trans ht;refine hK _ _ (fun _=>hS) ?_;clear hK K ht;try go_frame
  refine tk 5 (.agg #[q.x0,q.y0,q.x1,q.y1,.bool true]) ?_ rfl (hy:=fun w' hw=>oN (x:=.tmp 16) (y:=.const (.bool true)) (p:=.agg #[q.x0,q.y0,q.x1,q.y1]) (q:=.bool true) rfl rfl rfl (HB.o _));go_frame;obtain⟨-,⟨z0,z1,z2,z3,z4⟩,zf⟩:=HF.o _ hS;have HT3:=lh (HT0.o.trans hS);clear hS;refine iZ fun K hK=>?_;go_simp;refine hK _ _ ?_;clear hK K;try go_frame
  go_wp2_with fail
  exact ag (v:=.agg #[q.x0,q.y0,q.x1,q.y1,.bool true]) (by simp [results,results17,go_sem,z0,z1,z2,z3,z4]) rfl ⟨by rw [HRES.o];rfl,((((HT3.o.sc).sc).sc).sc).sc⟩
end Go.Proofs.YtbpklgllihhgpaaGreat
