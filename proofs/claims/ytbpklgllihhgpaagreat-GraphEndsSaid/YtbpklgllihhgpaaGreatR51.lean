import Derived.Test.YtbpklgllihhgpaaGreatR50
set_option maxRecDepth 100000
set_option maxHeartbeats 16000000
namespace Go.Proofs.YtbpklgllihhgpaaGreat
open Tryz Go.RowKit Go.Den
structure MdD(d:DocM)(k:Nat): Prop where
 tidy:d.Tidy
 ok:d.Ok
 root:d.root=1
 next:d.next≤2+2*(k:Int)
 ln:d.ln≤1+k
 kb:∀l∈d.layers,l.kidn≤k
 sn:d.sn≤1
def zDoc:Array Value:=#[.slice none 0 0,(0:Int),(0:Int),.slice none 0 0]
structure MdW(w wr:World)(b4 b5:Nat)(d:DocM): Prop where
 t:Turn [] w wr
 h4:wr.heap[b4]?=some (.cells zDoc 29 (0,0))
 h5:wr.heap[b5]?=some (.cells ⟨d.row⟩ 29 (0,0))
 dat:d.At wr
 a4:d.Av b4
 a5:d.Av b5
 lt:w.heap.size≤b4∧b4<b5
theorem newL_tidy(ns:Int)(h:0≤ns): newL.Tidy ns:=by have t:=default_tidy 2 (by decide) (by decide);exact { t with space:=⟨by decide,h⟩,path:=fun e=>absurd e (by decide) }
theorem new_steps(x:Int): stepsM [newL] x=[]:=by
 unfold stepsM;cases h:atN ([newL].map (·.id)) x with
 | none=>rfl
 | some k=>
  simp only;obtain _ | k:=k
  ·rfl
  rfl
theorem new_ok(d:DocM)(hl:d.layers=[newL])(hr:d.root=1): d.Ok:=by
 refine⟨fun k l h=>?_,fun k l h=>?_,fun k l h=>?_,fun k y _ hre=>?_,?_⟩
 ·rw [hl]at h;obtain _ | k:=k
  ·simp at h;subst h;decide
  simp at h
 ·rw [hl]at h ⊢;rw [hr];obtain _ | k:=k
  ·simp at h;subst h;decide
  simp at h
 ·rw [hl]at h;obtain _ | k:=k
  ·simp at h;subst h;intro h4;cases h4
  simp at h
 ·rw [hl]at hre;have:∀{x y},Reach [newL] x y→False:=fun hh=>by
   induction hh with
   | one h=>rw [new_steps]at h;simp at h
   | tail _ _ ih=>exact ih
  exact this hre
 rw [hl,hr];decide
theorem new_mdd(sA:Option Addr)(sn sc:Nat)(spaces:List SpaceM)(lA:Option Addr)(hs:∀s∈spaces,s.Good)(hn:sn≤1): MdD ⟨sA,sn,sc,spaces,1,2,lA,1,1,[newL]⟩ 0:=by
 have h1:∀x∈(⟨sA,sn,sc,spaces,1,2,lA,1,1,[newL]⟩:DocM).ids,0<x∧x<2:=fun x hx=>by
  have:x=1:=by simpa [DocM.ids,newL,defaultM]using hx
  subst this;exact⟨by decide,by decide⟩
 have h2:∀l∈[newL],l.Tidy sn:=fun l hl=>by
  have:l=newL:=by simpa using hl
  subst this;exact newL_tidy _ (by show (0:Int)≤(sn:Int);omega)
 have h3:∀l∈[newL],l.kidn≤0:=fun l hl=>by
  have:l=newL:=by simpa using hl
  subst this;exact Nat.le_refl _
 exact⟨⟨hs,by show sn≤8;omega,by show 1≤40;decide,⟨by show (1:Int)≤2;decide,by show (2:Int)≤1048576;decide⟩,List.pairwise_singleton _ _,h1,⟨newL,rfl,rfl⟩,h2⟩,new_ok _ rfl rfl,rfl,by show (2:Int)≤2+2*((0:Nat):Int);decide,Nat.le_refl _,h3,hn⟩
theorem infoSB:(prog.info? 99).map (fun i=>(i.zero,i.size,i.bytes))=some (some (.agg ⟨zsl⟩),21,216):=by kernel_rfl
def elemS:Elem:=⟨99,21,216,.agg ⟨zsl⟩,infoSB,rfl,by decide,by decide,by decide⟩
theorem space_row{s:SpaceM}{w:World}(h:s.At w): elemS.Row s.row:=⟨by simp [SpaceM.row,h.h1,h.h2,elemS],fun u hu=>by
 simp only [SpaceM.row,List.mem_cons,List.mem_append,List.mem_map]at hu;rcases hu with rfl | rfl | rfl | ⟨z,_,rfl⟩ | ⟨z,_,rfl⟩ <;> rfl⟩
theorem cell_stab{w u:World}{c g i:Nat}{v:Value}(hu:∀q,q<w.heap.size→q∉[c]→u.heap[q]?=w.heap[q]?)(h:w.cell? ⟨g,i,none⟩=some v)(hg:g≠c): u.cell? ⟨g,i,none⟩=some v:=by rw [←h];simp only [World.cell?,hu g (block_lt_of_cell h) (by simpa using hg)]
theorem IntsAt.stab{w:World}{A:Option Addr}{n:Nat}{xs:List Int}{c:Nat}(h:IntsAt w A n xs)(ha:AvA A c): Stab [c] w fun u=>IntsAt u A n xs:=fun u _ hu=>⟨h.1,fun j hj=>by
 obtain⟨g,o,e,hc⟩:=h.2 j hj;exact⟨g,o,e,cell_stab hu hc (ha _ e)⟩⟩
theorem PtsAt.stab{w:World}{A:Option Addr}{n:Nat}{xs:List (Int×Int)}{c:Nat}(h:PtsAt w A n xs)(ha:AvA A c): Stab [c] w fun u=>PtsAt u A n xs:=fun u _ hu=>⟨h.1,fun j hj=>by
 obtain⟨g,o,e,h1,h2⟩:=h.2 j hj;exact⟨g,o,e,cell_stab hu h1 (ha _ e),cell_stab hu h2 (ha _ e)⟩⟩
theorem TilesAt.stab{w:World}{A:Option Addr}{n:Nat}{ts:List TileM}{c:Nat}(h:TilesAt w A n ts)(hs:Slim w c): Stab [c] w fun u=>TilesAt u A n ts:=fun u _ hu=>⟨h.1,fun j t ht=>by
 obtain⟨h1,g,o,h2,h3⟩:=h.2 j t ht;refine⟨h1,g,o,h2,?_⟩;have hg:g≠c:=by
  rintro rfl;obtain⟨arr,ty,fz,e1,e2⟩:=hs;have hl:257<t.row.length:=by simp [TileM.row,h1.1]
  have:=h3 257 _ (List.getElem?_eq_getElem hl);rw [cell_of_row _ _ _ _ _ _ e1,Array.getElem?_eq_none (by omega)]at this;cases this
 intro k v hv;exact cell_stab hu (h3 k v hv) hg⟩
theorem LayerM.New.stab{l:LayerM}{w:World}{base c:Nat}(h:l.New w base)(hc:c<base)(hs:Slim w c): Stab [c] w fun u=>l.At u:=fun u hz hu=>
 ⟨h.at_.kids.stab (.of h.fi hc) u hz hu,h.at_.ks.stab (.of h.fk hc) u hz hu,h.at_.cs.stab (.of h.fc hc) u hz hu,h.at_.pts.stab (.of h.fp hc) u hz hu,h.at_.tiles.stab hs u hz hu,h.at_.mask.stab hs u hz hu,h.at_.kidb⟩
structure FrL(l:LayerM)(base:Nat): Prop where
 fi:Fr l.kidA base
 fk:Fr l.filt.kA base
 fc:Fr l.filt.cA base
 fp:Fr l.pA base
theorem LayerM.New.frl{l:LayerM}{w:World}{base b:Nat}(h:l.New w base)(hb:b≤base): FrL l b:=⟨h.fi.mono hb,h.fk.mono hb,h.fc.mono hb,h.fp.mono hb⟩
structure MlW(w0 wx:World)(b7:Nat)(l:LayerM): Prop where
 t:Turn [] w0 wx
 h7:wx.heap[b7]?=some (.cells ⟨l.row⟩ 89 (0,0))
 st:Stab [b7] wx fun u=>l.At u
 fr:FrL l w0.heap.size
 kz:l.kidn=0
 lt:w0.heap.size≤b7
theorem wrap_bigm{z:Int}(h0:-10000000≤z)(h1:z≤10000000): wrap64 z=z:=wrap_small _ (by omega) (by omega)
theorem MdW.turn{w wr u:World}{b4 b5:Nat}{d:DocM}(P:MdW w wr b4 b5 d)(T:Turn [] wr u): MdW w u b4 b5 d:=
 ⟨P.t.trans T,(T.old _ (Array.getElem?_eq_some_iff.1 P.h4).1 (by simp)).trans P.h4,(T.old _ (Array.getElem?_eq_some_iff.1 P.h5).1 (by simp)).trans P.h5,P.dat.turn T,P.a4,P.a5,P.lt⟩
theorem MlW.cell{w0 wx:World}{b7 i:Nat}{l l':LayerM}{v:Value}(P:MlW w0 wx b7 l)(hr:l.row.set i v=l'.row)(he:∀u,l.At u→l'.At u)(hf:FrL l' w0.heap.size)(hk:l'.kidn=0): MlW w0 (wx.setCell ⟨b7,i,none⟩ v) b7 l':=
 ⟨P.t.setCell _ (.inr P.lt),setCell_at P.h7 hr,(P.st.setCell (by simp)).imp he,hf,hk,P.lt⟩
theorem MlW.turn{w0 wx u:World}{b7:Nat}{l:LayerM}(P:MlW w0 wx b7 l)(T:Turn [] wx u): MlW w0 u b7 l:=
 ⟨P.t.trans T,(T.old _ (Array.getElem?_eq_some_iff.1 P.h7).1 (by simp)).trans P.h7,P.st.turn T,P.fr,P.kz,P.lt⟩
def LayerM.made(l:LayerM)(id of sp:Int): LayerM:={ l with id:=id,of:=of,space:=sp }
theorem LayerM.made_at{l:LayerM}{u:World}(h:l.At u)(id of sp:Int): (l.made id of sp).At u:=⟨h.kids,h.ks,h.cs,h.pts,h.tiles,h.mask,h.kidb⟩
theorem FrL.made{l:LayerM}{b:Nat}(h:FrL l b)(id of sp:Int): FrL (l.made id of sp) b:=⟨h.fi,h.fk,h.fc,h.fp⟩
theorem made_tidy{l:LayerM}(h:l.Tidy 0)(id of sp:Int){ns:Int}(h0:0≤ns)(hof:l.kind≠4→of=l.of)(hsp:sp=l.space∨l.kind=1∧0≤sp∧sp≤ns): (l.made id of sp).Tidy ns:=
 ⟨h.kind,h.name,h.opac,h.mode,h.place,h.noplace,by
  have:=h.space;show 0≤sp∧sp≤ns;rcases hsp with e | ⟨_,h1,h2⟩
  ·omega
  ·exact⟨h1,h2⟩,fun h1=>by
  rcases hsp with e | ⟨e,_,_⟩
  ·exact⟨e.trans (h.nospace h1).1,(h.nospace h1).2⟩
  exact absurd e h1,h.nokids,fun h4=>(hof h4).trans (h.noof h4),h.nofilt,h.nopath,h.path,h.nomask⟩
structure GrW(d:DocM)(x0 wx:World)(v:Value)(gs:List Int)(q:Nat): Prop where
 t:Turn [] x0 wx
 own:Il wx x0.heap.size v gs
 mem:∀z∈gs,∃(j:Nat) (x:LayerM),z=(j:Int)∧d.layers[j]?=some x∧x.kind=2
 ne:∀(j:Nat) (x:LayerM),j<q→d.layers[j]?=some x→x.kind=2→gs≠[]
 len:gs.length≤q
theorem GrW.skip{d:DocM}{x0 wx u:World}{v:Value}{gs:List Int}{q:Nat}(h:GrW d x0 wx v gs q){x:LayerM}(hx:d.layers[q]?=some x)(hk:x.kind≠2)(T:Turn [] wx u): GrW d x0 u v gs (q+1):=
 ⟨h.t.trans T,h.own.turn T,h.mem,fun j y hj hy hy2=>by
  by_cases e:j=q
  ·subst e;rw [hx]at hy;injection hy with hy;subst hy;exact absurd hy2 hk
  exact h.ne j y (by omega) hy hy2,Nat.le_succ_of_le h.len⟩
theorem ints_lit1(u:World)(z:Int): IntsAt (u.alloc (.cells #[z] 3)) (some ⟨u,0,none⟩) 1 [z]:=
 ⟨rfl,fun j hj=>⟨_,_,rfl,by
  rw [cell_of_row _ _ _ #[z] 3 (0,0) (heap_alloc_new u _),Nat.zero_add];match j,hj with
  | 0,_=>rfl⟩⟩
theorem slice1i(z:Int)(V:World): (Instr.buildSlice 22 1 #[(0,z)]).run prog V=.ok (.slice (some ⟨V,0,none⟩) 1 1) (V.alloc (.cells #[z] 3)):=by kernel_rfl
theorem GrW.put{d:DocM}{x0 wx:World}{v:Value}{gs:List Int}{q:Nat}(h:GrW d x0 wx v gs q)(hq:q≤100){x:LayerM}(hx:d.layers[q]?=some x)(hk:x.kind=2)(ty:TypeId):
  ∃v' w',(Builtin.append_ #[22,22] ty #[v,.slice (some ⟨wx,0,none⟩) 1 1]).run prog (wx.alloc (.cells #[(q:Int)] 3))=.ok v' w'∧GrW d x0 w' v' (gs ++ [(q:Int)]) (q+1):=by
 have T:=(tR wx).alloc (.cells #[(q:Int)] 3);obtain⟨v',w',e1,e2,e3,e4⟩:=app_ints (h.own.turn T) (ints_lit1 wx (q:Int)) (cap:=1) (by have:=h.t.size;simp;omega) (by have:=h.len;omega) ty;refine⟨v',w',e1,⟨turn_newI (h.t.trans T) e3 (h.own.turn T) (Nat.le_refl _),e2,fun z hz=>?_,fun _ _ _ _ _=>by simp,by have:=h.len;simp;omega⟩⟩;rcases List.mem_append.1 hz with hz | hz
 ·exact h.mem z hz
 rw [List.mem_singleton]at hz;exact⟨q,x,hz,hx,hk⟩
theorem alloc_DT(u:World): (Instr.alloc 29 true (.tuple #[])).run prog u=.ok (.pointer (some ⟨u,0,none⟩)) (u.alloc (.cells zDoc 29)):=by kernel_rfl
theorem build_D4(A:Option Addr)(n c:Nat)(r x:Int)(B:Option Addr)(m e:Nat)(u:World): (Instr.build 29 #[(0,.slice A n c),(1,r),(2,x),(3,.slice B m e)]).run prog u=.ok (.agg #[.slice A n c,r,x,.slice B m e]) u:=by kernel_rfl
structure NwW(w0 wx:World)(b11:Nat)(sA:Option Addr)(sn sc:Nat)(nx:Int)(A:Option Addr)(n c:Nat)(rows:List (List Value)): Prop where
 t:Turn [] w0 wx
 h11:wx.heap[b11]?=some (.cells #[.slice sA sn sc,(1:Int),nx,.slice A n c] 29 (0,0))
 own:Own elemL wx w0.heap.size (.slice A n c) rows
 nb:b11∉blks (.slice A n c)
 lt:w0.heap.size≤b11
theorem build_A8(a b c d e f g h:Int)(u:World): (Instr.build 102 #[(0,a),(1,b),(2,c),(3,d),(4,e),(5,f),(6,g),(7,h)]).run prog u=.ok (.agg #[a,b,c,d,e,f,g,h]) u:=by kernel_rfl
theorem exec_build8{P:Program}{o:Oper}{a:Act}{w w':World}{t:TypeId}{x0 x1 x2 x3 x4 x5 x6 x7:Operand}{y0 y1 y2 y3 y4 y5 y6 y7 v:Value}(ho:o.op=.build t #[(0,x0),(1,x1),(2,x2),(3,x3),(4,x4),(5,x5),(6,x6),(7,x7)])(h0:a.eval x0=y0)(h1:a.eval x1=y1)(h2:a.eval x2=y2)(h3:a.eval x3=y3)(h4:a.eval x4=y4)(h5:a.eval x5=y5)(h6:a.eval x6=y6)(h7:a.eval x7=y7)
  (hr:(Instr.build t #[(0,y0),(1,y1),(2,y2),(3,y3),(4,y4),(5,y5),(6,y6),(7,y7)]).run P w=.ok v w'):(execOp a.eval o).run P w=.ok (.value v) w':=
 exec_build ho (by simp [h0,h1,h2,h3,h4,h5,h6,h7]) hr
theorem MdD.mono{d:DocM}{k m:Nat}(h:MdD d k)(hk:k≤m): MdD d m:=
 ⟨h.tidy,h.ok,h.root,by have:=h.next;omega,by have:=h.ln;omega,fun l hl=>Nat.le_trans (h.kb l hl) hk,h.sn⟩
theorem sizeI(w:World): (sizeOf (prog.elem 22)).run prog w=.ok 1 w:=by kernel_rfl
theorem undI:prog.underlying 22=some (.slice (prog.elem 22)):=by kernel_rfl
theorem sl_head(A:Option Addr)(n c k:Nat)(hc:k≤c): ∃A',(∀u,(Instr.slice 22 (.slice A n c) none (some (.int .i64 (k:Int))) none).run prog u=.ok (.slice A' k c) u)∧∀u' ks,k≤n→IntsAt u' A n ks→IntsAt u' A' k (ks.take k):=by
 refine⟨if c=0 then A else A.map (·.add (0*1)),fun u=>?_,fun u' ks hk h=>?_⟩
 ·rw [run_slice_h (P:=prog) u 22 A n c undI .i64 (k:Int) (by omega) (by omega),sizeI];simp [Result.andThen,sliced]
 refine⟨by rw [List.length_take,←h.1];omega,fun j hj=>?_⟩;obtain⟨g,o,e,hcell⟩:=h.2 j (by omega);have e2:(if c=0 then A else A.map (·.add (0*1)))=some ⟨g,o,none⟩:=by rw [if_neg (by omega),e];simp [Addr.add_lit]
 refine⟨g,o,e2,?_⟩;rw [hcell];simp [List.getD,hj]
theorem sl_tail(A:Option Addr)(n c k:Nat)(hk:k≤n): ∃A',(∀u,(Instr.slice 22 (.slice A n c) (some (.int .i64 (k:Int))) none none).run prog u=.ok (.slice A' (n - k) (c - k)) u)∧∀u' ks,n≤c→IntsAt u' A n ks→IntsAt u' A' (n - k) (ks.drop k):=by
 refine⟨if c=k then A else A.map (·.add (k*1)),fun u=>?_,fun u' ks hc h=>?_⟩
 ·rw [run_slice_l (P:=prog) u 22 A n c undI .i64 (k:Int) (by omega) (by omega),sizeI];simp [Result.andThen,sliced]
 refine⟨by rw [List.length_drop,←h.1],fun j hj=>?_⟩;obtain⟨g,o,e,hcell⟩:=h.2 (k+j) (by omega);have e2:(if c=k then A else A.map (·.add (k*1)))=some ⟨g,o+k,none⟩:=by rw [if_neg (by omega),e];simp [Addr.add_lit]
 refine⟨g,o+k,e2,?_⟩;rw [Nat.add_assoc,hcell];simp [List.getD,List.getElem?_drop]
theorem exec_sl{P:Program}{o:Oper}{a:Act}{w w':World}{t:TypeId}{x:Operand}{lo hi:Option Operand}{p v:Value}{l h:Option Value}(ho:o.op=.slice t x lo hi none)(hx:a.eval x=p)(hl:lo.map a.eval=l)(hh:hi.map a.eval=h)(ht:P.underlying t=some (.slice (P.elem t)))
  (hr:(Instr.slice t p l h none).run P w=.ok v w'):(execOp a.eval o).run P w=.ok (.value v) w':=by
 simp only [execOp,ho,hx,hl,hh,Option.map_none,Sem.run_bind,run_sliceAt_slice (P:=P) w t p l h none ht,hr,Result.andThen,Sem.run_pure]
theorem own_cell{k:Elem}{w:World}{base gn on n c g i:Nat}{rows:List (List Value)}{row:List Value}(h:Own k w base (.slice (some ⟨gn,on,none⟩) n c) rows)(hg:rows[g]?=some row)(hi:i<k.size)(v:Value)(hv:v.oneCell'=true):
  Own k (w.setCell ⟨gn,on+g*k.size+i,none⟩ v) base (.slice (some ⟨gn,on,none⟩) n c) (rows.set g (row.set i v)):=by
 have hgl:=(List.getElem?_eq_some_iff.1 hg).1;have hrow:=h.1 row (List.mem_of_getElem? hg);have hR:∀r∈rows.set g (row.set i v),k.Row r:=fun r hr=>by
  rcases List.mem_or_eq_of_mem_set hr with hr | rfl
  ·exact h.1 r hr
  exact⟨by rw [List.length_set];exact hrow.len,fun u hu=>by
   rcases List.mem_or_eq_of_mem_set hu with hu | rfl
   ·exact hrow.one u hu
   exact hv⟩
 have hlen:=flatten_len (fun r hr=>(hR r hr).len);refine⟨hR,hlen,?_⟩;rcases h.2.2 with ⟨e,_⟩ | ⟨g',off,cap,arr,e,hb,hh,hn,hm,hs,hx⟩
 ·cases e
 injection e with e1 e2 e3;injection e1 with e1;injection e1 with e1 e1' _;subst e1;subst e1';refine .inr ⟨gn,on,cap,arr.setIfInBounds (on+g*k.size+i) v,by rw [List.length_set,←e2,←e3],hb,by simp [World.setCell,Array.getElem?_modify,hh],by rw [List.length_set];exact hn,hm,by rw [Array.size_setIfInBounds];exact hs,fun j u hj=>?_⟩;have hjl:j<(rows.set g (row.set i v)).flatten.length:=(List.getElem?_eq_some_iff.1 hj).1;rw [hlen,List.length_set]at hjl;have hq:j / k.size<rows.length:=Nat.div_lt_of_lt_mul (by rw [Nat.mul_comm];exact hjl);have hr:=Nat.mod_lt j k.hs;have he:j / k.size*k.size+j % k.size=j:=by rw [Nat.mul_comm];exact Nat.div_add_mod j k.size
 rw [←he,flatten_at (fun r hr=>(hR r hr).len) _ _ hr]at hj;rw [List.getElem?_set]at hj;by_cases hjg:g=j / k.size
 ·rw [if_pos hjg,if_pos (by omega)]at hj;simp only [Option.bind_some]at hj;rw [List.getElem?_set]at hj;by_cases hji:i=j % k.size
  ·rw [if_pos hji,if_pos (by rw [hrow.len];exact hi)]at hj;injection hj with hj;subst hj;have hpos:on+j=on+g*k.size+i:=(by rw [hjg,hji];omega);rw [hpos];have hsz:on+g*k.size+i<arr.size:=(by have:j<cap*k.size:=Nat.lt_of_lt_of_le hjl (Nat.mul_le_mul_right _ hn);omega);rw [Array.getElem?_setIfInBounds_self_of_lt hsz]
  rw [if_neg hji]at hj;have hne:on+g*k.size+i≠on+j:=fun hh=>hji (by
   have:g*k.size+i=j:=(by omega);rw [←this,Nat.add_comm,Nat.add_mul_mod_self_right,Nat.mod_eq_of_lt hi])
  rw [Array.getElem?_setIfInBounds_ne hne];refine hx j u ?_;rw [←he,flatten_at (fun r hr=>(h.1 r hr).len) _ _ hr,←hjg,hg];exact hj
 rw [if_neg hjg]at hj;have hne:on+g*k.size+i≠on+j:=fun hh=>hjg (by
  have:g*k.size+i=j:=by omega
  rw [←this,Nat.add_comm,Nat.add_mul_div_right _ _ k.hs,Nat.div_eq_of_lt hi,Nat.zero_add])
 rw [Array.getElem?_setIfInBounds_ne hne];refine hx j u ?_;rw [←he,flatten_at (fun r hr=>(h.1 r hr).len) _ _ hr];exact hj
theorem NwW.turn{w0 wx u:World}{b11:Nat}{sA:Option Addr}{sn sc:Nat}{nx:Int}{A:Option Addr}{n c:Nat}{rows:List (List Value)}(h:NwW w0 wx b11 sA sn sc nx A n c rows)(T:Turn [] wx u): NwW w0 u b11 sA sn sc nx A n c rows:=
 ⟨h.t.trans T,(T.old _ (Array.getElem?_eq_some_iff.1 h.h11).1 (by simp)).trans h.h11,Own.turn h.own T,h.nb,h.lt⟩
theorem IntsAt.keepT{w w':World}{A:Option Addr}{n:Nat}{xs:List Int}{bs:List Nat}(h:IntsAt w A n xs)(T:Turn bs w w')(hb:∀a,A=some a→a.block∉bs): IntsAt w' A n xs:=
 ⟨h.1,fun j hj=>by
  obtain⟨g,o,e,hc⟩:=h.2 j hj;refine⟨g,o,e,?_⟩;rw [←hc];simp only [World.cell?,T.old g (block_lt_of_cell hc) (hb _ e)]⟩
theorem NwW.rowAt{w0 wx:World}{b11:Nat}{sA:Option Addr}{sn sc:Nat}{nx:Int}{A:Option Addr}{n c g:Nat}{ls:List LayerM}{x:LayerM}(h:NwW w0 wx b11 sA sn sc nx A n c (ls.map LayerM.row))(hx:ls[g]?=some x):
  ∃gn on,A=some ⟨gn,on,none⟩∧n=ls.length∧gn≠b11∧∀u,Turn [] wx u→u.rangeAt gn (on+g*31) x.row:=by
 have hr:(ls.map LayerM.row)[g]?=some x.row:=by rw [List.getElem?_map,hx];rfl
 rcases Own.form h.own with ⟨_,h0⟩ | ⟨gn,on,cap,e,_,_,_,hrow⟩
 ·rw [h0]at hr;simp at hr
 injection e with e1 e2 e3;have hnb:=h.nb;rw [e1]at hnb;exact⟨gn,on,e1,by rw [e2,List.length_map],fun hh=>hnb (by simp [blks,Value.ownBlock,hh]),fun u t=>range_turn t (hrow g _ hr)⟩
theorem DocM.At.kidsAt{d:DocM}{w:World}(h:d.At w){g:Nat}{x:LayerM}(hx:d.layers[g]?=some x): IntsAt w x.kidA x.kidn x.kids:=(h.layers.2 g x hx).1.kids
theorem Il.capLe{w:World}{base:Nat}{A:Option Addr}{n c:Nat}{xs:List Int}(h:Il w base (.slice A n c) xs): n≤c:=by
 rcases h.form with ⟨e,_⟩ | ⟨g,o,cap,e,_,_,hl,_⟩
 ·injection e with _ e2 e3;omega
 injection e with _ e2 e3;omega
theorem withKids_at{l:LayerM}{u:World}(h:l.At u){A:Option Addr}{n c:Nat}{ks:List Int}(hk:IntsAt u A n ks)(hn:n≤50): (l.withKids A n c ks).At u:=⟨hk,h.ks,h.cs,h.pts,h.tiles,h.mask,hn⟩
theorem grow_at{d:DocM}{u:World}(h:d.At u){A kA:Option Addr}{c kn kc g base:Nat}{nx:Int}{ks:List Int}{x l:LayerM}(hg:d.layers[g]?=some x)(hk:IntsAt u kA kn ks)(hkn:kn≤50)(hl:l.At u)(hs:d.ln+1≤50)
  (ho:Own elemL u base (.slice A (d.ln+1) c) ((d.layers.map LayerM.row).set g (x.withKids kA kn kc ks).row ++ [l.row])):(d.grow A c nx g (x.withKids kA kn kc ks) l).At u:=by
 have hlen:(d.layers.set g (x.withKids kA kn kc ks) ++ [l]).map LayerM.row=(d.layers.map LayerM.row).set g (x.withKids kA kn kc ks).row ++ [l.row]:=by rw [List.map_append,List.map_set];rfl
 rw [←hlen]at ho;have hr:=(Own.rowsAt ho).1;refine⟨h.spaces,⟨by show d.ln+1=_;simp [DocM.grow,h.layers.1],fun j y hj=>?_⟩,hs⟩;have hrow:((d.layers.set g (x.withKids kA kn kc ks) ++ [l]).map LayerM.row)[j]?=some y.row:=by rw [List.getElem?_map];show Option.map LayerM.row (d.layers.set g (x.withKids kA kn kc ks) ++ [l])[j]?=_;rw [show (d.layers.set g (x.withKids kA kn kc ks) ++ [l])[j]?=some y from hj];rfl
 refine⟨?_,hr j _ hrow⟩;have hm:y∈d.layers.set g (x.withKids kA kn kc ks) ++ [l]:=List.mem_of_getElem? hj;rcases List.mem_append.1 hm with hm | hm
 ·rcases List.mem_or_eq_of_mem_set hm with hm | rfl
  ·obtain⟨i,hi⟩:=List.mem_iff_getElem?.1 hm;exact (h.layers.2 i y hi).1
  exact withKids_at (h.layers.2 g x hg).1 hk hkn
 rw [List.mem_singleton]at hm;subst hm;exact hl
theorem grow_av{d:DocM}{b:Nat}(h:d.Av b){A kA:Option Addr}{c kn kc g:Nat}{nx:Int}{ks:List Int}{x l:LayerM}(hg:d.layers[g]?=some x)(hA:AvA A b)(hk:AvA kA b)(hl:l.Av b): (d.grow A c nx g (x.withKids kA kn kc ks) l).Av b:=by
 refine⟨h.s,hA,h.ss,fun y hm=>?_⟩;have hm:y∈d.layers.set g (x.withKids kA kn kc ks) ++ [l]:=hm;rcases List.mem_append.1 hm with hm | hm
 ·rcases List.mem_or_eq_of_mem_set hm with hm | rfl
  ·exact h.ls y hm
  have hx:=h.ls x (List.mem_of_getElem? hg);exact⟨hk,hx.fk,hx.fc,hx.fp⟩
 rw [List.mem_singleton]at hm;subst hm;exact hl
theorem grow_mdd{d:DocM}{k:Nat}(h:MdD d k)(hk8:k≤8){A kA:Option Addr}{c kn kc g:Nat}{nb:Int}{ks:List Int}{x l:LayerM}(hg:d.layers[g]?=some x)(hx:x.kind=2)(hid:l.id=d.next)(hl:l.Tidy d.sn)(h0:0≤nb)(h1:nb≤1)(hkn:kn≤k+1)(hlk:l.kidn=0)
  (hok:(d.grow A c (d.next+1+nb) g (x.withKids kA kn kc ks) l).Ok):MdD (d.grow A c (d.next+1+nb) g (x.withKids kA kn kc ks) l) (k+1):=by
 have hn:=h.next;have hln:=h.ln;refine⟨grow_tidy h.tidy hg hx hid hl (by omega) (by omega) (by omega),hok,h.root,by show d.next+1+nb≤_;omega,by show d.ln+1≤_;omega,fun y hm=>?_,h.sn⟩;have hm:y∈d.layers.set g (x.withKids kA kn kc ks) ++ [l]:=hm;rcases List.mem_append.1 hm with hm | hm
 ·rcases List.mem_or_eq_of_mem_set hm with hm | rfl
  ·exact Nat.le_succ_of_le (h.kb y hm)
  exact hkn
 rw [List.mem_singleton]at hm;subst hm;omega
theorem cur191{J:Act→World→Prop}{R:Value→Value→Value→Value→Value→Value→Value→Value→Value→Value→Value→Value→Value→Value→Value→Value→Value→Value→Value→Value→Value→Value→Value→Value→Value→Value→Value→Value→Value→Value→Value→Value→Value→Value→Value→Value→Value→Value→Value→Value→Value→Value→Value→Value→Value→Value→Value→Value→Value→Value→Value→Value→Value→Value→Value→Value→Value→Value→Value→Value→Value→Value→Value→Value→Value→Value→Value→Value→Value→Value→Value→Value→Value→Value→Value→Value→Value→Value→Value→Value→Value→Value→Value→Value→Value→Value→Value→Value→Value→Value→Value→Value→Value→Value→Value→Value→Value→Value→Value→Value→Value→Value→Value→Value→Value→Value→Value→Value→Value→Value→Value→Value→Value→Value→Value→Value→Value→Value→Value→Value→Value→Value→Value→Value→Value→Value→Value→Value→Value→Value→Value→Value→Value→Value→Value→Value→Value→Value→Value→Value→Value→Value→Value→Value→Value→Value→Value→Value→Value→Value→Value→Value→Value→Value→Value→Value→Value→Value→Value→Value→Value→Value→Value→Value→Value→Value→Value→Value→Value→Value→Value→Value→Value→Value→Value→Value→Value→Value→Value→Value→Value→Value→Value→Value→Value→Value→Value→Value→Value→Value→Value→Act→World→Prop}(h:∀a w,(∃u0 u1 u2 u3 u4 u5 u6 u7 u8 u9 u10 u11 u12 u13 u14 u15 u16 u17 u18 u19 u20 u21 u22 u23 u24 u25 u26 u27 u28 u29 u30 u31 u32 u33 u34 u35 u36 u37 u38 u39 u40 u41 u42 u43 u44 u45 u46 u47 u48 u49 u50 u51 u52 u53 u54 u55 u56 u57 u58 u59 u60 u61 u62 u63 u64 u65 u66 u67 u68 u69 u70 u71 u72 u73 u74 u75 u76 u77 u78 u79 u80 u81 u82 u83 u84 u85 u86 u87 u88 u89 u90 u91 u92 u93 u94 u95 u96 u97 u98 u99 u100 u101 u102 u103 u104 u105 u106 u107 u108 u109 u110 u111 u112 u113 u114 u115 u116 u117 u118 u119 u120 u121 u122 u123 u124 u125 u126 u127 u128 u129 u130 u131 u132 u133 u134 u135 u136 u137 u138 u139 u140 u141 u142 u143 u144 u145 u146 u147 u148 u149 u150 u151 u152 u153 u154 u155 u156 u157 u158 u159 u160 u161 u162 u163 u164 u165 u166 u167 u168 u169 u170 u171 u172 u173 u174 u175 u176 u177 u178 u179 u180 u181 u182 u183 u184 u185 u186 u187 u188 u189 u190:Value,R u0 u1 u2 u3 u4 u5 u6 u7 u8 u9 u10 u11 u12 u13 u14 u15 u16 u17 u18 u19 u20 u21 u22 u23 u24 u25 u26 u27 u28 u29 u30 u31 u32 u33 u34 u35 u36 u37 u38 u39 u40 u41 u42 u43 u44 u45 u46 u47 u48 u49 u50 u51 u52 u53 u54 u55 u56 u57 u58 u59 u60 u61 u62 u63 u64 u65 u66 u67 u68 u69 u70 u71 u72 u73 u74 u75 u76 u77 u78 u79 u80 u81 u82 u83 u84 u85 u86 u87 u88 u89 u90 u91 u92 u93 u94 u95 u96 u97 u98 u99 u100 u101 u102 u103 u104 u105 u106 u107 u108 u109 u110 u111 u112 u113 u114 u115 u116 u117 u118 u119 u120 u121 u122 u123 u124 u125 u126 u127 u128 u129 u130 u131 u132 u133 u134 u135 u136 u137 u138 u139 u140 u141 u142 u143 u144 u145 u146 u147 u148 u149 u150 u151 u152 u153 u154 u155 u156 u157 u158 u159 u160 u161 u162 u163 u164 u165 u166 u167 u168 u169 u170 u171 u172 u173 u174 u175 u176 u177 u178 u179 u180 u181 u182 u183 u184 u185 u186 u187 u188 u189 u190 a w)→J a w)(u0 u1 u2 u3 u4 u5 u6 u7 u8 u9 u10 u11 u12 u13 u14 u15 u16 u17 u18 u19 u20 u21 u22 u23 u24 u25 u26 u27 u28 u29 u30 u31 u32 u33 u34 u35 u36 u37 u38 u39 u40 u41 u42 u43 u44 u45 u46 u47 u48 u49 u50 u51 u52 u53 u54 u55 u56 u57 u58 u59 u60 u61 u62 u63 u64 u65 u66 u67 u68 u69 u70 u71 u72 u73 u74 u75 u76 u77 u78 u79 u80 u81 u82 u83 u84 u85 u86 u87 u88 u89 u90 u91 u92 u93 u94 u95 u96 u97 u98 u99 u100 u101 u102 u103 u104 u105 u106 u107 u108 u109 u110 u111 u112 u113 u114 u115 u116 u117 u118 u119 u120 u121 u122 u123 u124 u125 u126 u127 u128 u129 u130 u131 u132 u133 u134 u135 u136 u137 u138 u139 u140 u141 u142 u143 u144 u145 u146 u147 u148 u149 u150 u151 u152 u153 u154 u155 u156 u157 u158 u159 u160 u161 u162 u163 u164 u165 u166 u167 u168 u169 u170 u171 u172 u173 u174 u175 u176 u177 u178 u179 u180 u181 u182 u183 u184 u185 u186 u187 u188 u189 u190:Value)(a:Act)(w:World)(hr:R u0 u1 u2 u3 u4 u5 u6 u7 u8 u9 u10 u11 u12 u13 u14 u15 u16 u17 u18 u19 u20 u21 u22 u23 u24 u25 u26 u27 u28 u29 u30 u31 u32 u33 u34 u35 u36 u37 u38 u39 u40 u41 u42 u43 u44 u45 u46 u47 u48 u49 u50 u51 u52 u53 u54 u55 u56 u57 u58 u59 u60 u61 u62 u63 u64 u65 u66 u67 u68 u69 u70 u71 u72 u73 u74 u75 u76 u77 u78 u79 u80 u81 u82 u83 u84 u85 u86 u87 u88 u89 u90 u91 u92 u93 u94 u95 u96 u97 u98 u99 u100 u101 u102 u103 u104 u105 u106 u107 u108 u109 u110 u111 u112 u113 u114 u115 u116 u117 u118 u119 u120 u121 u122 u123 u124 u125 u126 u127 u128 u129 u130 u131 u132 u133 u134 u135 u136 u137 u138 u139 u140 u141 u142 u143 u144 u145 u146 u147 u148 u149 u150 u151 u152 u153 u154 u155 u156 u157 u158 u159 u160 u161 u162 u163 u164 u165 u166 u167 u168 u169 u170 u171 u172 u173 u174 u175 u176 u177 u178 u179 u180 u181 u182 u183 u184 u185 u186 u187 u188 u189 u190 a w): J a w:=h a w ⟨u0,u1,u2,u3,u4,u5,u6,u7,u8,u9,u10,u11,u12,u13,u14,u15,u16,u17,u18,u19,u20,u21,u22,u23,u24,u25,u26,u27,u28,u29,u30,u31,u32,u33,u34,u35,u36,u37,u38,u39,u40,u41,u42,u43,u44,u45,u46,u47,u48,u49,u50,u51,u52,u53,u54,u55,u56,u57,u58,u59,u60,u61,u62,u63,u64,u65,u66,u67,u68,u69,u70,u71,u72,u73,u74,u75,u76,u77,u78,u79,u80,u81,u82,u83,u84,u85,u86,u87,u88,u89,u90,u91,u92,u93,u94,u95,u96,u97,u98,u99,u100,u101,u102,u103,u104,u105,u106,u107,u108,u109,u110,u111,u112,u113,u114,u115,u116,u117,u118,u119,u120,u121,u122,u123,u124,u125,u126,u127,u128,u129,u130,u131,u132,u133,u134,u135,u136,u137,u138,u139,u140,u141,u142,u143,u144,u145,u146,u147,u148,u149,u150,u151,u152,u153,u154,u155,u156,u157,u158,u159,u160,u161,u162,u163,u164,u165,u166,u167,u168,u169,u170,u171,u172,u173,u174,u175,u176,u177,u178,u179,u180,u181,u182,u183,u184,u185,u186,u187,u188,u189,u190,hr⟩
theorem made_meas{i k m n:Nat}(h:i+9≤n∧k<m∧i=9*k): 9*m - ((9*(k+1):Nat):Int).toNat<9*m - ((i:Nat):Int).toNat:=by obtain⟨_,h1,rfl⟩:=h;omega
theorem made_wrap{i k m n:Nat}(h:i+9≤n∧k<m∧i=9*k)(hm:m≤8): wrap64 ((i:Int)+9)=((9*(k+1):Nat):Int):=by rw [wrap_bd (by omega) (by omega)];omega
theorem field_E(e i:Int)(w:World)(P:Program)(hP:P=prog)(a:Act)(x:Operand)(hx:a.eval x=.agg #[e,i])(d:Option Tmp)(ty:TypeId)(pos:String)(af:Array Edge)(g:Option (Tmp×Bool)):
  (execOp a.eval ⟨d,.field 104 x 0,ty,pos,af,g⟩).run P w=.ok (.value e) w:=by
 subst hP;simp only [execOp,hx];kernel_rfl
theorem intOf_i(k:IntKind)(x:Int): intOf (Value.int k x)=x:=rfl
theorem made_meas2{i k m n:Nat}(e:wrap64 ((i:Int)+9)=((9*(k+1):Nat):Int))(h:i+9≤n∧k<m∧i=9*k): 9*m - (intOf (Value.int IntKind.i64 (wrap64 ((i:Int)+9)))).toNat<9*m - (intOf (Value.int IntKind.i64 (i:Int))).toNat:=by rw [intOf_i,intOf_i,e];exact made_meas h
structure NewD(w wr X9:World)(b4 b5 b11 k:Nat)(d nn:DocM): Prop where
 tidy:nn.Tidy
 dat:nn.At X9
 h11:X9.heap[b11]?=some (.cells ⟨nn.row⟩ 29 (0,0))
 mdd:nn.Ok→MdD nn (k+1)
 a4:nn.Av b4
 a5:nn.Av b5
theorem made_tail{w w0 wr X9:World}{b4 b5 b7 b11 g k base kn kc c24 at_:Nat}{nb:Int}{d:DocM}{xg ll:LayerM}{A24 kA:Option Addr}(HD:MdD d k)(hk:k≤8)(hg:d.layers[g]?=some xg)(hx:xg.kind=2)(hid:ll.id=d.next)(hl:ll.Tidy d.sn)
  (hnb:0≤nb∧nb≤1) (HM:MlW w0 wr b7 ll) (HP:MdW w wr b4 b5 d) (hw4:b4<w0.heap.size) (hw5:b5<w0.heap.size) (hb:wr.heap.size≤base) (hkn:kn=xg.kids.length+1) (hkx:xg.kidn=xg.kids.length)
  (hAT:(d.grow A24 c24 (d.next+1+nb) g (xg.withKids kA kn kc (xg.kids.take at_ ++ [d.next] ++ xg.kids.drop at_)) ll).At X9)
  (h11:X9.heap[b11]?=some (.cells #[.slice d.sA d.sn d.sc,(1:Int),.int .i64 (d.next+1+nb),.slice A24 (d.ln+1) c24] 29 (0,0)))
  (hA:∀a,A24=some a→wr.heap.size≤a.block) (hkA:∀a,kA=some a→base≤a.block):∃nn:DocM,NewD w wr X9 b4 b5 b11 k d nn:=by
 have h1:=HD.next;have h2:=HD.ln;have hwr4:=(Array.getElem?_eq_some_iff.1 HP.h4).1;have hwr5:=(Array.getElem?_eq_some_iff.1 HP.h5).1;have hav:∀b,b<wr.heap.size→b<w0.heap.size→d.Av b→(d.grow A24 c24 (d.next+1+nb) g (xg.withKids kA kn kc (xg.kids.take at_ ++ [d.next] ++ xg.kids.drop at_)) ll).Av b:=fun b hb hb0 hd=>
  grow_av hd hg (fun a ha e=>by have:=hA a ha;omega) (fun a ha e=>by have:=hkA a ha;omega) ⟨.of HM.fr.fi hb0,.of HM.fr.fk hb0,.of HM.fr.fc hb0,.of HM.fr.fp hb0⟩
 refine⟨_,grow_tidy HD.tidy hg hx hid hl (by omega) (by omega) (by omega),hAT,?_,fun hok=>?_,hav b4 hwr4 hw4 HP.a4,hav b5 hwr5 hw5 HP.a5⟩
 ·rw [h11];show some (Obj.cells #[.slice d.sA d.sn d.sc,(1:Int),.int .i64 (d.next+1+nb),.slice A24 (d.ln+1) c24] 29 (0,0))=some (Obj.cells #[.slice d.sA d.sn d.sc,d.root,.int .i64 (d.next+1+nb),.slice A24 (d.ln+1) c24] 29 (0,0));rw [HD.root]
 have h5:=HD.kb xg (List.mem_of_getElem? hg);exact grow_mdd HD (by omega) hg hx hid hl hnb.1 hnb.2 (by omega) HM.kz hok
theorem doc_thin{d:DocM}{w:World}(h:d.At w)(ht:d.Tidy)(hok:d.Ok): ∀l∈d.layers,l.Thin:=fun l hl=>by obtain⟨i,hi⟩:=List.mem_iff_getElem?.1 hl;exact thin_of (ht.lay l hl) (hok.good i l hi) (h.layers.2 i l hi).1
theorem reach_in{ls:List LayerM}{y z:Int}(hh:Reach ls y z): ∃k:Nat,(ls.map (·.id))[k]?=some y:=by
 induction hh with
 | one h=>exact steps_some h
 | tail _ _ ih=>exact ih
theorem ck_none{d:DocM}{w:World}(h:d.At w)(ht:d.Tidy)(hok:d.Ok): CkIn d none:=by
 refine⟨ht.spc,ht.sn,ht.ln,ht.next,ht.inc,ht.pos,ht.root,fun i l hl _=>⟨ht.lay l (List.mem_of_getElem? hl),hok.good i l hl,doc_thin h ht hok l (List.mem_of_getElem? hl)⟩,?_,fun _=>hok.kids,fun _=>hok.clone,?_,fun _=>hok.depth⟩
 ·intro i hi;cases hi
 intro _ x hx;obtain⟨k,hk⟩:=reach_in hx;exact hok.free k x hk hx
end Go.Proofs.YtbpklgllihhgpaaGreat
