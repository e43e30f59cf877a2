import Derived.Recover
import Derived.Laws.EntriesVeiled
import Derived.Test.YtaahejdimjbhhaaGreatDoorK14
set_option maxRecDepth 100000
set_option maxHeartbeats 0
set_option linter.all false
namespace Go.Proofs.YtaahejdimjbhhaaGreatDoor
open Tryz Go.RowKit Go.Den
open Option renaming some->bT,none->bX
open Go renaming World->ca,Value->cc,run_underlying->cd,zero_of_info->ce,MapEntry->cf,run_loadVar_row->cg,Calls->ch,run_loadAt_mid->ci
open Go.Value renaming pointer->cj,bool->ck,slice->cm,int->cn,string->co
open Go.Obj renaming cells->cp
open Bool renaming false->cq,true->cr
open Go.Proofs.Tryz renaming prog->cs,underlying3->ct,underlying51->cv
open Go.RowKit renaming intOf->cw
section
open Go.ChangeMaps (setBlock)
def sO(k:Int): cc:=k
theorem mG(k:Int): MapKept.IsKey (.int .i64) (sO k):=rfl
structure lq(w:ca)(b:Nat)(D:Int->Option cc): Prop where
 ex:∃es cl,w.heap[b]?=bT (.map es cl)/\MapKept.Stamped es cl/\(∀e∈es.toList,∃k,e.key=sO k/\D k=bT e.val)/\∀k v,D k=bT v->∃e∈es.toList,e.key=sO k/\e.val=v
theorem lq.heap{w w':ca}{b:Nat}{D:Int->Option cc}(h:lq w b D)(e:w'.heap[b]?=w.heap[b]?): lq w' b D:=by obtain⟨es,cl,a,f⟩:=h.ex;exact⟨es,cl,e.t a,f⟩
theorem lq.lt{w:ca}{b:Nat}{D:Int->Option cc}(h:lq w b D): b<w.heap.size:=by obtain⟨es,cl,e,f⟩:=h.ex;exact (ae.1 e).1
theorem lq.u{w w':ca}{b:Nat}{D:Int->Option cc}(h:lq w b D){a:List Nat}(T:bH a w w')(g:b∉a): lq w' b D:=h.heap (T.old b h.lt g)
theorem zD{a b:Int}(h:sO a=sO b): a=b:=by injection h
section
variable {es:Array cf} {cl:Nat} {D:Int->Option cc}
theorem zt(a:∀e∈es.toList,∃k,e.key=sO k/\D k=bT e.val){k:Int}(d:D k=bX): Instr.findNow (.int .i64) (sO k) es.toList 0=bT bX:=by
 rcases MapKept.findNow_spec (mG k) es.toList 0 (λx h=>by obtain⟨q,e,_⟩:=a x h;rw [e];exact mG q)with ⟨f,_⟩|⟨j,e,_,f,g⟩
 .exact f
 obtain⟨q,l,c⟩:=a e (aH f);rw [l]at g;have b:q=k:=zD g;rw [<-b,c]at d;cases d
theorem Au(a:∀e∈es.toList,∃k,e.key=sO k/\D k=bT e.val)(f:∀k v,D k=bT v->∃e∈es.toList,e.key=sO k/\e.val=v){k:Int}{v:cc}(b:D k=bT v):
  ∃j e,Instr.findNow (.int .i64) (sO k) es.toList 0=bT (bT (j,v))/\es[j]?=bT e/\e.key=sO k/\e.val=v:=by
 rcases MapKept.findNow_spec (mG k) es.toList 0 (λx n=>by obtain⟨q,e,_⟩:=a x n;rw [e];exact mG q)with ⟨_,g⟩|⟨j,e,g,l,c⟩
 .obtain⟨e,i,d,_⟩:=f k v b;exact absurd d (g e i)
 obtain⟨q,d,h⟩:=a e (aH l);have m:q=k:=zD (d.symm.t c);subst m;rw [b]at h;injection h with h;rw [Nat.zero_add]at g;exact⟨j,e,by rw [h];exact g,by rw [<-Array.getElem?_toList];exact l,d,h.symm⟩
end
variable {P:Program} {mt kt et:TypeId}
theorem lq.look{w:ca}{b:Nat}{D:Int->Option cc}(h:lq w b D)(c:P.underlying mt=bT (.map kt et))(E:P.underlying kt=bT (.int .i64)){z:cc}(J:(zeroValue et).run P w=.ok z w)(k:Int):
  (Instr.lookup mt (.map (bT b)) k cq).run P w=.ok ((D k).getD z) w:=by
 obtain⟨es,cl,a,i,g,l⟩:=h.ex;show (Instr.lookup mt (.map (bT b)) (sO k) cq).run P w=_;cases d:D k with
 |none=>simp [Instr.lookup,cd c,MapKept.run_getObj_map a,MapKept.run_checkKey E (mG k),MapKept.run_findKey E (zt g d),Result.andThen,J]
 |some v=>
  obtain⟨j,e,f,_⟩:=Au g l d;simp [Instr.lookup,cd c,MapKept.run_getObj_map a,MapKept.run_checkKey E (mG k),MapKept.run_findKey E f,Result.andThen]
theorem lq.lookOk{w:ca}{b:Nat}{D:Int->Option cc}(h:lq w b D)(c:P.underlying mt=bT (.map kt et))(E:P.underlying kt=bT (.int .i64)){z:cc}(J:(zeroValue et).run P w=.ok z w)(k:Int):
  (Instr.lookup mt (.map (bT b)) k cr).run P w=.ok (.tuple #[(D k).getD z,ck (D k).isSome]) w:=by
 obtain⟨es,cl,a,i,g,l⟩:=h.ex;show (Instr.lookup mt (.map (bT b)) (sO k) cr).run P w=_;cases d:D k with
 |none=>simp [Instr.lookup,cd c,MapKept.run_getObj_map a,MapKept.run_checkKey E (mG k),MapKept.run_findKey E (zt g d),Result.andThen,J]
 |some v=>
  obtain⟨j,e,f,_⟩:=Au g l d;simp [Instr.lookup,cd c,MapKept.run_getObj_map a,MapKept.run_checkKey E (mG k),MapKept.run_findKey E f,Result.andThen]
def o6(D:Int->Option cc)(k:Int)(v:cc): Int->Option cc:=λq=>if q=k then bT v else D q
theorem lY(w:ca)(b:Nat)(o:Obj): bH [b] w (setBlock w b o):=(bH.refl [b] w).setBlock _ (.inl lz)
theorem qO{w:ca}{b:Nat}{o o':Obj}(h:w.heap[b]?=bT o): (setBlock w b o').heap[b]?=bT o':=(MapKept.heap_set h).1
theorem Wq(k:Int)(n:Nat): Instr.sameBits n (sO k) (sO k)=cr:=MapKept.sameBits_self (mG k) n
theorem Qd{w:ca}{b:Nat}{D:Int->Option cc}{es:Array cf}{cl:Nat}(i:w.heap[b]?=bT (.map es cl))(j:MapKept.Stamped es cl)(g:∀e∈es.toList,∃k,e.key=sO k/\D k=bT e.val)
  (m:∀k v,D k=bT v->∃e∈es.toList,e.key=sO k/\e.val=v) {k:Int} (f:D k=bX) (v:cc) :
  lq (setBlock w b (.map (es.push { key:=sO k,val:=v,born:=cl }) (cl+1))) b (o6 D k v):=by
 refine⟨_,_,qO i,MapKept.stamped_push j (λx d e=>?_),λe c=>?_,λq u a=>?_⟩
 .obtain⟨q,l,z⟩:=g x d;rw [l]at e;rw [zD e,f]at z;cases z
 .rw [Array.toList_push,aV,aN]at c;rcases c with c|rfl
  .obtain⟨q,l,z⟩:=g e c;refine⟨q,l,?_⟩;unfold o6;rw [aF,z];rintro rfl;rw [f]at z;cases z
  exact⟨k,rfl,by unfold o6;rw [aG rfl]⟩
 rw [Array.toList_push];unfold o6 at a;by_cases e:q=k
 .subst e;rw [aG rfl]at a;injection a with a;exact⟨_,List.mem_append_right _ (aN.2 rfl),rfl,a⟩
 rw [aF e]at a;obtain⟨x,d,h⟩:=m q u a;exact⟨x,List.mem_append_left _ d,h⟩
theorem UA{w:ca}{b:Nat}{D:Int->Option cc}{es:Array cf}{cl:Nat}(A:w.heap[b]?=bT (.map es cl))(B:MapKept.Stamped es cl)(C:∀e∈es.toList,∃k,e.key=sO k/\D k=bT e.val)
  (E:∀k v,D k=bT v->∃e∈es.toList,e.key=sO k/\e.val=v) {k:Int} {j:Nat} {e:cf} (G:es[j]?=bT e) (h:e.key=sO k) (v:cc) (f:cf->cf) (F:f e={ e with key:=sO k,val:=v }) :
  lq (setBlock w b (.map (es.modify j f) cl)) b (o6 D k v):=by
 have a0:es.toList[j]?=bT e:=by rw [Array.getElem?_toList];exact G
 obtain⟨a5,p⟩:=ah.1 a0;have i:(es.modify j f).toList=es.toList.take j ++ { e with key:=sO k,val:=v } :: es.toList.drop (j+1):=by rw [Array.toList_modify,List.modify_eq_take_cons_drop a5,p,F]
 have n:es.toList=es.toList.take j++e::es.toList.drop (j+1):=by rw [<-p,List.getElem_cons_drop,List.take_append_drop]
 obtain⟨s1,s2,s3⟩:=(MapKept.stamped_iff es cl).1 B;have H:∀x,x∈es.toList.take j\/x∈es.toList.drop (j+1)->x∈es.toList/\x.key≠sO k:=by
  intro x d;rw [n,List.pairwise_append,List.pairwise_cons]at s3;rcases d with d|d
  .exact⟨List.mem_of_mem_take d,h▸s3.2.2 x d e lz⟩
  exact⟨List.mem_of_mem_drop d,h▸(s3.2.1.1 x d).symm⟩
 refine⟨_,_,qO A,(MapKept.stamped_iff _ _).2 ⟨λx d=>?_,?_,?_⟩,λx d=>?_,λq u g=>?_⟩
 .rw [i,aV,aS]at d;rcases d with d|rfl|d
  .exact s1 x (List.mem_of_mem_take d)
  .exact s1 e (aH a0)
  exact s1 x (List.mem_of_mem_drop d)
 .rw [i];rw [n]at s2;simpa using s2
 .rw [i];rw [n,List.pairwise_append,List.pairwise_cons]at s3;rw [List.pairwise_append,List.pairwise_cons];refine⟨s3.1,⟨λx d=>?_,s3.2.1.2⟩,λx d y o=>?_⟩
  .exact h▸s3.2.1.1 x d
  rcases aS.1 o with rfl|o
  .exact h▸s3.2.2 x d e lz
  exact s3.2.2 x d y (by simp [o])
 .rw [i,aV,aS]at d;have s:(x∈es.toList.take j\/x∈es.toList.drop (j+1))->∃q,x.key=sO q/\o6 D k v q=bT x.val:=by intro d;obtain⟨a,c⟩:=H x d;obtain⟨q,l,z⟩:=C x a;refine⟨q,l,?_⟩;unfold o6;rw [aF,z];rintro rfl;exact c l
  rcases d with d|rfl|d
  .exact s (.inl d)
  .exact⟨k,rfl,by unfold o6;rw [aG rfl]⟩
  exact s (.inr d)
 rw [i];unfold o6 at g;by_cases m:q=k
 .subst m;rw [aG rfl]at g;injection g with g;exact⟨_,List.mem_append_right _ (List.mem_cons_self ..),rfl,g⟩
 rw [aF m]at g;obtain⟨x,d,l,z⟩:=E q u g;rw [n,aV,aS]at d;rcases d with d|rfl|d
 .exact⟨x,List.mem_append_left _ d,l,z⟩
 .exact absurd (zD (l.symm.t h)) m
 exact⟨x,List.mem_append_right _ (List.mem_cons_of_mem _ d),l,z⟩
theorem lq.upd{w:ca}{b:Nat}{D:Int->Option cc}(h:lq w b D)(i:P.underlying mt=bT (.map kt et))(E:P.underlying kt=bT (.int .i64))(k:Int)(v:cc):
  ∃w',(Instr.mapUpdate mt (.map (bT b)) k v).run P w=.ok () w'/\lq w' b (o6 D k v)/\bH [b] w w':=by
 obtain⟨es,cl,a,f,g,l⟩:=h.ex;cases d:D k with
 |none=>
  refine⟨_,?_,Qd a f g l d v,lY _ _ _⟩;show (Instr.mapUpdate mt (.map (bT b)) (sO k) v).run P w=_;simp [Instr.mapUpdate,cd i,MapKept.run_getObj_map a,MapKept.run_checkKey E (mG k),MapKept.run_findKey E (zt g d),MapKept.run_setObj_map _ a,Result.andThen,setBlock]
 |some u=>
  obtain⟨j,e,m,H,c,N⟩:=Au g l d;refine⟨_,?_,UA a f g l H c v (λe=>{ e with key:=sO k,val:=v }) rfl,lY _ _ _⟩;show (Instr.mapUpdate mt (.map (bT b)) (sO k) v).run P w=_;simp [Instr.mapUpdate,cd i,MapKept.run_getObj_map a,MapKept.run_checkKey E (mG k),MapKept.run_findKey E m,Instr.keyThatStays,H,c,Wq,MapKept.run_setObj_map _ a,Result.andThen,setBlock]
theorem lq.entry{w:ca}{b:Nat}{D:Int->Option cc}(h:lq w b D)(I:P.underlying mt=bT (.map kt et))(E:P.underlying kt=bT (.int .i64)){z:cc}(J:(zeroValue et).run P w=.ok z w){k:Int}(p:D k=bX)(v:cc):
  ∃s u w',(Instr.mapEntry mt (.map (bT b)) k).run P w=.ok (.tuple #[z,s]) u/\bH [b] w u/\(Instr.entryStore mt (.map (bT b)) s v).run P u=.ok () w'/\lq w' b (o6 D k v)/\bH [b] w w':=by
 obtain⟨es,cl,d,f,i,C⟩:=h.ex;obtain⟨u,o⟩:∃u,u=setBlock w b (.map (es.push { key:=sO k,val:=z,born:=cl }) (cl+1)):=⟨_,rfl⟩;have c:=qO (o':=.map (es.push { key:=sO k,val:=z,born:=cl }) (cl+1)) d;rw [<-o]at c;have l:=Qd d f i C p z;rw [<-o]at l;have s1:=((MapKept.stamped_iff es cl).1 f).1;have H:(es.push { key:=sO k,val:=z,born:=cl }).findIdx? (λe=>(e.born:Int)==(cl:Int))=bT es.size:=by rw [Array.findIdx?_eq_some_iff_getElem];refine⟨by simp,by simp,λj M=>?_⟩;rw [Array.getElem_push_lt gn];have:=s1 es[j] lz;simp;omega
 obtain⟨L,K,g,y,A,B⟩:=l.ex;rw [c]at g;injection g with g;injection g with g x;subst g;subst x;have n:bH [b] w u:=o▸lY w b _;have m:=UA c y A B (j:=es.size) (e:={ key:=sO k,val:=z,born:=cl }) (k:=k) lz rfl v (λe=>{ e with val:=v }) rfl;have F:(Instr.mapEntry mt (.map (bT b)) (sO k)).run P w=.ok (.tuple #[z,cl]) u:=by rw [o];simp [Instr.mapEntry,cd I,MapKept.run_getObj_map d,MapKept.run_checkKey E (mG k),MapKept.run_findKey E (zt i p),MapKept.run_setObj_map _ d,Result.andThen,setBlock,J,goInt]
 have G:(Instr.entryStore mt (.map (bT b)) cl v).run P u=.ok () (setBlock u b (.map ((es.push { key:=sO k,val:=z,born:=cl }).modify es.size λe=>{ e with val:=v }) (cl+1))):=by simp [Instr.entryStore,asInt,asIntOf,MapKept.run_getObj_map c,H,MapKept.run_setObj_map _ c,Result.andThen,setBlock]
 have e:o6 (o6 D k z) k v=o6 D k v:=by funext q;unfold o6;by_cases h:q=k<;>simp [h]
 rw [e]at m;exact⟨cl,u,_,F,n,G,m,n.t (lY u b _)⟩
theorem ad4(u:ca): lq (u.alloc (.map #[] 0)) u.heap.size (λ_=>bX):=
 ⟨#[],0,(MapKept.heap_alloc u _).1,MapKept.stamped_empty 0,λe a=>tP,λk v h=>sY⟩
end
def xQ(e id:Int): cc:=.iface 208 (.agg #[e,id])
theorem dX(e id:Int)(w:ca): ch cs 197 #[ck cr,e,id] w λx w'=>x=.returned (.tuple #[])/\w=w':=by
 go_enter func197,ntmps197;go_wp2;go_end0;exact⟨rfl,rfl⟩
theorem Ov(e id:Int)(w:ca): ch cs 197 #[ck cq,e,id] w λx w'=>x=.panicked [{ v:=xQ e id,recovered:=cq }]/\w=w':=by
 go_enter func197,ntmps197;go_wp2_with fail
 exact⟨rfl,rfl,rfl⟩
def BG(a:List Int)(k:Int): Option cc:=(mW a k).map λi=>(i:Int)
structure qI(w:ca)(t mb:Nat)(d:df): Prop where
 ht:w.heap[t]?=bT (cp #[cm d.sA d.sn d.sc,d.root,d.next,cm d.lA d.ln d.lc,.map (bT mb)] 254 (0,0))
 hm:lq w mb (BG d.ids)
theorem qI.u{w w':ca}{t a:Nat}{d:df}(h:qI w t a d){b:List Nat}(T:bH b w w')(e:t∉b)(f:a∉b): qI w' t a d:=
 ⟨(T.old _ (ae.1 h.ht).1 e).t h.ht,h.hm.u T f⟩
theorem KQ(w:ca): (zeroValue 3).run cs w=.ok (0:Int) w:=lB
def iC(ls:List bI)(id:Int): bI:=(dh ls id).getD dF
theorem ql(d:df)(t x:Nat)(id:Int)(w:ca)(z:qI w t x d)(h:d.At w):
  CR 201 #[cj (bT ⟨t,0,bX⟩),id] w (.tuple #[(iC d.agY id).v,ck (dh d.agY id).isSome]):=by
 obtain⟨W,m⟩:=eX (w.alloc (cp ⟨dF.row⟩ 51));have g:bH [] w W:=m▸(tR w).a _;have J:w.heap.size<W.heap.size:=mq
 have A:W.heap[w.heap.size]?=bT (cp ⟨dF.row⟩ 51 (0,0)):=by rw [m];simp only [yV];rw [aG trivial]
 have q:=z.u g lz lz;have b:=q.hm.lookOk (P:=cs) (mt:=252) underlying252 ct (KQ W) id;have s:d.ids=d.agY.map (·.id):=rfl;have G:=cO 3 (cm d.lA d.ln d.lc) q.ht;have M:=cO 4 (.map (bT x)) q.ht;have n:=h.agY;have f:=lh gI;have a6:=lh A;clear z q h A;unfold BG at b;cases a1:dh d.agY id with
 |none=>
  have i:mW d.ids id=bX:=by
   rw [s];unfold dh at a1;cases C:mW (d.agY.map (·.id)) id with
   |none=>rfl
   |some k=>
    rw [C]at a1;have a1:d.agY[k]?=bX:=a1;unfold mW at C;rw [bi]at C;obtain⟨E,_⟩:=C;rw [bn]at a1;simp at E;omega
  rw [i]at b;have e:iC d.agY id=dF:=by unfold iC;rw [a1];rfl
  rw [e];have a8:=dQ (o:=0) (ty:=51) (p:=dF.row) (L':=dF.row) a6.o (ce dS).2 lK (row_one _) lK;have U:=cg (P:=cs) _ w.heap.size 51 51 ⟨dF.row⟩ (0,0) _ (eQ (L':=dF.row) a6.o) cv rfl (ce dS).2;have aa:∀u,(Instr.build 51 #[]).run cs u=.ok (.agg ⟨dF.row⟩) u:=λu=>lB
  obtain⟨ax,bs,L⟩:=lh3 aa a8 U;clear i a1 e a8 U aa s n;have b:(Instr.lookup 252 (.map (bT x)) id cr).run cs W=.ok (.tuple #[(0:Int),ck cq]) W:=b;go_enter func201,ntmps201;go_upto_region 1 with (refine yR 4 (di (t:=51) rfl (f.o _)) ?_)
  rw [<-m];clear m f;go_wp2_with (first
   |(refine yR 19 (iU (vs:=#[]) (v:=.agg ⟨dF.row⟩) rfl rfl (ax.o _)) ?_)
   |(refine sR bs.o ?_))
  refine ag (v:=.tuple #[dF.v,ck cq]) ?_ rfl ⟨rfl,g.setRow _ (.inr gn)⟩;have U:=L.o;simp [results,results201,asAddr,U];rfl
 |some l=>
  obtain⟨k,c,y,_⟩:=iD a1;have i:mW d.ids id=bT k:=by
   rw [s];unfold sQ at c;cases C:mW (d.agY.map (·.id)) id with
   |none=>rw [C]at c;simp at c
   |some j=>
    rw [C]at c;have:j=k:=(by simp at c;omega);rw [this]
  rw [i]at b;have b:(Instr.lookup 252 (.map (bT x)) id cr).run cs W=.ok (.tuple #[(k:Int),ck cr]) W:=b;have e:iC d.agY id=l:=by unfold iC;rw [a1];rfl
  rw [e];have b9:k<d.agY.length:=(ah.1 y).1;have K:k<d.ln:=by rw [n.1];exact b9
  obtain⟨D,F,an,B⟩:=n.cell gn;have V:=ci W D (F+k*31) 51 l.row _ (B W g k l y).2 cv rfl (ce dS).2;have a8:=dQ (o:=0) (ty:=51) (p:=l.row) (L':=l.row) a6.o (ce dS).2 lK (row_one _) lK;have U:=cg (P:=cs) _ w.heap.size 51 51 ⟨l.row⟩ (0,0) _ (eQ (L':=l.row) a6.o) cv rfl (ce dS).2;rw [an]at G;have H:(0:Int)<=(k:Int):=gn
  have I:(k:Int)<(d.ln:Int):=gn
  obtain⟨ar,bs,L⟩:=lh3 V a8 U;clear i a1 e a8 U s n B b9 y c an V;go_enter func201,ntmps201;go_upto_region 1 with (refine yR 4 (di (t:=51) rfl (f.o _)) ?_)
  rw [<-m];clear m f;go_wp2_with (first
   |(refine lR 27 ar.o ?_)
   |(refine sR bs.o ?_))
  refine ag (v:=.tuple #[l.v,ck cr]) ?_ rfl ⟨rfl,g.setRow _ (.inr gn)⟩;have U:=L.o;simp [results,results201,asAddr,U];rfl
theorem O8(w:ca): dF.At w:=⟨jd w,jd w,jd w,⟨rfl,λj k=>absurd k (aU j)⟩,kZ w,kZ w,lG⟩
theorem J8{d:df}{w:ca}(h:d.At w)(id:Int): (iC d.agY id).At w:=by
 unfold iC;cases i:dh d.agY id with
 |none=>exact O8 w
 |some l=>exact nH i h
theorem IE(ls:List bI)(id:Int): eP ls id=fZ (iC ls id):=by
 unfold iC;cases i:dh ls id with
 |some l=>exact rE i
 |none=>
  unfold eP;unfold dh at i;cases C:mW (ls.map (·.id)) id with
  |none=>rfl
  |some k=>rw [C]at i;simp only at i ⊢;rw [i];rfl
def Ug(w':ca)(xs:List Int)(e:Ending): Prop:=∃A n c,e=.returned (cm A n c)/\dn w' A n xs/\n<=50
theorem AQ(d:df)(t v:Nat)(id:Int)(w:ca)(s:qI w t v d)(h:d.At w):
  ch cs 205 #[cj (bT ⟨t,0,bX⟩),id] w λe w'=>Ug w' (eP d.agY id) e/\bH [] w w':=by
 have q:=ql d t v id w s h;have p:=J8 h id;rw [IE];clear s h;generalize iC d.agY id=l,(dh d.agY id).isSome=b at *;obtain⟨n,y,m,bs⟩:=lh4 q p gI (λu=>gX u l);clear q p;by_cases g:l.ag1=4
 .have i:fZ l=[l.of]:=by unfold fZ;rw [aG g]
  rw [i];have F:=lh g;clear i g;go_enter func205,ntmps205;go_upto_region 2 with (first
   |(go_at_call 201;refine mR n.o λk j=>?_)
   |(refine yR 5 (di (t:=51) rfl (m.o _)) ?_)
   |(refine sR (bs.o _) ?_))
  obtain⟨V,c⟩:=eX (k.alloc (cp ⟨l.row⟩ 51));have B:bH [] w V:=by rw [c];exact j.a _
  have f:=YE c
  have x:=cP 1 _ f;have C:=cP 16 _ f;rw [F.o]at x;rw [<-c];clear c f j;generalize k.heap.size=z at *;go_wp2;go_ret;refine⟨⟨_,_,_,rfl,?_,lG⟩,B.a _⟩;exact Gs V l.of
 have i:fZ l=l.ag0:=by unfold fZ;rw [aF g]
 rw [i];have aM:(l.ag1==4)=cq:=nK
 clear i g;go_enter func205,ntmps205;go_upto_region 2 with (first
  |(go_at_call 201;refine mR n.o λk j=>?_)
  |(refine yR 5 (di (t:=51) rfl (m.o _)) ?_)
  |(refine sR (bs.o _) ?_))
 obtain⟨V,c⟩:=eX (k.alloc (cp ⟨l.row⟩ 51));have B:bH [] w V:=by rw [c];exact j.a _
 have f:=YE c
 have x:=cP 1 _ f;have A:=cP 15 _ f;rw [<-c];clear c f j;generalize k.heap.size=z at *;go_wp2;go_ret;exact⟨⟨_,_,_,rfl,(y.o.u B).ag0,y.o.Xk⟩,B⟩
def wC(t:Nat): cc:=.func (.func 205) #[cj (bT ⟨t,0,bX⟩)] #[]
def rq(p7 p6 O p:Nat): cc:=.func (.func 249) #[] #[cj (bT ⟨p7,0,bX⟩),cj (bT ⟨p6,0,bX⟩),cj (bT ⟨O,0,bX⟩),cj (bT ⟨p,0,bX⟩)]
structure AB(w:ca)(d:df)(t mb p7 p6 p9 p10 sb:Nat)(other:Int): Prop where
 da:d.At w
 tr:qI w t mb d
 h7:w.heap[p7]?=bT (cp #[wC t] 203 (0,0))
 h6:w.heap[p6]?=bT (cp #[other] 3 (0,0))
 h9:w.heap[p9]?=bT (cp #[.map (bT sb)] 290 (0,0))
 h10:w.heap[p10]?=bT (cp #[rq p7 p6 p9 p10] 249 (0,0))
 old:t<sb/\mb<sb
 seen:∃D:Int->Option cc,lq w sb D/\∀k v,D k=bT v->v=ck cr
 dat:gG [sb] w λu=>d.At u
theorem AB.step{w w':ca}{d:df}{t n p7 p6 O o a:Nat}{s:Int}(h:AB w d t n p7 p6 O o a s)(T:bH [a] w w')(z:∃D:Int->Option cc,lq w' a D/\∀k v,D k=bT v->v=ck cr): AB w' d t n p7 p6 O o a s:=by
 have j:∃i g,w.heap[a]?=bT (.map i g):=by obtain⟨D,y,_⟩:=h.seen;obtain⟨i,g,x,_⟩:=y.ex;exact⟨i,g,x⟩
 obtain⟨i,g,j⟩:=j;have e:∀{p:Nat} {c:Array cc} {ty:TypeId} {f:Nat×Nat},w.heap[p]?=bT (cp c ty f)->w'.heap[p]?=bT (cp c ty f):=λ{p c ty f} l=>by
  refine (T.old p (ae.1 l).1 ?_).t l;rintro b;have b:p=a:=rK
  subst b;rw [l]at j;cases j
 have a8:gG [a] w' λu=>d.At u:=λu ar A=>h.dat u (aK T.size ar) λq b m=>(A q (aj b T.size) m).t (T.old q b m);exact⟨a8.now,⟨e h.tr.ht,h.tr.hm.u T (by have:=h.old.2;simp;omega)⟩,e h.h7,e h.h6,e h.h9,e h.h10,h.old,z,a8⟩
theorem AB.u{w w':ca}{d:df}{t a p7 p6 O p b:Nat}{s:Int}(h:AB w d t a p7 p6 O p b s)(T:bH [] w w'): AB w' d t a p7 p6 O p b s:=by obtain⟨D,y,e⟩:=h.seen;exact h.step (T.mono lz) ⟨D,y.u T lz,e⟩
theorem JX{ls:List bI}{x p y:Int}(h:p∈eP ls x)(k:iY ls p y): iY ls x y:=by
 induction k with
 |one h2=>exact .tail (.one h) h2
 |tail _ h2 ih=>exact .tail ih h2
theorem dn.mapped{w w':ca}{A:Option Addr}{n:Nat}{c:List Int}(h:dn w A n c){b:Nat}{D:Int->Option cc}(y:lq w b D)(T:bH [b] w w'): dn w' A n c:=by
 obtain⟨l,i,a,_⟩:=y.ex;refine⟨h.1,λj k=>?_⟩;obtain⟨g,o,e,f⟩:=h.2 j k;refine⟨g,o,e,?_⟩;have d:g≠b:=by rintro rfl;simp [World.cell?,a]at f
 rw [<-f];simp only [World.cell?,T.old g (ai f) mH]
theorem VW(w:ca): (zeroValue 4).run cs w=.ok (ck cq) w:=lB
theorem BI(d:df)(t i p7 p6 O f a:Nat)(s:Int): ∀(n:Nat) (x:Int),UL d.agY n x->¬iY d.agY x s->∀(w:ca),AB w d t i p7 p6 O f a s->
  ch cs 249 #[x,cj (bT ⟨p7,0,bX⟩),cj (bT ⟨p6,0,bX⟩),cj (bT ⟨O,0,bX⟩),cj (bT ⟨f,0,bX⟩)] w λe w'=>e=.returned (ck cq)/\AB w' d t i p7 p6 O f a s/\bH [a] w w'
 |0,_,h,_,_,_=>by cases h
 |n+1,x,.mk hlow,hre,w,P=>by
  have ih:=λp (C:p∈eP d.agY x) u (J:AB u d t i p7 p6 O f a s)=>BI d t i p7 p6 O f a s n p (hlow p C) (λh=>hre (JX C h)) u J;have X:∀p∈eP d.agY x,p≠s:=λp C e=>hre (.one (e▸C));have R:=AQ d t i x w P.tr P.da;clear hlow hre;generalize eP d.agY x=E at *;have y7:=cO 0 (wC t) P.h7;obtain⟨a4,a9,HP,HW⟩:=lh4 ih X R P;clear ih X R P;unfold wC at y7;go_enter func249,ntmps249;go_wp2_with (go_at_call 205;refine HP.o.mono ?_;rintro e w1 ⟨⟨A,m,c,rfl,Z,hm⟩,Y⟩;have HI:=lh Z;have L:=lh Y;clear Z Y)
  clear y7;go_loopw [13] (λs13 wr=>∃k:Nat,k<=m/\s13=k/\AB wr d t i p7 p6 O f a s/\dn wr A m E/\bH [a] w wr) (λs13 _=>m-(cw s13).toNat);case atStart=>exact⟨0,gn,rfl,HW.o.u L.o,HI.o,L.o.mono lz⟩
  obtain⟨k,hk,rfl,Q,Z,T⟩:=hrel;have K:=lh Z;have aM:=lh T;by_cases a5:k<m
  .obtain⟨g,o,rfl,S⟩:=Z.cell gn;have ax:=S wr (bH.refl _ _) k a5;have V:=Z.1;have H:E.getD k 0∈E:=(by rw [List.getD,aB gn];exact List.getElem_mem _);have W:=a9.o _ H;have M:=lh (λu J=>a4.o _ H u J);generalize E.getD k 0=y at *;have b0:(0:Int)<=(k:Int):=gn;have b1:(k:Int)<(m:Int):=gn;have b2:(k:Int)<=50:=gn;have a8:(y==s)=cq:=(by simpa using W);have z6:=cO 0 s Q.h6;have z9:=cO 0 (.map (bT a)) Q.h9;obtain⟨Ds,j,B⟩:=Q.seen;have U:=j.look (P:=cs) (mt:=290) underlying290 ct (VW wr) y;have z:=lh Q;have a7:=lh V;clear S H W Q T Z V;cases l:Ds y with
   |some v=>
    have hv:=B y v l;subst hv;rw [l]at U;have U:(Instr.lookup 290 (.map (bT a)) y cq).run cs wr=.ok (ck cr) wr:=U;clear l B j;go_wp2;go_roundw;case rel=>exact⟨k+1,gn,by go_num,z.o,K.o,aM.o⟩
    simp [cw];omega
   |none=>
    rw [l]at U;have U:(Instr.lookup 290 (.map (bT a)) y cq).run cs wr=.ok (ck cq) wr:=U;obtain⟨w2,aa,G,D⟩:=j.upd (P:=cs) (mt:=290) underlying290 ct y (ck cr);have F:=z.o.step D ⟨_,G,λq v b=>by
     unfold o6 at b;by_cases e:q=y
     .rw [aG e]at b;injection b with b;exact b.symm
     rw [aF e]at b;exact B q v b⟩
    have a6:=cO 0 (rq p7 p6 O f) F.h10;unfold rq at a6;obtain⟨b3,a1,a0,ao⟩:=lh4 (M.o w2 F) (K.o.mapped j D) G D;clear l B j G D F M;(go_wp2_with (go_at_call 249;refine b3.o.mono ?_;rintro e w4 ⟨rfl,N,I⟩;obtain⟨ay,a3,a2⟩:=lh3 N I (a1.o.mapped a0.o I);clear N I));go_roundw;case rel=>exact⟨k+1,gn,by go_num,ay.o,a2.o,(aM.o.t ao.o).t a3.o⟩
    simp [cw];omega
  obtain rfl:k=m:=gn
  have z:=lh Q;clear Q Z T;go_wp2;go_ret;exact⟨rfl,z.o,aM.o⟩
theorem uS{w:ca}{b:Nat}(h:w.heap[b]?=bT (.map #[] 0)): lq w b (λ_=>bX):=
 ⟨#[],0,h,MapKept.stamped_empty 0,λe a=>tP,λk v h=>sY⟩
theorem bH.fresh{w w' u:ca}{a:List Nat}(h:bH [] w w')(k:bH a w' u)(g:∀b∈a,w.heap.size<=b): bH [] w u:=
 ⟨aK h.size k.size,λj c G=>(k.old j (aj c h.size) (λe=>by have:=g j e;omega)).t (h.old j c G),k.os.t h.os,k.tape.t h.tape,k.output.t h.output⟩
theorem EH(d:df)(t g:Nat)(s:Int)(x:Int)(D:oP d.agY)(q:∀x,¬iY d.agY x x)(A:¬iY d.agY x s)(w:ca)(n:qI w t g d)(h:d.At w):
  CR 204 #[cj (bT ⟨t,0,bX⟩),x,s,wC t] w (ck cq):=by
 have z:=zk D q x;obtain⟨c,y,G,H⟩:=lh4 n h z A;unfold wC;have bv:=λu:ca=>run_makeMap (P:=cs) 290 u;clear n h z A q D;go_enter func204,ntmps204;go_upto_region 4 with fail
 obtain⟨W,m⟩:=eX (((((w.alloc (cp #[s] 3)).alloc (cp #[wC t] 203)).alloc (.map #[] 0)).alloc (cp #[.map (bT (w.heap.size+1+1))] 290)).alloc (cp #[rq (w.heap.size+1) w.heap.size (w.heap.size+1+1+1) (w.heap.size+1+1+1+1)] 249));have f:bH [] w W:=by rw [m];exact (((((tR w).a _).a _).a _).a _).a _
 have V:w.heap.size<W.heap.size:=by rw [m];simp;omega
 have B:=jM m;have C:=jL m;have E:=agA m;have F:=agD m;have i:=agu m;have O:=(ae.1 c.o.ht).1;have N:g<w.heap.size:=by obtain⟨U,T,J,_⟩:=c.o.hm.ex;exact (ae.1 J).1
 have j:AB W d t g (w.heap.size+1) w.heap.size (w.heap.size+1+1+1) (w.heap.size+1+1+1+1) (w.heap.size+1+1) s:=
  ⟨y.o.u f,c.o.u f lz lz,C,B,F,i,⟨gn,gn⟩,⟨_,uS E,λk v h=>sY⟩,AC f (λb K=>by simp at K;omega) λu M=>y.o.keepD M⟩
 have l:=BI d t g _ _ _ _ _ s 2501 x G.o H.o W j;unfold wC rq at m;rw [<-m];have a2:=cO 0 (rq (w.heap.size+1) w.heap.size (w.heap.size+1+1+1) (w.heap.size+1+1+1+1)) i;unfold rq at a2;have I:=lh l;clear B C E F i j l m O N c y;have ar:w.heap.size<=w.heap.size+1+1:=gn
 generalize X:w.heap.size=p at *;generalize a3:p+1+1+1+1=Q at *;generalize bx:p+1+1+1=S at *;generalize Y:p+1=R at *;go_wp2_with (go_at_call 249;refine I.o.mono ?_;rintro e Z ⟨rfl,_,L⟩)
 go_ret;exact⟨rfl,f.fresh L lO⟩
theorem Qn(ls:List bI)(n:Nat)(id:Int): dP ls (n+1) id=if (iC ls id).ag1=2\/(iC ls id).ag1=4 then (fZ (iC ls id)).foldl (λm p=>max m (dP ls n p)) 0+1 else 0:=by
 unfold iC;rw [dP];cases dh ls id with
 |none=>rfl
 |some l=>rfl
theorem AO(d:df)(t s:Nat): ∀(n:Nat) (id:Int),UL d.agY n id->n<=3000->∀(w:ca),qI w t s d->d.At w->CR 206 #[cj (bT ⟨t,0,bX⟩),id] w (cn .i64 (dP d.agY n id))
 |0,_,h,_,_,_,_=>by cases h
 |n+1,id,.mk hlow,hn3,w,hT,h=>by
  have E:=λp (hp:p∈eP d.agY id) u y (z:d.At u)=>AO d t s n p (hlow p hp) gn u y z;have K:=ql d t s id w hT h;have U:=λu y z=>AQ d t s id u y z;have L:=qN d.agY n;have N:=Qn d.agY n id;rw [IE]at U E;generalize dP d.agY (n+1) id=D,iC d.agY id=l,(dh d.agY id).isSome=b at *;obtain⟨a4,HL,G,aE,i,H,F,X⟩:=lh8 E K U L N hT h gI;have bs:=lh (λu=>gX u l);clear E K U L N hT h hlow;go_enter func206,ntmps206;go_upto_region 2 with (first
   |(go_at_call 201;refine mR HL.o λS O=>?_)
   |(refine yR 5 (di (t:=51) rfl (X.o _)) ?_)
   |(refine sR (bs.o _) ?_))
  obtain⟨V,k⟩:=eX (S.alloc (cp ⟨l.row⟩ 51));have B:bH [] w V:=by rw [k];exact O.a _
  have I:=YE k
  have W:=cP 1 _ I;rw [<-k];clear k I O;generalize S.heap.size=b9 at *;have a6:=lh (G.o V (H.o.u B lz lz) (F.o.u B));clear G;by_cases g:l.ag1=2\/l.ag1=4
  .have R:Hid (D=(fZ l).foldl (λm p=>max m (dP d.agY n p)) 0+1):=lh (by rw [i.o,aG g]);clear i;rcases g with g|g;all_goals
    rw [g]at W;clear g;(go_upto_region 6 with (go_at_call 205;refine a6.o.mono ?_;rintro e w2 ⟨⟨A,m,c,rfl,Z,hm⟩,P⟩));have v:=B.t P;have b5:=Z.1;have Y:=lh Z;generalize fZ l=f at *;clear Z W P;go_loopw [7,28] (λs7 s28 wr=>∃j:Nat,j<=m/\s28=j/\s7=cn .i64 ((f.take j).foldl (λm p=>max m (dP d.agY n p)) 0)/\bH [] w2 wr) (λ_ s28 _=>m-(cw s28).toNat);case atStart=>exact⟨0,gn,rfl,rfl,tR _⟩
    case round=>
     obtain⟨j,hj,rfl,rfl,T⟩:=hrel
     have af:=oh (dP d.agY n) n (f.take j) 0 gn gn λp _=>aE.o p
     by_cases a0:j<m
     .obtain⟨g2,o2,rfl,J⟩:=Y.o.cell gn;have a1:=J _ T j a0;have q:j<f.length:=gn;have C:f.getD j 0=f[j]:=(by simp [List.getD,q]);have Q:f.getD j 0∈f:=(by rw [C];exact List.getElem_mem q);have aD:(f.take (j+1)).foldl (λm p=>max m (dP d.agY n p)) 0=max ((f.take j).foldl (λm p=>max m (dP d.agY n p)) 0) (dP d.agY n (f.getD j 0)):=(by rw [aT q,List.foldl_append,C];rfl);have ba:=aE.o (f.getD j 0);have a5:=lh aD;have HX:=lh (a4.o (f.getD j 0) Q wr (H.o.u (v.t T) lz lz) (F.o.u (v.t T)));clear aD J C Q q;generalize f.getD j 0=x at *;generalize dP d.agY n x=dx at *;generalize (f.take j).foldl (λm p=>max m (dP d.agY n p)) 0=M at *;have c0:(0:Int)<=(j:Int):=gn;have c1:(j:Int)<(m:Int):=gn;have c2:(j:Int)<=50:=gn;have ao:=lh T;clear T;(go_wp2_with (go_at_call 206;refine mR HX.o λw3 aw=>?_));all_goals exact⟨⟨_,_,_,⟨j+1,gn,rfl,by congr 1;rw [a5.o];omega,ao.o.t aw⟩,rfl,rfl,by go_num⟩,by simp [cw];omega⟩
     .obtain rfl:j=m:=gn;have aD:f.take j=f:=aY gn;rw [aD]at af;go_wp2;go_ret;exact⟨by rw [R.o,aD];rfl,v.t T⟩
  have R:Hid (D=0):=lh (by rw [i.o,aF g]);clear i;have av:¬l.ag1=2:=λe=>g (.inl e);have ax:¬l.ag1=4:=λe=>g (.inr e);have x1:(l.ag1 != 2)=cr:=by simp [av]
  have x2:(l.ag1 != 4)=cr:=by simp [ax]
  go_wp2;go_ret;exact⟨by rw [R.o];rfl,B⟩
def Eg(c:Int->Nat): Int->Option cc:=λk=>if c k=0 then bX else bT (cn .i64 (c k:Nat))
theorem Qm(c:Int->Nat)(k:Int): (Eg c k).getD (0:Int)=cn .i64 (c k:Nat):=by
 unfold Eg;by_cases h:c k=0
 .rw [aG h,h];rfl
 rw [aF h];rfl
theorem PH(c:Int->Nat)(k:Int): o6 (Eg c) k (cn .i64 (c k+1:Nat))=Eg (λq=>c q+if k=q then 1 else 0):=by
 funext q;unfold o6 Eg;by_cases h:q=k
 .subst h;simp
 have f:¬k=q:=λe=>h e.symm;simp [h,f]
structure mi(w:ca)(d:df)(t mb cb:Nat)(c:Int->Nat): Prop where
 tr:qI w t mb d
 old:t<cb/\mb<cb
 cnt:lq w cb (Eg c)
 dat:gG [cb] w λu=>d.At u
theorem mi.step{w w':ca}{d:df}{t f a:Nat}{c b:Int->Nat}(h:mi w d t f a c)(T:bH [a] w w')(i:lq w' a (Eg b)): mi w' d t f a b:=
 ⟨h.tr.u T (by have:=h.old.1;simp;omega) (by have:=h.old.2;simp;omega),h.old,i,λu ar o=>h.dat u (aK T.size ar) λq e g=>(o q (aj e T.size) g).t (T.old q e g)⟩
theorem mi.u{w w':ca}{d:df}{t b a:Nat}{c:Int->Nat}(h:mi w d t b a c)(T:bH [] w w'): mi w' d t b a c:=h.step (T.mono lz) (h.cnt.u T lz)
theorem mi.look{w:ca}{d:df}{t b a:Nat}{c:Int->Nat}(h:mi w d t b a c)(k:Int): (Instr.lookup 252 (.map (bT a)) k cq).run cs w=.ok (cn .i64 (c k:Nat)) w:=by rw [h.cnt.look (P:=cs) (mt:=252) underlying252 ct (KQ w) k,Qm]
theorem mi.put{w:ca}{d:df}{t b a:Nat}{c:Int->Nat}(h:mi w d t b a c)(k:Int):
  ∃w',(Instr.mapUpdate 252 (.map (bT a)) k (cn .i64 ((c k:Nat)+1))).run cs w=.ok () w'/\mi w' d t b a (λq=>c q+if k=q then 1 else 0)/\bH [a] w w':=by
 obtain⟨w',e,f,g⟩:=h.cnt.upd (P:=cs) (mt:=252) underlying252 ct k (cn .i64 (c k+1:Nat));rw [PH]at f;exact⟨w',e,h.step g f,g⟩
theorem df.At.load{d:df}{w:ca}(h:d.At w){i:Nat}(m:i<d.ln): ∃g o l,d.lA=bT ⟨g,o,bX⟩/\d.agY[i]?=bT l/\l.At w/\(Instr.loadAt 51 (cj (bT ⟨g,o+i*31,bX⟩))).run cs w=.ok (.agg ⟨l.row⟩) w:=by
 obtain⟨g,o,e,B⟩:=h.agY.cell gn;have b9:i<d.agY.length:=by have:=h.agY.1;omega
 obtain⟨j,C⟩:=B w (tR w) i d.agY[i] nv;exact⟨g,o,d.agY[i],e,nv,j,ci w g (o+i*31) 51 d.agY[i].row _ C cv rfl (ce dS).2⟩
theorem VM{d:df}{w:ca}(h:d.At w)(x:Int)(i:Nat): jJ d.agY x i<=50*i:=by
 induction i with
 |zero=>unfold jJ;simp
 |succ i ih=>
  by_cases m:i<d.agY.length
  .have a:d.agY[i]?=bT d.agY[i]:=(by simp [m]);rw [wW a];have j:=(h.agY.2 i _ a).1;have g:=j.Xk;have b:=j.ag0.1;have:d.agY[i].ag0.count x<=d.agY[i].ag0.length:=List.count_le_length;omega
  have:jJ d.agY x (i+1)=jJ d.agY x i:=by unfold jJ;rw [aY gn,aY gn]
  omega
theorem JG(d:df)(t y:Nat)(hk:∀(k:Nat) (l:bI),d.agY[k]?=bT l->pM d.agY d.root l=cr)(ap:∀(k:Nat) (l:bI),d.agY[k]?=bT l->tK d.agY l)(w:ca)(hT:qI w t y d)(h:d.At w):
  CR 203 #[cj (bT ⟨t,0,bX⟩)] w (.tuple #[]):=by
 have bv:=λu:ca=>run_makeMap (P:=cs) 252 u;have bR:=h.small;have av:=h.agY.1;obtain⟨HK,b5,Z,HA,bt,L⟩:=lh6 hk ap hT h av gI;have J:=cO 3 (cm d.lA d.ln d.lc) hT.ht;clear hk ap hT h av;go_enter func203,ntmps203;go_upto_region 1 with fail
 obtain⟨W,O⟩:=eX (w.alloc (.map #[] 0));have T0:bH [] w W:=by rw [O];exact (tR w).a _
 have x8:=YE O
 have b2:=(ae.1 Z.o.ht).1;have aR:y<w.heap.size:=by obtain⟨es,cl,h1,_⟩:=Z.o.hm.ex;exact (ae.1 h1).1
 have L0:mi W d t y w.heap.size (λq=>jJ d.agY q 0):=⟨Z.o.u T0 lz lz,⟨b2,aR⟩,by
  have:=uS x8;have e:Eg (λq=>jJ d.agY q 0)=λ_=>bX:=by funext q;unfold Eg jJ;simp
  rw [e];exact this,AC T0 (λb hb=>td) λu hu=>HA.o.keepD hu⟩
 have J:=cO 3 (cm d.lA d.ln d.lc) L0.tr.ht;have ba:=lh L0;rw [<-O];clear O x8 L0 b2 aR bv;have bp:=aQ w.heap.size;generalize am:w.heap.size=A at *;have b3:=lh am;clear bp am;go_upto_region 2 with fail
 go_loopw [25] (λs25 wr=>∃i:Nat,i<=d.ln/\s25=i/\mi wr d t y A (λq=>jJ d.agY q i)/\bH [A] W wr) (λs25 _=>d.ln-(cw s25).toNat);case atStart=>exact⟨0,gn,rfl,ba.o,bH.refl _ _⟩
 obtain⟨i,hi,rfl,f,T⟩:=hrel;by_cases a5:i<d.ln
 .obtain⟨g,o,l,G,b9,D,bf⟩:=f.dat.now.load a5;have aE:=λx=>wW (id:=x) b9;obtain⟨bs,ar,bh,a3,p,Y,aa,bB⟩:=lh8 (λu=>gX u l) bf aE f T b9 D G;have br:=D.Xk;have b0:(0:Int)<=(i:Int):=by omega
  have b1:(i:Int)<(d.ln:Int):=gn
  clear bf aE f T b9 D;rw [G];clear G;go_upto_region 4 with (first
   |(refine lR 28 ar.o ?_)
   |(refine yR 4 (di (t:=51) rfl (L.o _)) ?_)
   |(refine sR (bs.o _) ?_))
  obtain⟨V,n⟩:=eX (wr.alloc (cp ⟨l.row⟩ 51));have B:bH [] wr V:=rg
  have s:=YE n
  have a8:=cP 15 _ s;rw [<-n];clear n s;generalize wr.heap.size=b4 at *;have z:=lh (a3.o.u B);have a4:=lh (p.o.t (B.mono lz));clear B;go_upto_region 5 with fail
  clear a8;go_loopw [32] (λs32 wi=>∃j:Nat,j<=l.Xh/\s32=j/\mi wi d t y A (λq=>jJ d.agY q i+(l.ag0.take j).count q)/\bH [A] W wi) (λs32 _=>l.Xh-(cw s32).toNat);case atStart=>exact⟨0,gn,rfl,by simpa using z.o,a4.o⟩
  obtain⟨j,hj,rfl,f,T⟩:=hrel;by_cases a2:j<l.Xh
  .obtain⟨_,_,l',_,F,D,_⟩:=f.dat.now.load a5;obtain rfl:l=l':=(by rw [Y.o]at F;injection F);obtain⟨g2,o2,an,H⟩:=D.ag0.cell gn;have bq:=H wr (bH.refl _ _) j a2;have aq:=λq=>BC (c:=l.ag0) (id:=q) (k:=j) (by have:=D.ag0.1;omega);have bl:=VM f.dat.now (l.ag0.getD j 0) i;have bm:(l.ag0.take j).count (l.ag0.getD j 0)<=50:=aK List.count_le_length (by have:=D.ag0.1;simp;omega);obtain⟨X,bS,N,ad⟩:=f.put (l.ag0.getD j 0);have C:=f.look (l.ag0.getD j 0);have N:mi X d t y A (λq=>jJ d.agY q i+(l.ag0.take (j+1)).count q):=(by have e:(λq=>jJ d.agY q i+(l.ag0.take (j+1)).count q)=(λq=>(jJ d.agY q i+(l.ag0.take j).count q)+if l.ag0.getD j 0=q then 1 else 0):=(by funext q;rw [aq q];omega);rw [e];exact N);have a1:=lh N;have ao:=lh (T.t ad);have bL:i<=50:=gn;have bo:jJ d.agY (l.ag0.getD j 0) i<=2500:=gn;clear H aq F D f T N ad bl;rw [an];clear an;generalize l.ag0.getD j 0=x at *;have bM:jJ d.agY x i+(l.ag0.take j).count x<=2550:=gn;generalize jJ d.agY x i+(l.ag0.take j).count x=c at *;clear bm bo;have c0:(0:Int)<=(j:Int):=gn;have c1:(j:Int)<(l.Xh:Int):=gn;have c2:(j:Int)<=50:=gn;go_wp2;go_roundw;case rel=>exact⟨j+1,gn,by go_num,a1.o,ao.o⟩
   simp [cw];omega
  obtain rfl:j=l.Xh:=gn
  have bb:=lh f;have bj:=lh T;clear f T;have bz:l.ag0.take l.Xh=l.ag0:=aY (by have:=aa.o.ag0.1;omega);go_wp2;go_roundw;case rel=>exact⟨i+1,gn,by go_num,by
   have:=bb.o;rw [bz]at this;have e:(λq=>jJ d.agY q (i+1))=λq=>jJ d.agY q i+l.ag0.count q:=(by funext q;exact bh.o q);rw [e];exact this,bj.o⟩
  simp [cw];omega
 obtain rfl:i=d.ln:=gn
 have J:=cO 3 (cm d.lA d.ln d.lc) f.tr.ht;have a3:=lh f;have p:=lh T;clear f T;go_upto_region 11 with fail
 go_loopw [48] (λs48 wr=>∃i:Nat,i<=d.ln/\s48=i/\mi wr d t y A (λq=>jJ d.agY q d.ln)/\bH [A] W wr) (λs48 _=>d.ln-(cw s48).toNat);case atStart=>exact⟨0,gn,rfl,a3.o,p.o⟩
 obtain⟨i,hi,rfl,f,T⟩:=hrel;by_cases a5:i<d.ln
 .obtain⟨g,o,l,G,b9,D,bf⟩:=f.dat.now.load a5;obtain⟨bs,ar,a3,p,Y,aa⟩:=lh6 (λu=>gX u l) bf f T b9 D;have br:=D.Xk;have Q:=HK.o i l b9;have a6:l.ag0.all (λk=>(mW (d.agY.map (·.id)) k).isSome)=cr/\(if l.id=d.root then jJ d.agY l.id d.agY.length==0 else jJ d.agY l.id d.agY.length==1)=cr:=by unfold pM at Q;rw [az]at Q;exact Q
  have b6:=lh a6.1;have b7:=lh a6.2;have b0:(0:Int)<=(i:Int):=gn
  have b1:(i:Int)<(d.ln:Int):=gn
  clear bf f T b9 D Q a6;rw [G];clear J;go_upto_region 13 with (first
   |(refine lR 51 ar.o ?_)
   |(refine yR 8 (di (t:=51) rfl (L.o _)) ?_)
   |(refine sR (bs.o _) ?_))
  obtain⟨V,n⟩:=eX (wr.alloc (cp ⟨l.row⟩ 51));have B:bH [] wr V:=rg
  have s:=YE n
  have a8:=cP 15 _ s;rw [<-n];clear n;generalize wr.heap.size=b8 at *;obtain⟨z,a4,K⟩:=lh3 (a3.o.u B) (p.o.t (B.mono lz)) s;clear B s;go_upto_region 14 with fail
  clear a8;go_loopw [55] (λs55 wr=>∃j:Nat,j<=l.Xh/\s55=j/\bH [] V wr) (λs55 _=>l.Xh-(cw s55).toNat);case atStart=>exact⟨0,gn,rfl,bH.refl _ _⟩
  obtain⟨j,hj,rfl,T⟩:=hrel;by_cases a2:j<l.Xh
  .have f:=z.o.u T;obtain⟨_,_,l',_,F,D,_⟩:=f.dat.now.load a5;obtain rfl:l=l':=(by rw [Y.o]at F;injection F);obtain⟨g2,o2,an,H⟩:=D.ag0.cell gn;have bq:=H wr (bH.refl _ _) j a2;have ay:l.ag0.getD j 0∈l.ag0:=(by rw [List.getD,aB (by have:=D.ag0.1;omega)];exact List.getElem_mem _);have aD:=aZ.1 b6.o _ ay;have C:=f.tr.hm.lookOk (P:=cs) (mt:=252) underlying252 ct (KQ wr) (l.ag0.getD j 0);obtain⟨kk,bd⟩:=Option.isSome_iff_exists.1 aD;have af:BG d.ids (l.ag0.getD j 0)=bT (cn .i64 (kk:Int)):=(by unfold BG;rw [show d.ids=d.agY.map (·.id) from rfl,bd];rfl);rw [af]at C;have C:(Instr.lookup 252 (.map (bT y)) (cn .i64 (l.ag0.getD j 0)) cr).run cs wr=.ok (.tuple #[(kk:Int),ck cr]) wr:=C;have z4:=cO 4 (.map (bT y)) f.tr.ht;have y0:=cP 0 _ (T.ox K.o);have ao:=lh T;clear H F D f T ay aD bd af;rw [an];clear an;generalize l.ag0.getD j 0=x at *;have c0:(0:Int)<=(j:Int):=gn;have c1:(j:Int)<(l.Xh:Int):=gn;have c2:(j:Int)<=50:=gn;(go_wp2_with (go_at_call 197;refine (dX _ _ _).mono ?_;rintro e X ⟨rfl,rfl⟩));go_roundw;case rel=>exact⟨j+1,gn,by go_num,ao.o⟩
   simp [cw];omega
  obtain rfl:j=l.Xh:=gn
  have a9:=T.ox K.o;have y0:=cP 0 _ a9;have f:=z.o.u T;have C:=λq:Nat=>(f.u ((tR wr).drawn q)).look l.id;have z1:=cO 1 d.root f.tr.ht;have a1:=lh f;have ao:=lh (a4.o.t (T.mono lz));have E:=b7.o;rw [<-bt.o]at E;clear f T a9;by_cases S:l.id=d.root
  .rw [aG S]at E;have a0:=eq_of_beq E;simp only [a0]at C;rw [S]at C y0;clear E;(go_upto_region 20 with fail);go_quiet (fail)
   (go_wp2_with (go_at_call 197;refine (dX _ _ _).mono ?_;rintro e X ⟨rfl,rfl⟩));go_roundw;case rel=>exact⟨i+1,gn,by go_num,a1.o.u ((tR wr).drawn _),ao.o.drawn _⟩
   simp [cw];omega
  rw [aF S]at E;have a0:=eq_of_beq E;simp only [a0]at C;have bw:(l.id==d.root)=cq:=by simpa using S
  clear E;go_upto_region 20 with fail
  go_quiet (fail)
  go_wp2_with (go_at_call 197;refine (dX _ _ _).mono ?_;rintro e X ⟨rfl,rfl⟩)
  go_roundw;case rel=>exact⟨i+1,gn,by go_num,a1.o.u ((tR wr).drawn _),ao.o.drawn _⟩
  simp [cw];omega
 obtain rfl:i=d.ln:=gn
 have J:=cO 3 (cm d.lA d.ln d.lc) f.tr.ht;have a3:=lh f;have p:=lh T;clear f T;go_upto_region 25 with fail
 go_loopw [97] (λs97 wr=>∃i:Nat,i<=d.ln/\s97=i/\mi wr d t y A (λq=>jJ d.agY q d.ln)/\bH [A] W wr) (λs97 _=>d.ln-(cw s97).toNat);case atStart=>exact⟨0,gn,rfl,a3.o,p.o⟩
 obtain⟨i,hi,rfl,f,T⟩:=hrel;by_cases a5:i<d.ln
 .obtain⟨g,o,l,G,b9,D,bf⟩:=f.dat.now.load a5;obtain⟨bs,ar,a3,p,bx⟩:=lh5 (λu=>gX u l) bf f T (b5.o i l b9);have b0:(0:Int)<=(i:Int):=by omega
  have b1:(i:Int)<(d.ln:Int):=gn
  clear bf f T b9 D;rw [G];clear J;go_upto_region 27 with (first
   |(refine lR 100 ar.o ?_)
   |(refine yR 15 (di (t:=51) rfl (L.o _)) ?_)
   |(refine sR (bs.o _) ?_))
  obtain⟨V,n⟩:=eX (wr.alloc (cp ⟨l.row⟩ 51));have B:bH [] wr V:=rg
  have s:=YE n
  have y1:=cP 1 _ s;have bA:=cP 16 _ s;obtain⟨z,a4,K⟩:=lh3 (a3.o.u B) (p.o.t (B.mono lz)) s;rw [<-n];clear n B s bs;generalize wr.heap.size=bE at *;by_cases aM:l.ag1=4
  .obtain⟨m,a7,ax⟩:=bx.o aM;have I:=ql d t y l.of V z.o.tr z.o.dat.now;have aw:iC d.agY l.of=m:=(by unfold iC;rw [a7];rfl);rw [aw,a7]at I;have I:CR 201 #[cj (bT ⟨t,0,bX⟩),l.of] V (.tuple #[m.v,ck cr]):=I;have ab:=lh I;have bs:=lh (λu=>gX u m);have be:Hid ((m.ag1 != 3)=cr):=lh (by simpa using ax);rw [aM]at y1;clear I aw a7 ax aM;go_upto_region 29 with (first
    |(go_at_call 201;refine mR ab.o λw2 aL=>?_)
    |(refine yR 16 (di (t:=51) rfl (L.o _)) ?_)
    |(refine sR (bs.o _) ?_))
   obtain⟨U,R⟩:=eX (w2.alloc (cp ⟨m.row⟩ 51));have M:bH [] V U:=(by rw [R];exact aL.a _);have ac:U.heap[w2.heap.size]?=bT (cp ⟨m.row⟩ 51 (0,0)):=(by rw [R];exact heap_alloc_new _ _);have p1:=cP 1 _ ac;have y0:=cP 0 _ (M.ox K.o);have bc:=lh (z.o.u M);have bk:=lh (a4.o.t (M.mono lz));have bP:=be.o;rw [<-R];clear R M ac bs ab aL y1 bA;generalize w2.heap.size=bF at *;(go_wp2_with (go_at_call 197;refine mS (dX _ _ _) ?_));go_roundw;case rel=>exact⟨i+1,gn,by go_num,bc.o,bk.o⟩
   simp [cw];omega
  have bw:(l.ag1==4)=cq:=by simpa using aM
  go_wp2;go_roundw;case rel=>exact⟨i+1,gn,by go_num,z.o,a4.o⟩
  simp [cw];omega
 obtain rfl:i=d.ln:=gn
 have p:=lh T;clear f T;go_wp2;go_end0;exact⟨rfl,T0.fresh p.o (λb hb=>by have:=b3.o;simp at hb;omega)⟩
structure bI.Bad(l:bI): Prop where
 ag1:1<=l.ag1/\l.ag1<=5
 name:l.name∈kW
 opac:l.Xl=256
theorem kR(l:bI)(t:Nat)(w:ca)(i:l.Bad):
  ch cs 202 #[cj (bT ⟨t,0,bX⟩),l.v] w λe w'=>e=.panicked [{ v:=xQ 1 l.id,recovered:=cq }]/\bH [] w w':=by
 obtain⟨W,m⟩:=eX (w.alloc (cp ⟨l.row⟩ 51));have j:bH [] w W:=rn
 have J:=YE m
 have g:=λu=>kX l.name i.name u;have b:∀u,bH [] W u->u.heap[w.heap.size]?=bT (cp ⟨l.row⟩ 51 (0,0)):=λu T=>T.ox J;have d:∀u,bH [] W u->u.cell? ⟨w,0,bX⟩=bT (cn .i64 l.id)/\u.cell? ⟨w,1,bX⟩=bT (cn .i64 l.ag1)/\u.cell? ⟨w,2,bX⟩=bT (co l.name)/\u.cell? ⟨w,4,bX⟩=bT (cn .i64 256):=λu T=>⟨bJ (b u T) rfl,bJ (b u T) rfl,bJ (b u T) rfl,by rw [<-i.opac];exact bJ (b u T) rfl⟩;obtain⟨C,a1⟩:=i.ag1;have n:=d W (bH.refl _ _);obtain⟨O,h,Y,U⟩:=n;have x:decide (1<=l.ag1)=cr:=aC C;have y:decide (l.ag1<=5)=cr:=aC a1;have q:=lh g;have c:=lh d;clear g i b d J;unfold bI.v;go_enter func202,ntmps202;go_upto_region 1 with fail
 rw [<-m];clear m;go_upto_region 2 with (go_at_call 197;refine (dX _ _ _).mono ?_;rintro e s ⟨rfl,rfl⟩)
 have X:Hid (∀u,bH [] W u->bH [] W u/\u.cell? ⟨w,0,bX⟩=bT (cn .i64 l.id)/\u.cell? ⟨w,2,bX⟩=bT (co l.name)):=lh λu T=>⟨T,(c.o u T).1,(c.o u T).2.2.1⟩;have k:=(tR W).drawn 1;go_region_held3 (λw'=>bH [] W w'/\w'.cell? ⟨w,0,bX⟩=bT (cn .i64 l.id)/\w'.cell? ⟨w,2,bX⟩=bT (co l.name)) (first|assumption|exact X.o _ k|exact X.o _ ((And.left (by assumption:bH [] W _/\_)).t aR)) (first
  |(go_at_call 248;refine mR (q.o _) λp aR=>?_)
  |(go_at_call 197;refine (dX _ _ _).mono ?_;rintro e s ⟨rfl,rfl⟩))
 rename_i f;have Z:=f.1;clear f O h Y U X q;obtain⟨O,h,Y,U⟩:=c.o p Z;clear c;go_wp2_with (go_at_call 197;refine mS (Ov _ _ _) ?_)
 exact⟨rfl,rfl,j.t Z⟩
