import Derived.OrdersHeld
import Derived.RegionTactic
import Derived.StillTail
import Derived.Deep.RegionHeld3
import Derived.Test.YtaahejdimjbhhaaGreatDoorK04
set_option maxRecDepth 100000
set_option maxHeartbeats 0
set_option linter.all false
namespace Go.Proofs.YtaahejdimjbhhaaGreatDoor
open Tryz Go.RowKit Go.Den
open Bool renaming true->bc,false->bd
open Go renaming World->be,yielded->bf,Oper->bh,Value->bj,execOp->bk,Calls->bl,Program->bm,Addr->bo,Operand->bp,TypeId->bq
open Go.Value renaming bool->br,int->bs,slice->bt,agg->bv,pointer->bw
open Option renaming none->bx,some->bz
open Go.Obj renaming cells->bA
open Go.Ending renaming returned->bB
open Go.Proofs.Tryz renaming zeroCells181->bE,prog->bF
section
section
variable {P:bm} {ops:Array bh} {Q:Exit->Act->be->Prop} {md:Region.Mode} {S:be->Prop} {z:Nat}
def Ae(md:Region.Mode)(ops:Array bh)(done:Array Bool): Bool:=
 (List.range ops.size).all λj=>!done.getD j bd||((ops[j]?).map (·.after.all λe=>!Region.binds md e||done.getD e.on bd)).getD bd
def oW(md:Region.Mode)(ops:Array bh): Nat->Nat->Nat->Bool
 |0,_,_=>bd
 |n+1,j,i=>Region.waitsFor md ops j i||(List.range ops.size).any λk=>Region.waitsFor md ops j k&&oW md ops n k i
theorem OH{j i:Nat}(h:Region.waitsFor md ops j i=bc): j<ops.size:=by obtain⟨a,k,_⟩:=Region.waitsFor_spec h;exact (ae.1 k).1
def BU(md:Region.Mode)(ops:Array bh)(done:Array Bool): Prop:=∀j i,done.getD j bd=bc->Region.waitsFor md ops j i=bc->done.getD i bd=bc
theorem rQ{done:Array Bool}{j i:Nat}(b:j∈Region.ready md ops done)(h:Region.waitsFor md ops j i=bc): done.getD i bd=bc:=by obtain⟨_,f,d,c⟩:=mem_ready.1 b;obtain⟨l,a,e,k,g,rfl⟩:=Region.waitsFor_spec h;rw [d]at a;cases a;exact c e k g
theorem uN{done:Array Bool}(a:BU md ops done): ∀(n j i:Nat),oW md ops n j i=bc->(∀k,Region.waitsFor md ops j k=bc->done.getD k bd=bc)->done.getD i bd=bc
 |0,_,_,h,_=>by cases h
 |n+1,j,i,h,hd=>by
  unfold oW at h;rw [Bool.or_eq_true]at h;rcases h with h|h
  .exact hd i h
  obtain⟨k,_,d⟩:=List.any_eq_true.1 h;rw [az]at d;exact uN a n k i d.2 λq b=>a k q (hd k d.1) b
theorem Eo{done:Array Bool}(h:Ae md ops done=bc): BU md ops done:=by intro j i E c;have a:=aZ.1 h j (aX.2 (OH c));obtain⟨b,d,e,k,g,rfl⟩:=Region.waitsFor_spec c;rw [E,d]at a;simp only [Bool.not_true,Bool.false_or,Option.map_some,Option.getD_some,Array.all_eq_true_iff_forall_mem]at a;have f:=a e k;rw [g]at f;simpa using f
theorem BU.set{done:Array Bool}(n:BU md ops done){j:Nat}(k:j∈Region.ready md ops done): BU md ops (done.setIfInBounds j bc):=by
 intro p i a c;by_cases b:j=p
 .subst b;exact getD_set_true (rQ k c)
 rw [getD_set_ne bd b]at a;exact getD_set_true (n p i a c)
def cu(P:bm)(md:Region.Mode)(ops:Array bh)(Q:Exit->Act->be->Prop)(S:be->Prop)(z:Nat): Nat->Array Bool->Act->be->Prop
 |0,done,a,w=>Region.ready md ops done=[]/\Q .normal a w
 |n+1,done,a,w=>(Region.ready md ops done=[]->Q .normal a w)/\
  ∀i∈Region.ready md ops done,wpOp P ops Q i (λb w'=>(i≠z->S w')/\cu P md ops Q S z n (done.setIfInBounds i bc) b w') a w
theorem cu.any:∀{n:Nat} {done:Array Bool} {a:Act} {w:be},cu P md ops Q S z n done a w->wpAny P md ops Q n done a w
 |0,_,_,_,h=>h
 |_+1,_,_,_,h=>⟨h.1,λi m=>wpOp_mono (λ_ _ b=>cu.any b.2) (h.2 i m)⟩
theorem ui{done:Array Bool}{i:Nat}(h:done.getD i bc=bd): done.getD i bd=bd:=by
 rcases Nat.lt_or_ge i done.size with b|b
 .simp [b]at h ⊢;exact h
 simp [Array.getElem?_eq_none b]at h
theorem cu.first{i N:Nat}{l:bh}{v:bj}(s:ops[i]?=bz l)(G:∀(j:Nat) (o:bh) m b,ops[j]?=bz o->o.op≠.select m b)(R:∀c a w,Q (.panic c) (a.put l.dst v) w->Q (.panic c) a w)(hz:oW md ops N z i=bc):
  ∀(n:Nat) (done:Array Bool) (a:Act) (w:be),(∀j f,ops[j]?=bz f->j≠i->done.getD j bc=bd->(∀e∈f.after,Region.binds md e=bc->e.on≠i)->l.apart ops f=bc)->
   BU md ops done->i∈Region.ready md ops done->YieldsIf P ops S l v a->S w->cu P md ops Q S z n (done.setIfInBounds i bc) (a.put l.dst v) w->cu P md ops Q S z (n+1) done a w:=by
 intro n;induction n with
 |zero=>
  intro done a w _ _ C q p H;refine⟨λh=>absurd C (by simp [h]),λj g=>?_⟩;by_cases d:j=i
  .subst d;exact q.wpOp s p ⟨λ_=>p,H⟩
  have:=ready_mono g d;rw [H.1]at this;cases this
 |succ n ih=>
  intro done a w A F C q p H;refine⟨λh=>absurd C (by simp [h]),λj g=>?_⟩;by_cases d:j=i
  .subst d;exact q.wpOp s p ⟨λ_=>p,H⟩
  obtain⟨E,f,u,T⟩:=mem_ready.1 g;have B:=ui (mem_ready.1 C).1;have X:j≠z:=by rintro rfl;have:=uN F N j i hz λk t=>rQ g t;rw [B]at this;cases this
  have a0:∀e∈f.after,Region.binds md e=bc->e.on≠i:=by intro e V U W;have x:=T e V U;rw [W,B]at x;cases x
  have K:=wpOp_putIf u (A j f u d E a0) (λm b=>G i l m b s) (λm b=>G j f m b u) R q (H.2 j (ready_mono g d));refine wpOp_mono (λJ w' L=>?_) K;obtain⟨O,y,M⟩:=L;refine⟨y,ih _ J w' (λk ok t Y I Z=>A k ok t Y ?_ Z) (F.set g) (ready_mono C (Ne.symm d)) O (y X) ?_⟩
  .by_cases D:j=k
   .subst D;exact E
   rw [getD_set_ne bc D]at I;exact I
  rw [Array.setIfInBounds_comm _ _ d];exact M
theorem cu.take{i N:Nat}{l:bh}{d:Option Tmp}{v:bj}{n:Nat}{done:Array Bool}{a:Act}{w:be}(m:ops[i]?=bz l)(E:l.dst=d)
  (b:(Region.noSelect ops&&Region.free md ops done i&&(Region.ready md ops done).contains i&&Ae md ops done&&oW md ops N z i)=bc)
  (R:∀c a w,Q (.panic c) (a.put d v) w->Q (.panic c) a w) (o:Region.wanted l (bf ops a.tmps)=bc) (hy:∀w,S w->(bk a.eval l).run P w=.ok (.value v) w) (hS:S w)
  (h:cu P md ops Q S z n (done.setIfInBounds i bc) (a.put d v) w):cu P md ops Q S z (n+1) done a w:=by
 subst E;simp only [az]at b;obtain⟨⟨⟨⟨e,f⟩,g⟩,j⟩,k⟩:=b;exact cu.first m (Region.noSelect_spec e) R k n done a w (Region.free_spec m f) (Eo j) (by simpa using g) (.inl ⟨o,hy⟩) hS h
theorem cu.one{i:Nat}{l:bh}{n:Nat}{done:Array Bool}{a:Act}{w:be}(o:ops[i]?=bz l)(C:(Region.ready md ops done==[i])=bc)(m:Region.wanted l (bf ops a.tmps)=bc)
  (h:∀K:Act->be->Prop,(∀b w',(i≠z->S w')->cu P md ops Q S z n (done.setIfInBounds i bc) b w'->K b w')->Oper.wp P l a w K Q):cu P md ops Q S z (n+1) done a w:=by
 have c:Region.ready md ops done=[i]:=by simpa using C
 refine⟨λe=>(by rw [c]at e;cases e),λj k=>?_⟩;rw [c,aN]at k;subst k;refine wpOp_step o λK f=>?_;rw [aG m];exact h K λb w' g d=>f b w' ⟨g,d⟩
theorem cu.done{n:Nat}{done:Array Bool}{a:Act}{w:be}(C:(Region.ready md ops done==[])=bc)(h:Q .normal a w): cu P md ops Q S z n done a w:=by
 have c:Region.ready md ops done=[]:=by simpa using C
 cases n with
 |zero=>exact⟨c,h⟩
 |succ n=>exact⟨λ_=>h,by rw [c];simp⟩
theorem cu.start(S:be->Prop)(z:Nat){id:Nat}{a:Act}{w:be}(e:P.follows .mixedOrders=bc)
  (h:cu P .any ops Q S z ops.size (Array.replicate ops.size bd) a w.drew):(Code.region id ops bc).wp P Q a w:=
 wp_region_any e h.any
theorem tk(i:Nat)(v:bj){d:Tmp}{l:bh}{n:Nat}{done:Array Bool}{a:Act}{w:be}(h:cu P md ops Q S z n (done.setIfInBounds i bc) (a.put (bz d) v) w)(m:ops[i]?=bz l:=by rfl)(E:l.dst=bz d:=by rfl)
  (e:(Region.noSelect ops&&Region.free md ops done i&&(Region.ready md ops done).contains i&&Ae md ops done&&oW md ops 99 z i)=bc:=by kernel_rfl)
  (R:∀c a w,Q (.panic c) (a.put (bz d) v) w->Q (.panic c) a w:=by exact λ_ _ _ h=>h) (f:Region.wanted l (bf ops a.tmps)=bc:=by rfl) (g:∀w,S w->(bk a.eval l).run P w=.ok (.value v) w:=by intro w' j;go_simp) (b:S w:=by assumption):cu P md ops Q S z (n+1) done a w:=
 cu.take m E e R f g b h
theorem sN{X:be}(z:Nat){id:Nat}{a:Act}{w:be}(e:bH [] X w)(h:∀V,bH [] X V->cu P .any ops Q (λw'=>bH [] X w') z ops.size (Array.replicate ops.size bd) a V)(b:P.follows .mixedOrders=bc:=by kernel_rfl): (Code.region id ops bc).wp P Q a w:=cu.start _ z b (h _ (e.drawn 1))
theorem eH(i:Nat){l:bh}{n:Nat}{done:Array Bool}{a:Act}{w:be}
 (h:∀K:Act->be->Prop,(∀b w',(i≠z->S w')->cu P md ops Q S z n (done.setIfInBounds i bc) b w'->K b w')->Oper.wp P l a w K Q) (m:ops[i]?=bz l:=by rfl) (C:(Region.ready md ops done==[i])=bc:=by kernel_rfl) (d:Region.wanted l (bf ops a.tmps)=bc:=by rfl):cu P md ops Q S z (n+1) done a w:=cu.one m C d h
theorem iZ{l:bh}{n:Nat}{done:Array Bool}{a:Act}{w:be}(h:∀K:Act->be->Prop,(∀b w',Q .normal b w'->K b w')->Oper.wp P l a w K Q)(m:ops[z]?=bz l:=by rfl)(C:(Region.ready md ops done==[z])=bc:=by kernel_rfl)(d:Region.wanted l (bf ops a.tmps)=bc:=by rfl)(k:(Region.ready md ops (done.setIfInBounds z bc)==[])=bc:=by kernel_rfl): cu P md ops Q S z (n+1) done a w:=cu.one m C d λK c=>h K λb w' f=>c b w' (λe=>absurd rfl e) (cu.done k f)
theorem Wy{n:Nat}{done:Array Bool}{a:Act}{w:be}(h:Q .normal a w)(C:(Region.ready md ops done==[])=bc:=by kernel_rfl): cu P md ops Q S z n done a w:=cu.done C h
theorem PR(i:Nat){X:be}{f:FuncId}{A:Array bj}{v:bj}{d:Tmp}{l:bh}{n:Nat}{done:Array Bool}{a:Act}{w:be}{G:be->Prop}(C:bl P f A w λe w'=>e=bB v/\bH [] w w')(k:∀w',bH [] X w'->bH [] w w'->G w')(o:ops[i]?=bz l:=by rfl)(E:l.dst=bz d:=by rfl)(p:(Region.ready md ops done==[i])=bc:=by kernel_rfl)(m:Region.wanted l (bf ops a.tmps)=bc:=by rfl)
  (c:∀K,l.upon P a K Q (.ok (.enter f A) w)->Oper.wp P l a w K Q:=by intro K h;go_simp;exact h)(g:∀w',cu P md ops Q (λw'=>bH [] X w') z n (done.setIfInBounds i bc) (a.put (bz d) v) w'=G w':=by intro w';(try go_frame);exact rfl)(b:bH [] X w:=by assumption): cu P md ops Q (λw'=>bH [] X w') z (n+1) done a w:=cu.one o p m λK j=>c K (by
   show bl P f A w _
   refine C.mono ?_;rintro e w' ⟨rfl,t⟩;exact j _ _ (λ_=>b.trans t) (E▸(g w').mpr (k w' (b.trans t) t)))
theorem Yo{l:bh}{n:Nat}{done:Array Bool}{a b:Act}{w w':be}{G:Prop}(h:G)(m:ops[z]?=bz l:=by rfl)(C:(Region.ready md ops done==[z])=bc:=by kernel_rfl)(f:Region.wanted l (bf ops a.tmps)=bc:=by rfl)(k:(Region.ready md ops (done.setIfInBounds z bc)==[])=bc:=by kernel_rfl)(c:∀K:Act->be->Prop,K b w'->Oper.wp P l a w K Q:=by intro K h;go_simp;exact h)(d:Q .normal b w'=G:=by (try go_frame);exact rfl): cu P md ops Q S z (n+1) done a w:=iZ (λK e=>c K (e _ _ (d.mpr h))) m C f k
theorem ty(i:Nat){l:bh}{d:Tmp}{v:bj}{u:be}{n:Nat}{done:Array Bool}{a:Act}{w:be}(m:ops[i]?=bz l)(c:(bk a.eval l).run P w=.ok (.value v) u)(h:∀K:Act->be->Prop,(∀b w',(i≠z->S w')->cu P md ops Q S z n (done.setIfInBounds i bc) b w'->K b w')->K (a.put (bz d) v) u)(E:l.dst=bz d:=by rfl)(C:(Region.ready md ops done==[i])=bc:=by kernel_rfl)(f:Region.wanted l (bf ops a.tmps)=bc:=by rfl): cu P md ops Q S z (n+1) done a w:=cu.one m C f λK e=>by
 unfold Oper.wp;rw [c];show K (a.put l.dst v) u
 rw [E];exact h K e
theorem fK(i:Nat){v:bj}{d:Tmp}{l:bh}{n:Nat}{done:Array Bool}{a:Act}{w:be}{G:Prop}(h:G)(m:ops[i]?=bz l:=by rfl)(E:l.dst=bz d:=by rfl)
  (f:(Region.noSelect ops&&Region.free md ops done i&&(Region.ready md ops done).contains i&&Ae md ops done&&oW md ops 99 z i)=bc:=by kernel_rfl)
  (R:∀v c a w,Q (.panic c) (a.put (bz d) v) w->Q (.panic c) a w:=by exact λ_ _ _ _ h=>h) (g:Region.wanted l (bf ops a.tmps)=bc:=by rfl) (j:∀w,S w->(bk a.eval l).run P w=.ok (.value v) w:=by intro w' k;go_simp;exact rfl) (e:S w:=by assumption)(b:cu P md ops Q S z n (done.setIfInBounds i bc) (a.put (bz d) v) w=G:=by (try go_frame);exact rfl): cu P md ops Q S z (n+1) done a w:=
 cu.take m E f (R v) g j e (b.mpr h)
theorem fE(i:Nat)(v:bj){d:Tmp}{l:bh}{n:Nat}{done:Array Bool}{a:Act}{w:be}{G:Prop}(h:G)(m:ops[i]?=bz l:=by rfl)(E:l.dst=bz d:=by rfl)
  (f:(Region.noSelect ops&&Region.free md ops done i&&(Region.ready md ops done).contains i&&Ae md ops done&&oW md ops 99 z i)=bc:=by kernel_rfl)
  (R:∀v c a w,Q (.panic c) (a.put (bz d) v) w->Q (.panic c) a w:=by exact λ_ _ _ _ h=>h) (g:Region.wanted l (bf ops a.tmps)=bc:=by rfl) (j:∀w,S w->(bk a.eval l).run P w=.ok (.value v) w:=by intro w' k;go_simp) (e:S w:=by assumption)(b:cu P md ops Q S z n (done.setIfInBounds i bc) (a.put (bz d) v) w=G:=by (try go_frame);exact rfl): cu P md ops Q S z (n+1) done a w:=
 cu.take m E f (R v) g j e (b.mpr h)
theorem Xy(i:Nat)(v:bj){F:be->Prop}(g:∀w,S w->F w){d:Tmp}{l:bh}{n:Nat}{done:Array Bool}{a:Act}{w:be}{G:Prop}(h:G)(m:ops[i]?=bz l:=by rfl)(E:l.dst=bz d:=by rfl)
  (f:(Region.noSelect ops&&Region.free md ops done i&&(Region.ready md ops done).contains i&&Ae md ops done&&oW md ops 99 z i)=bc:=by kernel_rfl)
  (R:∀v c a w,Q (.panic c) (a.put (bz d) v) w->Q (.panic c) a w:=by exact λ_ _ _ _ h=>h) (j:Region.wanted l (bf ops a.tmps)=bc:=by rfl) (k:∀w,F w->(bk a.eval l).run P w=.ok (.value v) w:=by intro w' o;go_simp) (e:S w:=by assumption)(b:cu P md ops Q S z n (done.setIfInBounds i bc) (a.put (bz d) v) w=G:=by (try go_frame);exact rfl): cu P md ops Q S z (n+1) done a w:=
 cu.take m E f (R v) j (λw h=>k w (g w h)) e (b.mpr h)
theorem Xz(i:Nat)(v:bj){t:bq}{x:bp}{p:bj}(g:∀w,S w->(Instr.loadAt t p).run P w=.ok v w){d:Tmp}{l:bh}{n:Nat}{done:Array Bool}{a:Act}{w:be}{G:Prop}(h:G)(m:ops[i]?=bz l:=by rfl)(E:l.dst=bz d:=by rfl)
  (f:(Region.noSelect ops&&Region.free md ops done i&&(Region.ready md ops done).contains i&&Ae md ops done&&oW md ops 99 z i)=bc:=by kernel_rfl)
  (R:∀v c a w,Q (.panic c) (a.put (bz d) v) w->Q (.panic c) a w:=by exact λ_ _ _ _ h=>h) (j:Region.wanted l (bf ops a.tmps)=bc:=by rfl) (k:l.op=.load t x:=by rfl)(o:a.eval x=p:=by rfl) (e:S w:=by assumption)(b:cu P md ops Q S z n (done.setIfInBounds i bc) (a.put (bz d) v) w=G:=by (try go_frame);exact rfl): cu P md ops Q S z (n+1) done a w:=
 cu.take m E f (R v) j (λw h=>by simp only [bk,k,o,Sem.run_bind,g w h,Result.andThen,Sem.run_pure]) e (b.mpr h)
end
end
section
section
variable {P:bm} {ops:Array bh} {Q:Exit->Act->be->Prop} {md:Region.Mode} {S:be->Prop} {z:Nat}
theorem cu.skip{i N:Nat}{l:bh}{d:Option Tmp}{n:Nat}{done:Array Bool}{a:Act}{w:be}(m:ops[i]?=bz l)(E:l.dst=d)
  (b:(Region.noSelect ops&&Region.free md ops done i&&(Region.ready md ops done).contains i&&Ae md ops done&&oW md ops N z i)=bc)
  (R:∀c a w,Q (.panic c) (a.put d undef) w->Q (.panic c) a w) (o:Region.wanted l (bf ops a.tmps)=bd) (hS:S w)
  (h:cu P md ops Q S z n (done.setIfInBounds i bc) (a.put d undef) w):cu P md ops Q S z (n+1) done a w:=by
 subst E;simp only [az]at b;obtain⟨⟨⟨⟨e,f⟩,g⟩,j⟩,k⟩:=b;exact cu.first m (Region.noSelect_spec e) R k n done a w (Region.free_spec m f) (Eo j) (by simpa using g) (.inr ⟨o,rfl⟩) hS h
theorem je(i:Nat){d:Tmp}{l:bh}{n:Nat}{done:Array Bool}{a:Act}{w:be}(h:cu P md ops Q S z n (done.setIfInBounds i bc) (a.put (bz d) undef) w)(m:ops[i]?=bz l:=by rfl)(E:l.dst=bz d:=by rfl)
 (e:(Region.noSelect ops&&Region.free md ops done i&&(Region.ready md ops done).contains i&&Ae md ops done&&oW md ops 99 z i)=bc:=by kernel_rfl)
 (R:∀c a w,Q (.panic c) (a.put (bz d) undef) w->Q (.panic c) a w:=by exact λ_ _ _ h=>h) (f:Region.wanted l (bf ops a.tmps)=bd:=by rfl) (b:S w:=by assumption):cu P md ops Q S z (n+1) done a w:=cu.skip m E e R f b h
end
end
structure dC where
 x:Int
 y:Int
 px:List Int
def dC.row(t:dC): List bj:=t.x::t.y::t.px.map (Value.int .u8)
def dB(w:be)(A:Option bo)(n:Nat)(c:List dC): Prop:=n=c.length/\∀j t,c[j]?=bz t->jo t.px/\∃g o,A=bz ⟨g,o,bx⟩/\w.rangeAt g (o+j*258) t.row
theorem fJ{w w':be}(T:bH [] w w'){g o:Nat}{l:List bj}(h:w.rangeAt g o l): w'.rangeAt g o l:=by intro j v e;have:=h j v e;rw [(bY T).1 _ _ (ai this)];exact this
theorem dB.u{w w':be}{A:Option bo}{n:Nat}{c:List dC}(h:dB w A n c)(T:bH [] w w'): dB w' A n c:=by refine⟨h.1,λj t b=>?_⟩;obtain⟨e,g,o,f,a⟩:=h.2 j t b;exact⟨e,g,o,f,fJ T a⟩
theorem dB.get{w:be}{A:Option bo}{n:Nat}{c:List dC}(h:dB w A n c)(d:1<=n): ∃g o,A=bz ⟨g,o,bx⟩/\∀w',bH [] w w'->∀j t,c[j]?=bz t->jo t.px/\w'.rangeAt g (o+j*258) t.row:=by
 have i:0<c.length:=pV
 obtain⟨_,g,o,rfl,_⟩:=h.2 0 c[0] sq;refine⟨g,o,rfl,λw' T j t k=>?_⟩;obtain⟨a,O,R,e,b⟩:=h.2 j t k;injection e with e;injection e with l z N;subst l;subst z;exact⟨a,fJ T b⟩
def xB(t:dC): Bool:=decide (-8192<=t.x)&&decide (t.x<=8191)&&decide (-8192<=t.y)&&decide (t.y<=8191)
def QS(a b:dC): Bool:=decide (a.y<b.y)||decide (a.y=b.y)&&decide (a.x<b.x)
def kF(t:dC): Bool:=xB t&&!oO t.px&&vZ (fG t.px) t.px
def nS(c:List dC)(i:Nat): Bool:=match c[i]? with
 |some t=>kF t&&(match i with|0=>bc|k+1=>(match c[k]? with|some s=>QS s t|none=>bd))
 |none=>bd
def eu(c:List dC): Bool:=decide (c.length<=1024)&&(List.range c.length).all (nS c)
theorem BL(x y:Int)(w:be): CR 104 #[bv #[x,y]] w (br (decide (-8192<=x)&&decide (x<=8191)&&decide (-8192<=y)&&decide (y<=8191))):=by
 by_cases e:-8192<=x
 .by_cases f:x<=8191
  .by_cases g:-8192<=y
   .by_cases l:y<=8191
    .go_enter func104,ntmps104;go_wp2;go_ret;exact⟨by simp [e,f,g,l],(bH.refl _ _).a _⟩
    go_enter func104,ntmps104;go_wp2;go_ret;exact⟨lO,(bH.refl _ _).a _⟩
   go_enter func104,ntmps104;go_wp2;go_ret;exact⟨lO,(bH.refl _ _).a _⟩
  go_enter func104,ntmps104;go_wp2;go_ret;exact⟨lO,(bH.refl _ _).a _⟩
 go_enter func104,ntmps104;go_wp2;go_ret;exact⟨lO,(bH.refl _ _).a _⟩
theorem Iy(d b e c:Int)(w:be): CR 165 #[bv #[d,b],bv #[e,c]] w (br (decide (b<c)||decide (b=c)&&decide (d<e))):=by
 by_cases f:b<c
 .go_enter func165,ntmps165;go_wp2;go_ret;exact⟨by simp [f],((bH.refl _ _).a _).a _⟩
 by_cases g:b=c
 .subst g;by_cases h:d<e
  .go_enter func165,ntmps165;go_wp2;go_ret;exact⟨sr,((bH.refl _ _).a _).a _⟩
  go_enter func165,ntmps165;go_wp2;go_ret;exact⟨lO,((bH.refl _ _).a _).a _⟩
 go_enter func165,ntmps165;go_wp2;go_ret;exact⟨lO,((bH.refl _ _).a _).a _⟩
theorem qP{P:bm}{b:Array bh}{rest:List bh}{o:bh}{a:Act}{w:be}{Q:Exit->Act->be->Prop}(d:o.guard=bx)(t:bq)(x:bp)(e:o.op=.load t x){p v:bj}
  (f:a.eval x=p) (C:(Instr.loadAt t p).run P w=.ok v w) (h:wpList P b Q rest (a.put o.dst v) w):wpList P b Q (o::rest) a w:=by
 refine wpList_plain d λK c=>?_;unfold Oper.wp;simp only [bk,e,f,Sem.run_bind,C,Result.andThen];exact c _ _ h
theorem dw{P:bm}{o:bh}{a:Act}{w:be}{t:bq}{x:bp}{p v:bj}(e:o.op=.load t x)(b:a.eval x=p)(C:(Instr.loadAt t p).run P w=.ok v w): (bk a.eval o).run P w=.ok (.value v) w:=by simp only [bk,e,b,Sem.run_bind,C,Result.andThen,Sem.run_pure]
theorem oV:(prog.info? 181).map (λi=>(i.zero,i.size))=bz (bz (bv bE),258):=lB
structure WI(w:be)(A:Option bo)(n cap:Nat)(wr:be): Prop where
 t:bH [] w wr
 c:wr.cell? ⟨w,0,bx⟩=bz (bt A n cap)
def vU(c:List dC)(i:Nat): Prop:=nS c i=bc
theorem CZ{c:List dC}{k:Nat}(d:k<c.length)(h:¬vU c k): eu c=bd:=by unfold eu;rw [List.all_eq_false.2 ⟨k,aX.2 d,h⟩,Bool.and_false]
theorem Jq{c:List dC}(e:c.length<=1024)(h:∀k,k<c.length->vU c k): eu c=bc:=by unfold eu;rw [aZ.2 λk d=>h k (aX.1 d),aC e];rfl
theorem qi(f:List dC)(A:Option bo)(n cap:Nat)(w:be)(h:dB w A n f):
  CR 103 #[bv #[bt A n cap]] w (br (eu f)):=by
 have hn:=h.1;by_cases ba:1024<n
 .have:eu f=bd:=by unfold eu;rw [ak gn];rfl
  rw [this];have d1:decide (1024<(n:Int))=bc:=aC gn;clear this hn h;go_enter func103,ntmps103;go_wp2;go_ret;exact⟨rfl,(bH.refl _ _).a _⟩
 have d1:decide (1024<(n:Int))=bd:=ak gn;have D:1<=n->∃g o,A=bz ⟨g,o,bx⟩/\∀w',bH [] w w'->∀j t,f[j]?=bz t->jo t.px/\w'.rangeAt g (o+j*258) t.row:=λh1=>h.get h1;have HA:=lh D;have O:=lh hn;clear D hn h;go_enter func103,ntmps103;go_wp2_with fail
 have hz:zeroCells181.size=258:=lB
 have T0:bH [] _ _:=(tR w).alloc (bA #[bt A n cap] 49);go_loopw [3] (λs3 wr=>∃k:Nat,k<=n/\s3=k/\WI w A n cap wr/\∀i,i<k->vU f i) (λs3 _=>n-(intOf s3).toNat);case atStart=>
  exact⟨0,gn,rfl,⟨T0,mu⟩,λi X=>absurd X (aU i)⟩
 clear T0;obtain⟨k,hk,rfl,E,ac⟩:=hrel;have Z:=lh ac;clear ac;by_cases bb:k<n
 .obtain⟨g,o,rfl,D⟩:=HA.o gn;have F:k<f.length:=by have:=O.o;omega
  obtain⟨t,ht⟩:∃t,f[k]?=bz t:=⟨f[k],by simp [F]⟩;obtain⟨J,hR⟩:=D wr E.t k t ht;have ao:t.row.length=258:=by simp [dC.row,J.1]
  have aq:(⟨t.row⟩:Array bj).all (·.oneCell')=bc:=all_oneCell_toArray (cs:=t.row) (λv B=>by
   rcases aS.1 B with rfl|B
   .rfl
   rcases aS.1 B with rfl|B
   .rfl
   obtain⟨x,_,rfl⟩:=List.mem_map.1 B;rfl)
  have W:=E.c;have b8:(Instr.alloc 181 bc (.tuple #[])).run bF wr=.ok (bw (bz ⟨wr,0,bx⟩)) (wr.alloc (bA bE 181)):=mw
  have a2:(prog.info? 181).map (·.size)=bz t.row.length:=nE
  have av:(Instr.storeAt 181 (bw (bz ⟨wr,0,bx⟩)) (bv ⟨t.row⟩)).run bF (wr.alloc (bA bE 181))=.ok () (wr.alloc (bA ⟨t.row⟩ 181)):=
   run_storeAt_new wr 181 bE ⟨t.row⟩ a2 (by rw [hz];exact ao.symm) aq
  obtain⟨HF,a6,P⟩:=lh3 E D ht;have b0:(0:Int)<=(k:Int):=gn
  have b1:(k:Int)<(n:Int):=gn
  clear E D ht aq ao hz;generalize a4:t.row=G at *;go_upto_region 7 with (first
   |(refine wpList_load_mid rfl 181 _ rfl _ _ rfl _ _ hR underlying181 rfl a2 ?_)
   |(refine bU rfl 181 _ _ rfl rfl rfl av ?_))
  have r0:(wr.alloc (bA ⟨G⟩ 181)).cell? ⟨wr,0,bx⟩=bz (bs .i64 t.x):=qC
  have r1:(wr.alloc (bA ⟨G⟩ 181)).cell? ⟨wr,1,bx⟩=bz (bs .i64 t.y):=qC
  have r2:(wr.alloc (bA ⟨G⟩ 181)).rangeAt wr.heap.size 2 (t.px.map (Value.int .u8)):=by intro j v B;rw [aA _ _ _ _ 181 (0,0) (heap_alloc_new wr _),<-a4,Nat.add_comm 2 j,<-B];show (t.row.toArray)[j+2]?=_;rw [List.getElem?_toArray];rfl
  have am:(t.px.map (Value.int .u8)).length=256:=by rw [aJ,J.1]
  have rc:(wr.alloc (bA ⟨G⟩ 181)).cell? ⟨w,0,bx⟩=bz (bt (bz ⟨g,o,bx⟩) n cap):=rI
  have s:=HF.o.t.alloc (bA ⟨G⟩ 181);clear av b8 a2 hR W;generalize wr.alloc (bA ⟨G⟩ 181)=l,wr.heap.size=b at *;obtain⟨ab,a7,aa,a8⟩:=lh4 (GV t.px J.1) (D9 t.px J.1) (Qv (fG t.px) t.px (by simp [fG]) J.1) (BL t.x t.y);have a1:(prog.info? 80).map (·.size)=bz (t.px.map (Value.int .u8)).length:=by rw [am,iE]
  have af:∀w',bH [] l w'->(Instr.loadAt 80 (bw (bz ⟨b,2,bx⟩))).run bF w'=.ok (tv t.px) w':=λw' T=>run_loadAt_mid w' b 2 80 _ _ (fJ T r2) underlying80 rfl a1;have N:=lh af;have aE:=lh a1;clear a1 am af;generalize aD:oO t.px=z,ar:vZ (fG t.px) t.px=sm at *;have b7:=lh aD;have b4:=lh ar;clear aD ar;unfold tv at *;generalize t.px.map (Value.int .u8)=cl,(fG t.px).map (Value.int .u8)=cc at *;go_upto_region 8 with (first
   |(refine qP rfl 80 _ rfl rfl (N.o _ (tR l)) ?_)
   |(go_at_call 162;refine mR (ab.o _) λw1 aR=>?_))
  refine cu.start (λu=>bH [] l u) 6 lB ?_;have e:bH [] l w1.drew:=aR.drawn 1;clear aR;generalize w1.drew=Y at *;refine fE 0 (bw (bz ⟨b,2,bx⟩)) ?_ (j:=λw d=>nJ);refine Xz 1 (bv ⟨cl⟩) (λw d=>N.o w d) ?_;refine fE 3 (bw (bz ⟨b,2,bx⟩)) ?_ (j:=λw d=>nJ);refine Xz 4 (bv ⟨cl⟩) (λw d=>N.o w d) ?_;refine eH 2 λK q=>?_;go_simp;refine mR (a7.o _) λw2 a5=>?_;refine q _ _ (λ_=>e.t a5) ?_;clear q K;try go_frame
  refine eH 5 λK q=>?_;go_simp;refine mR (aa.o _) λL aw=>?_;have S:bH [] l L:=(e.t a5).t aw;clear e a5 aw;refine gK q S ?_;clear q K
  refine eH 6 λK q=>?_;go_simp;refine gK q S ?_;clear q K
  refine Wy ?_;have c0:∀w',bH [] l w'->w'.cell? ⟨b,0,bx⟩=bz (bs .i64 t.x):=λw' T=>by rw [(bY T).1 _ _ (ai r0)];exact r0
  have c1:∀w',bH [] l w'->w'.cell? ⟨b,1,bx⟩=bz (bs .i64 t.y):=λw' T=>by rw [(bY T).1 _ _ (ai r1)];exact r1
  have c2:∀w',bH [] l w'->w'.cell? ⟨w,0,bx⟩=bz (bt (bz ⟨g,o,bx⟩) n cap):=λw' T=>by rw [(bY T).1 _ _ (ai rc)];exact rc
  have ad:kF t=((decide (-8192<=t.x)&&decide (t.x<=8191)&&decide (-8192<=t.y)&&decide (t.y<=8191))&&!z&&sm):=by unfold kF xB;rw [b7.o,b4.o]
  obtain⟨M,Q,R,C⟩:=lh4 ad c0 c1 c2;clear r0 r1 r2 rc a7 aa ab N aE ad c0 c1 c2;have ap:kF t=bd->eu f=bd:=λh=>CZ F uc;have a9:=lh ap;clear ap F;generalize (decide (-8192<=t.x)&&decide (t.x<=8191)&&decide (-8192<=t.y)&&decide (t.y<=8191))=it at *;generalize ax:t.x=x,ay:t.y=y at *;have b5:=lh ax;have b6:=lh ay;clear ax ay;go_upto_region 9 with (fail)
  cases k with
  |zero=>
   have I:kF t=bc->vU f 0:=λh=>uc
   have a0:=lh I;clear I;refine cu.start (λw'=>bH [] l w') 27 lB ?_;have e:=S.drawn 1;change bH [] l L.drew at e;generalize L.drew=Y at *;refine fK 0 ?_;refine fE 1 (bv #[x,y]) ?_ (j:=λw' d=>by have U:=Q.o _ d;have V:=R.o _ d;have e2:=C.o _ d;go_simp);refine PR 2 (a8.o _) λw4 e _=>?_;cases it;refine fE 3 (br bc) ?_;refine fE 4 (br bc) ?_;refine je 5 ?_;go_frame;refine fE 6 (br bc) ?_;refine fE 7 (br bc) ?_;refine je 8 ?_;go_frame;refine je 9 ?_;go_frame;refine fE 10 (br bc) ?_;refine fE 11 (br bc) ?_;rotate_left;refine fE 3 (br bd) ?_;refine fE 4 (br bd) ?_;cases z;rotate_left;refine fE 5 (br bc) ?_;refine fE 6 (br bc) ?_;refine fE 7 (br bc) ?_;refine je 8 ?_;go_frame;refine je 9 ?_;go_frame;refine fE 10 (br bc) ?_;refine fE 11 (br bc) ?_;rotate_left;rotate_left;refine fE 5 (br bd) ?_;refine fE 6 (br bd) ?_;refine fE 7 (br bd) ?_;cases sm;refine fE 8 (br bd) ?_;refine fE 9 (br bc) ?_;refine fE 10 (br bc) ?_;refine fE 11 (br bc) ?_;rotate_left;refine fE 8 (br bc) ?_;refine fE 9 (br bd) ?_;refine fE 10 (br bd) ?_;refine fE 11 (br bd) ?_;refine fE 12 ((0:Int)) ?_;refine fE 13 (br bd) ?_;refine fE 14 (br bd) ?_
   .refine je 15 ?_;go_frame;refine je 16 ?_;go_frame;refine je 17 ?_;go_frame;refine je 18 ?_;go_frame;refine je 19 ?_;go_frame;refine je 20 ?_;go_frame;refine je 21 ?_;go_frame;refine je 22 ?_;go_frame;refine je 23 ?_;go_frame;refine je 24 ?_;go_frame;refine je 25 ?_;go_frame;refine fE 26 (br bd) ?_;refine Yo ?_;(go_wp2_with fail);exact⟨⟨1,gn,by go_num,⟨s.t e,C.o _ e⟩,λi X=>by
     by_cases h:i<0
     .exact Z.o i h
     obtain rfl:i=0:=gn;exact a0.o se⟩,sy⟩
   all_goals
    refine je 12 ?_;go_frame;refine je 13 ?_;go_frame;refine je 14 ?_;go_frame;refine je 15 ?_;go_frame;refine je 16 ?_;go_frame;refine je 17 ?_;go_frame;refine je 18 ?_;go_frame;refine je 19 ?_;go_frame;refine je 20 ?_;go_frame;refine je 21 ?_;go_frame;refine je 22 ?_;go_frame;refine je 23 ?_;go_frame;refine je 24 ?_;go_frame;refine je 25 ?_;go_frame;refine je 26 ?_;go_frame;refine Yo ?_;go_wp2;go_ret;exact⟨tT,s.t e⟩
  |succ m=>
   have F:m+1<f.length:=rj;obtain⟨p,H⟩:∃p,f[m]?=bz p:=⟨f[m]'(by omega),aB gn⟩;have hP:∀w',bH [] l w'->w'.cell? ⟨g,o+m*258,bx⟩=bz (bs .i64 p.x):=λw' T=>by simpa using (a6.o w' (s.t T) m p H).2 0 _ rfl
   have hQ:∀w',bH [] l w'->w'.cell? ⟨g,o+m*258+1,bx⟩=bz (bs .i64 p.y):=λw' T=>(a6.o w' (s.t T) m p H).2 1 _ rfl;have hL:=Iy p.x p.y x y;have a3:QS p t=(decide (p.y<y)||decide (p.y=y)&&decide (p.x<x)):=(by rw [<-b5.o,<-b6.o];rfl);generalize b9:(decide (p.y<y)||decide (p.y=y)&&decide (p.x<x))=ls at *;have I:kF t=bc->ls=bc->vU f (m+1):=λh h2=>by unfold vU nS;rw [P.o];simp [h,H,a3,h2]
   have an:ls=bd->eu f=bd:=λh=>CZ F (by unfold vU nS;rw [P.o];simp [H,a3,h]);obtain⟨a0,aM,HP,HQ,aL⟩:=lh5 I an hP hQ hL;generalize p.x=px,p.y=py at *;clear I an hP hQ hL a3 b9 H F;have b2:(0:Int)<=(m:Int):=gn;have b3:(m:Int)<(n:Int):=gn;have wm:IntKind.i64.wrap (m:Int)=m:=IntWalk.i64_in _ ⟨gn,gn⟩;have d2:decide ((0:Int)<((m:Int)+1))=bc:=aC gn;refine cu.start (λw'=>bH [] l w') 27 lB ?_;have e:=S.drawn 1;change bH [] l L.drew at e;generalize L.drew=Y at *;refine fK 0 ?_;refine fE 1 (bv #[x,y]) ?_ (j:=λw' d=>by have U:=Q.o _ d;have V:=R.o _ d;have e2:=C.o _ d;go_simp);refine PR 2 (a8.o _) λw4 e _=>?_;cases it;refine fE 3 (br bc) ?_;refine fE 4 (br bc) ?_;refine je 5 ?_;go_frame;refine fE 6 (br bc) ?_;refine fE 7 (br bc) ?_;refine je 8 ?_;go_frame;refine je 9 ?_;go_frame;refine fE 10 (br bc) ?_;refine fE 11 (br bc) ?_;rotate_left;refine fE 3 (br bd) ?_;refine fE 4 (br bd) ?_;cases z;rotate_left;refine fE 5 (br bc) ?_;refine fE 6 (br bc) ?_;refine fE 7 (br bc) ?_;refine je 8 ?_;go_frame;refine je 9 ?_;go_frame;refine fE 10 (br bc) ?_;refine fE 11 (br bc) ?_;rotate_left;rotate_left;refine fE 5 (br bd) ?_;refine fE 6 (br bd) ?_;refine fE 7 (br bd) ?_;cases sm;refine fE 8 (br bd) ?_;refine fE 9 (br bc) ?_;refine fE 10 (br bc) ?_;refine fE 11 (br bc) ?_;rotate_left;refine fE 8 (br bc) ?_;refine fE 9 (br bd) ?_;refine fE 10 (br bd) ?_;refine fE 11 (br bd) ?_;refine fE 12 (bs .i64 ((m:Int)+1)) ?_;refine fE 13 (br bc) ?_;refine fE 14 (br bc) ?_;refine fK 15 ?_;refine fE 16 (bt (bz ⟨g,o,bx⟩) n cap) ?_ (j:=λw' d=>by have U:=Q.o _ d;have V:=R.o _ d;have e2:=C.o _ d;go_simp);refine fE 17 (bs .i64 ((m:Int)+1)) ?_;refine fE 18 ((m:Int)) ?_;refine fK 19 ?_;refine fK 20 ?_;refine fE 21 (bv #[px,py]) ?_ (j:=λw' d=>by have U:=HP.o _ d;have V:=HQ.o _ d;go_simp);refine fK 22 ?_;refine fE 23 (bv #[x,y]) ?_ (j:=λw' d=>by have U:=Q.o _ d;have V:=R.o _ d;have e2:=C.o _ d;go_simp);refine PR 24 (aL.o _) λw5 e _=>?_;cases ls
   .refine fE 25 (br bc) ?_;refine fE 26 (br bc) ?_;refine Yo ?_;go_wp2;go_ret;exact⟨by rw [aM.o (by first|rfl|trivial)];rfl,s.t e⟩
   .refine fE 25 (br bd) ?_;refine fE 26 (br bd) ?_;refine Yo ?_;(go_wp2_with fail);exact⟨⟨m+2,gn,by go_num,⟨s.t e,C.o _ e⟩,λi X=>by
     by_cases h:i<m+1
     .exact Z.o i h
     obtain rfl:i=m+1:=gn;exact a0.o se rfl⟩,sy⟩
   all_goals
    refine je 12 ?_;go_frame;refine je 13 ?_;go_frame;refine je 14 ?_;go_frame;refine je 15 ?_;go_frame;refine je 16 ?_;go_frame;refine je 17 ?_;go_frame;refine je 18 ?_;go_frame;refine je 19 ?_;go_frame;refine je 20 ?_;go_frame;refine je 21 ?_;go_frame;refine je 22 ?_;go_frame;refine je 23 ?_;go_frame;refine je 24 ?_;go_frame;refine je 25 ?_;go_frame;refine je 26 ?_;go_frame;refine Yo ?_;go_wp2;go_ret;exact⟨tT,s.t e⟩
 obtain rfl:k=n:=gn
 have hT:=E.t;have W:=E.c;go_wp2;go_ret;exact⟨by rw [Jq rj (λi X=>Z.o i rj)];rfl,hT⟩
theorem Ls(x y:Int)(w:be): bl bF 276 #[x,y] w λe w'=>e=bB (bs .i64 (if x<y then -1 else if y<x then 1 else 0))/\w'=w:=by
 have H:=lh LD;by_cases a:x<y
 .have E:decide (x<y)=bc:=aC a;rw [aG a];go_enter func276,ntmps276;go_wp2_with (go_at_call 280;refine (H.o _ _).mono ?_;rintro e b ⟨rfl,rfl⟩)
  go_ret;exact⟨rfl,rfl⟩
 have E:decide (x<y)=bd:=ak a;rw [aF a];by_cases f:y<x
 .have a2:decide (y<x)=bc:=aC f;rw [aG f];go_enter func276,ntmps276;go_wp2_with (go_at_call 280;refine (H.o _ _).mono ?_;rintro e b ⟨rfl,rfl⟩)
  go_ret;exact⟨rfl,rfl⟩
 have a2:decide (y<x)=bd:=ak f;rw [aF f];go_enter func276,ntmps276;go_wp2_with (go_at_call 280;refine mS (H.o _ _) ?_)
 go_ret;exact⟨rfl,rfl⟩
theorem Vg(c d:Int)(g:Nat)(w:be)(i:w.cell? ⟨g,0,bx⟩=bz (bs .i64 c))(j:w.cell? ⟨g,1,bx⟩=bz (bs .i64 d)):
  bl bF 275 #[bt (bz ⟨g,0,bx⟩) 2 2] w λe w'=>e=bB (bs .i64 (if c=0 then d else c))/\w'=w:=by
 go_enter func275,ntmps275;go_wp2_with fail
 go_loop [8] (λs8=>∃k:Nat,k<=2/\s8=k/\(1<=k->c=0)/\(2<=k->d=0)) (λs8=>2-(intOf s8).toNat);case atStart=>exact⟨0,gn,rfl,λh=>gn,λh=>gn⟩
 obtain⟨k,a,rfl,b,E⟩:=hrel;have f:k=0\/k=1\/k=2:=gn
 rcases f with rfl|rfl|rfl
 .by_cases J:c=0
  .subst J;clear b E a;(go_wp2_with fail);go_round;case rel=>exact⟨1,gn,by go_num,λ_=>by first|rfl|trivial,λh=>by omega⟩
   simp [intOf]
  clear b E a;go_wp2;go_ret;exact⟨by first|rfl|(rw [aF J];rfl),rfl⟩
 .have J:=b gn;subst J;by_cases J:d=0
  .subst J;clear b E a;(go_wp2_with fail);go_round;case rel=>exact⟨2,gn,by go_num,λ_=>by first|rfl|trivial,λ_=>by first|rfl|trivial⟩
   simp [intOf]
  clear b E a;go_wp2;go_ret;exact⟨lz,rfl⟩
 have J:=b gn;have aD:=E gn;subst J aD;clear b E a;go_wp2;go_ret;exact⟨lz,rfl⟩
theorem J7(c d:Int)(u:be)(g:Nat)(a:g=u.heap.size):
  bl bF 275 #[bt (bz ⟨g,0,bx⟩) 2 2] (u.alloc (bA #[c,d] 3)) λe w'=>e=bB (bs .i64 (if c=0 then d else c))/\w'=u.alloc (bA #[c,d] 3):=by
 subst a;exact Vg c d _ _ mu mu
theorem Kw(k f l i:Int)(h:(decide (f<i)||decide (f=i)&&decide (k<l))=bc)(w:be):
  CR 264 #[bv #[k,f],bv #[l,i]] w (bs .i64 (-1)):=by
 have C:=Ls f i;have D:=Ls k l;have E:(if (if f<i then (-1:Int) else if i<f then 1 else 0)=0 then (if k<l then (-1:Int) else if l<k then 1 else 0) else (if f<i then (-1:Int) else if i<f then 1 else 0))=-1:=by
  by_cases a:f<i
  .simp [a]
  simp [a]at h;obtain⟨rfl,b⟩:=h;simp [b]
 generalize (if f<i then (-1:Int) else if i<f then 1 else 0)=c,(if k<l then (-1:Int) else if l<k then 1 else 0)=d at *;have A:=λu g J=>J7 c d u g J;rw [E]at A;obtain⟨F,G,H⟩:=lh3 C D A;clear C D A E h;have I:=((tR w).alloc (bA #[k,f] 24)).alloc (bA #[l,i] 24);have B:((w.alloc (bA #[k,f] 24)).alloc (bA #[l,i] 24)).cell? ⟨w,0,bx⟩=bz (bs .i64 k):=mu
 have c1:((w.alloc (bA #[k,f] 24)).alloc (bA #[l,i] 24)).cell? ⟨w,1,bx⟩=bz (bs .i64 f):=mu
 have c2:((w.alloc (bA #[k,f] 24)).alloc (bA #[l,i] 24)).cell? ⟨w+1,0,bx⟩=bz (bs .i64 l):=mu
 have c3:((w.alloc (bA #[k,f] 24)).alloc (bA #[l,i] 24)).cell? ⟨w+1,1,bx⟩=bz (bs .i64 i):=mu
 go_enter func264,ntmps264;go_wp2_with fail
 generalize (w.alloc (bA #[k,f] 24)).alloc (bA #[l,i] 24)=W at *;have p:Hid (∀w',bH [] W w'->w'.cell? ⟨w,0,bx⟩=bz (bs .i64 k)):=lh λw' T=>by rw [(bY T).1 _ _ (ai B)];exact B
 have q:Hid (∀w',bH [] W w'->w'.cell? ⟨w,1,bx⟩=bz (bs .i64 f)):=lh λw' T=>by rw [(bY T).1 _ _ (ai c1)];exact c1
 have s:Hid (∀w',bH [] W w'->w'.cell? ⟨w+1,0,bx⟩=bz (bs .i64 l)):=lh λw' T=>by rw [(bY T).1 _ _ (ai c2)];exact c2
 have v:Hid (∀w',bH [] W w'->w'.cell? ⟨w+1,1,bx⟩=bz (bs .i64 i)):=lh λw' T=>by rw [(bY T).1 _ _ (ai c3)];exact c3
 clear B c1 c2 c3;refine cu.start (λw'=>bH [] W w') 12 lB ?_;have n:=(tR W).drawn 1;change bH [] W W.drew at n;generalize W.drew=Y at *;refine fK 0 ?_;refine fE 1 f ?_ (j:=λw' j=>by have x:=p.out _ j;have y:=q.out _ j;have z:=s.out _ j;have N:=v.out _ j;go_simp);refine fK 2 ?_;refine fE 3 i ?_ (j:=λw' j=>by have x:=p.out _ j;have y:=q.out _ j;have z:=s.out _ j;have N:=v.out _ j;go_simp);refine fK 5 ?_;refine fE 6 k ?_ (j:=λw' j=>by have x:=p.out _ j;have y:=q.out _ j;have z:=s.out _ j;have N:=v.out _ j;go_simp);refine fK 7 ?_;refine fE 8 l ?_ (j:=λw' j=>by have x:=p.out _ j;have y:=q.out _ j;have z:=s.out _ j;have N:=v.out _ j;go_simp);refine eH 4 λK m=>?_;go_simp;refine (F.o _).mono ?_;rintro e L ⟨rfl,rfl⟩;refine gK m n ?_;clear m K
 refine eH 9 λK m=>?_;go_simp;refine (G.o _).mono ?_;rintro e L ⟨rfl,rfl⟩;refine gK m n ?_;clear m K
 refine eH 10 λK m=>?_;go_simp;refine m _ _ (λ_=>n.a _) ?_;clear m K;try go_frame
 refine eH 11 λK m=>?_;go_simp;refine mS (H.o _ _ rfl) ?_;refine m _ _ (λ_=>n.a _) ?_;clear m K;try go_frame
 refine Yo ?_
 go_wp2;go_ret;exact⟨rfl,I.t (n.a _)⟩
theorem Gt(x y:Int)(e:-8192<=x)(f:x<=8191)(g:-8192<=y)(l:y<=8191)(w:be): CR 263 #[bv #[x,y]] w (br bc):=by
 go_enter func263,ntmps263;go_wp2;go_ret;exact⟨by simp [e,f,g,l],(bH.refl _ _).a _⟩
theorem dM(x:Int)(m:Nat)(a:m<4611686018427387904): 0<=bits .and .i64 x m/\bits .and .i64 x m<=m:=by
 have e:(BitVec.ofInt 64 (m:Int)).toNat=m:=by rw [BitVec.toNat_ofInt];omega
 have f:(BitVec.ofInt 64 x &&& BitVec.ofInt 64 (m:Int)).toNat<=m:=by rw [BitVec.toNat_and];exact aK Nat.and_le_right gn
 have g:bits .and .i64 x m=((BitVec.ofInt 64 x &&& BitVec.ofInt 64 (m:Int)).toNat:Int):=by show IntKind.i64.wrap ((BitVec.ofInt 64 x &&& BitVec.ofInt 64 (m:Int)).toNat:Int)=_;generalize (BitVec.ofInt 64 x &&& BitVec.ofInt 64 (m:Int)).toNat=q at *;simp [IntKind.wrap,IntKind.bits,IntKind.signed];omega
 omega
theorem MB(x y:Int)(w:be): CR 65 #[x,y] w (bv #[(1:Int),(0:Int),x,(0:Int),(1:Int),y,(1:Int)]):=by
 go_enter func65,ntmps65;go_wp2_with fail
 exact ag (v:=bv #[(1:Int),(0:Int),x,(0:Int),(1:Int),y,(1:Int)]) (by simp [results,results65,go_sem]) rfl ⟨rfl,(bH.refl _ _).a _⟩
theorem NY(x:Int)(w:be): bl bF 56 #[x] w λe w'=>(∃r g b a,e=bB (bv #[bs .u8 r,bs .u8 g,bs .u8 b,bs .u8 a]))/\bH [] w w':=by
 go_enter func56,ntmps56;go_wp2_with fail
 .exact ag (v:=bv #[bs .u8 (x%256),bs .u8 (x%4294967296/256%256),bs .u8 (x%4294967296/65536%256),bs .u8 255]) qg rfl ⟨⟨_,_,_,_,rfl⟩,((bH.refl _ _).a _).a _⟩
 .exact ag (v:=bv #[bs .u8 (x%256),bs .u8 (x%4294967296/256%256),bs .u8 (x%4294967296/65536%256),bs .u8 0]) qg rfl ⟨⟨_,_,_,_,rfl⟩,((bH.refl _ _).a _).a _⟩
 exact ag (v:=bv #[bs .u8 (x%256),bs .u8 (x%4294967296/256%256),bs .u8 (x%4294967296/65536%256),bs .u8 (x%4294967296/16777216)]) qg rfl ⟨⟨_,_,_,_,rfl⟩,((bH.refl _ _).a _).a _⟩
theorem SS(x y:Int)(b:-4611686018427387904<=x/\x<=4611686018427387904)(hy:-4611686018427387904<=y/\y<=4611686018427387904)(w:be): CR 42 #[x,y] w (bv #[(iq x 8:Int),(iq y 8:Int)]):=by
 obtain⟨f,l⟩:∃f:Int->Int,∀z,f z=iq z 8:=⟨λz=>iq z 8,λ_=>rfl⟩;have c:∀z,z=x\/z=y->∀u,bl bF 102 #[z,(8:Int)] u λe w'=>e=bB (bs .i64 (f z))/\w'=u:=λz J u=>
  (wY z 8 (by rcases J with rfl|rfl;exact b.1;exact hy.1) (by rcases J with rfl|rfl;exact b.2;exact hy.2) u).mono (λe w' h=>⟨by rw [l];exact h.1,h.2.symm⟩)
 rw [<-l,<-l];have N:=lh c;clear b hy c l;go_enter func42,ntmps42;go_wp2_with (go_at_call 102;refine mR (N.o _ (by first|exact .inl rfl|exact .inr rfl) _) λg d=>?_;rw [d];clear d)
 exact ag (v:=bv #[(f x:Int),(f y:Int)]) (by simp [results,results42,go_sem]) rfl ⟨rfl,(bH.refl _ _).a _⟩
theorem Pi(A:Option bo)(n cap:Nat)(w:be): bl bF 105 #[bv #[bt A n cap]] w λe w'=>(e=bB (bv #[bt A n cap,(0:Int)])\/(1024<n/\e=bB (bv #[bt bx 0 0,(2:Int)])))/\bH [] w w':=by
 by_cases h:1024<n
 .have F:decide (1024<(n:Int))=bc:=aC gn;go_enter func105,ntmps105;go_wp2_with fail
  exact ag (v:=bv #[bt bx 0 0,(2:Int)]) tM rfl ⟨.inr ⟨h,rfl⟩,((bH.refl _ _).a _).a _⟩
 have F:decide (1024<(n:Int))=bd:=ak gn;go_enter func105,ntmps105;go_wp2_with fail
 exact ag (v:=bv #[bt A n cap,(0:Int)]) tM rfl ⟨.inl rfl,((bH.refl _ _).a _).a _⟩
theorem nX(w:be): dB w bx 0 []:=⟨rfl,λj t h=>qc⟩
theorem PI(c:List dC)(A:Option bo)(n cap:Nat)(w:be)(h:dB w A n c):
  bl bF 44 #[bv #[bt A n cap]] w λe w'=>(∃l f B E,e=bB (bv #[bt l f B])/\dB w' l f E/\f<=1024/\(n=0->f=0))/\bH [] w w':=by
 have s:=λu (T:bH [] w u)=>qi c A n cap u (h.u T);have x:eu c=bc->n<=1024:=λg=>by rw [h.1];unfold eu at g;simp only [az,decide_eq_true_eq]at g;exact g.1
 have z:=lh h;obtain⟨W,m⟩:=eX ((w.alloc (bA #[bt A n cap] 49)).alloc (bA #[bt bx 0 0] 49));have d:bH [] w W:=m▸((tR w).a _).a _;have G:=cAt 0 (JK m).1 rfl;have y:=cAt 0 (JK m).2 rfl;have H:∀i,W.frozen? ⟨w+1,i,bx⟩=bd:=λi=>nc
 have J:W.heap.size=w.heap.size+2:=mq
 generalize eu c=b at *;have p:=lh s;have C:=lh x;clear s h x;cases b with
 |false=>
  go_enter func44,ntmps44;go_upto_region 1 with (fail)
  rw [<-m];clear m;go_upto_region 2 with (go_at_call 103;refine mR (p.o _ d) λF aR=>?_)
  obtain⟨j,D⟩:=bY aR;go_wp2_with fail
  have k:=tq j y;refine ag (v:=bv #[bt bx 0 0]) pN rfl ⟨⟨bx,0,0,[],rfl,nX _,gn,λ_=>rfl⟩,?_⟩;exact (d.t aR).sc
 |true=>
  go_enter func44,ntmps44;go_upto_region 1 with (fail)
  rw [<-m];clear m;go_upto_region 2 with (go_at_call 103;refine mR (p.o _ d) λF aR=>?_)
  obtain⟨j,D⟩:=bY aR;go_wp2_with fail
  have k:=tq j y;have q:=(d.t aR).setCell (a:=⟨w+1,0,bx⟩) (bt A n cap) (.inr lE);exact ag (v:=bv #[bt A n cap]) pN rfl ⟨⟨A,n,cap,c,rfl,z.o.u q,C.o trivial,λh=>h⟩,q⟩
theorem Vx(x y:Int)(w:be): bl bF 107 #[x,y] w λe w'=>e=bB (br (decide (0<=x)&&decide (x<8)&&decide (0<=y)&&decide (y<8)))/\w'=w:=by
 by_cases a:0<=x
 .by_cases f:x<8
  .by_cases g:0<=y
   .by_cases l:y<8;all_goals
     go_enter func107,ntmps107;go_wp2;go_ret;exact⟨by simp [a,f,g,l],rfl⟩
   go_enter func107,ntmps107;go_wp2;go_ret;exact⟨lO,rfl⟩
  go_enter func107,ntmps107;go_wp2;go_ret;exact⟨lO,rfl⟩
 go_enter func107,ntmps107;go_wp2;go_ret;exact⟨lO,rfl⟩
theorem fC(z:Int)(e:-4611686018427387904<=z)(a:z<=4611686018427387904): wrap64 z=z:=by unfold wrap64;omega
theorem DY(n:Int)(w:be): bl bF 53 #[n] w λe w'=>(∃p:Af,p.ok=bc/\e=bB p.v)/\bH [] w w':=by
 have a0:=MB;obtain⟨c,ec⟩:∃c,bits BinOp.and IntKind.i64 (n/4) 7=c:=⟨_,rfl⟩;obtain⟨d,ed⟩:∃d,bits BinOp.and IntKind.i64 (n/32) 7=d:=⟨_,rfl⟩;obtain⟨s,es⟩:∃s,bits BinOp.and IntKind.i64 n 7=s:=⟨_,rfl⟩;have b:=dM (n/4) 7 gn;have hd:=dM (n/32) 7 gn;rw [show ((7:Nat):Int)=7 from rfl,ec]at b;rw [show ((7:Nat):Int)=7 from rfl,ed]at hd;have wc:wrap64 (c-3)=c-3:=fC _ gn gn;have wd:wrap64 (d-3)=d-3:=fC _ gn gn;have Z:Hid ((-3<=c-3/\c-3<=4)/\-3<=d-3/\d-3<=4):=lh gn;have A:=lh a0;obtain⟨W,m⟩:=eX (w.alloc (bA #[(0:Int),(0:Int),(0:Int),(0:Int),(0:Int),(0:Int),(0:Int)] 40));have B:bH [] w W:=m▸(tR w).a _;have a5:W.heap.size=w.heap.size+1:=mq
 obtain⟨C,J,Q,D,E,F,G⟩:=Qh (Rf m);have zf:∀i,W.frozen? ⟨w,i,bx⟩=bd:=λi=>nc
 clear a0 b hd;have hs:s=1\/s=2\/s=3\/(s≠1/\s≠2/\s≠3):=gn
 rcases hs with rfl|rfl|rfl|⟨h1,h2,h3⟩
 .go_enter func53,ntmps53;go_upto_region 1 with (fail)
  rw [<-m];clear m;go_upto_region 2 with (go_at_call 65;refine mR (A.o _ _ _) λf aR=>?_)
  generalize c-3=c,d-3=d at *;obtain⟨g,b7⟩:=eX (f.alloc (bA #[(1:Int),(0:Int),c,(0:Int),(1:Int),d,(1:Int)] 40));have q:bH [] W g:=b7▸aR.a _;have P:=aR.size;obtain⟨R,S,Y,T,U,V,X⟩:=Qh (Rf b7);have pf:∀i,g.frozen? ⟨f,i,bx⟩=bd:=λi=>pR
  rw [<-b7];clear b7 aR;have N:¬f.heap.size=w.heap.size:=gn
  have O:¬w.heap.size=f.heap.size:=gn
  have aw:w.heap.size<=f.heap.size:=gn
  generalize f.heap.size=h at *;obtain⟨b,M⟩:=bY q;have j:=tq b C;have k:=tq b J;have l:=tq b Q;have u:=tq b D;have x:=tq b E;have y:=tq b F;have z:=tq b G;go_wp2_with fail
  have ax:=(((((((((B.t q).setCell (a:=⟨h,0,bx⟩) (2:Int) (.inr lE)).setCell (a:=⟨h,4,bx⟩) (2:Int) (.inr lE)).setCell (a:=⟨w,0,bx⟩) (2:Int) (.inr lE)).setCell (a:=⟨w,1,bx⟩) (0:Int) (.inr lE)).setCell (a:=⟨w,2,bx⟩) c (.inr lE)).setCell (a:=⟨w,3,bx⟩) (0:Int) (.inr lE)).setCell (a:=⟨w,4,bx⟩) (2:Int) (.inr lE)).setCell (a:=⟨w,5,bx⟩) d (.inr lE)).setCell (a:=⟨w,6,bx⟩) (1:Int) (.inr lE);refine ag (v:=bv #[(2:Int),(0:Int),c,(0:Int),(2:Int),d,(1:Int)]) nz rfl ⟨⟨⟨2,0,c,0,2,d,1⟩,?_,rfl⟩,ax⟩;obtain⟨⟨H,I⟩,K,L⟩:=Z.o;simp [Af.ok,Af.small,Af.shift,Af.det,lm];omega
 .go_enter func53,ntmps53;go_upto_region 1 with (fail)
  rw [<-m];clear m;go_upto_region 2 with (go_at_call 65;refine mR (A.o _ _ _) λf aR=>?_)
  generalize c-3=c,d-3=d at *;obtain⟨g,b7⟩:=eX (f.alloc (bA #[(1:Int),(0:Int),c,(0:Int),(1:Int),d,(1:Int)] 40));have q:bH [] W g:=b7▸aR.a _;have P:=aR.size;obtain⟨R,S,Y,T,U,V,X⟩:=Qh (Rf b7);have pf:∀i,g.frozen? ⟨f,i,bx⟩=bd:=λi=>pR
  rw [<-b7];clear b7 aR;have N:¬f.heap.size=w.heap.size:=gn
  have O:¬w.heap.size=f.heap.size:=gn
  have aw:w.heap.size<=f.heap.size:=gn
  generalize f.heap.size=h at *;obtain⟨b,M⟩:=bY q;have j:=tq b C;have k:=tq b J;have l:=tq b Q;have u:=tq b D;have x:=tq b E;have y:=tq b F;have z:=tq b G;go_wp2_with fail
  have ax:=((((((((B.t q).setCell (a:=⟨h,6,bx⟩) (2:Int) (.inr lE)).setCell (a:=⟨w,0,bx⟩) (1:Int) (.inr lE)).setCell (a:=⟨w,1,bx⟩) (0:Int) (.inr lE)).setCell (a:=⟨w,2,bx⟩) c (.inr lE)).setCell (a:=⟨w,3,bx⟩) (0:Int) (.inr lE)).setCell (a:=⟨w,4,bx⟩) (1:Int) (.inr lE)).setCell (a:=⟨w,5,bx⟩) d (.inr lE)).setCell (a:=⟨w,6,bx⟩) (2:Int) (.inr lE);refine ag (v:=bv #[(1:Int),(0:Int),c,(0:Int),(1:Int),d,(2:Int)]) nz rfl ⟨⟨⟨1,0,c,0,1,d,2⟩,?_,rfl⟩,ax⟩;obtain⟨⟨H,I⟩,K,L⟩:=Z.o;simp [Af.ok,Af.small,Af.shift,Af.det,lm];omega
 .go_enter func53,ntmps53;go_upto_region 1 with (fail)
  rw [<-m];clear m;go_upto_region 2 with (go_at_call 65;refine mR (A.o _ _ _) λf aR=>?_)
  generalize c-3=c,d-3=d at *;obtain⟨g,b7⟩:=eX (f.alloc (bA #[(1:Int),(0:Int),c,(0:Int),(1:Int),d,(1:Int)] 40));have q:bH [] W g:=b7▸aR.a _;have P:=aR.size;obtain⟨R,S,Y,T,U,V,X⟩:=Qh (Rf b7);have pf:∀i,g.frozen? ⟨f,i,bx⟩=bd:=λi=>pR
  rw [<-b7];clear b7 aR;have N:¬f.heap.size=w.heap.size:=gn
  have O:¬w.heap.size=f.heap.size:=gn
  have aw:w.heap.size<=f.heap.size:=gn
  generalize f.heap.size=h at *;obtain⟨b,M⟩:=bY q;have j:=tq b C;have k:=tq b J;have l:=tq b Q;have u:=tq b D;have x:=tq b E;have y:=tq b F;have z:=tq b G;go_wp2_with fail
  have ax:=(((((((((((B.t q).setCell (a:=⟨h,0,bx⟩) (0:Int) (.inr lE)).setCell (a:=⟨h,1,bx⟩) (bs .i64 (-1)) (.inr lE)).setCell (a:=⟨h,3,bx⟩) (1:Int) (.inr lE)).setCell (a:=⟨h,4,bx⟩) (0:Int) (.inr lE)).setCell (a:=⟨w,0,bx⟩) (0:Int) (.inr lE)).setCell (a:=⟨w,1,bx⟩) (bs .i64 (-1)) (.inr lE)).setCell (a:=⟨w,2,bx⟩) c (.inr lE)).setCell (a:=⟨w,3,bx⟩) (1:Int) (.inr lE)).setCell (a:=⟨w,4,bx⟩) (0:Int) (.inr lE)).setCell (a:=⟨w,5,bx⟩) d (.inr lE)).setCell (a:=⟨w,6,bx⟩) (1:Int) (.inr lE);refine ag (v:=bv #[(0:Int),(-1:Int),c,(1:Int),(0:Int),d,(1:Int)]) nz rfl ⟨⟨⟨0,(-1),c,1,0,d,1⟩,?_,rfl⟩,ax⟩;obtain⟨⟨H,I⟩,K,L⟩:=Z.o;simp [Af.ok,Af.small,Af.shift,Af.det,lm];omega
 have k1:(s==1)=bd:=by simpa using h1
 have k2:(s==2)=bd:=by simpa using h2
 have k3:(s==3)=bd:=qm
 go_enter func53,ntmps53;go_upto_region 1 with (fail)
 rw [<-m];clear m;go_upto_region 2 with (go_at_call 65;refine mR (A.o _ _ _) λf aR=>?_)
 generalize c-3=c,d-3=d at *;obtain⟨g,b7⟩:=eX (f.alloc (bA #[(1:Int),(0:Int),c,(0:Int),(1:Int),d,(1:Int)] 40));have q:bH [] W g:=b7▸aR.a _;have P:=aR.size;obtain⟨R,S,Y,T,U,V,X⟩:=Qh (Rf b7);have pf:∀i,g.frozen? ⟨f,i,bx⟩=bd:=λi=>pR
 rw [<-b7];clear b7 aR;have N:¬f.heap.size=w.heap.size:=gn
 have O:¬w.heap.size=f.heap.size:=gn
 have aw:w.heap.size<=f.heap.size:=gn
 generalize f.heap.size=h at *;obtain⟨b,M⟩:=bY q;have j:=tq b C;have k:=tq b J;have l:=tq b Q;have u:=tq b D;have x:=tq b E;have y:=tq b F;have z:=tq b G;go_wp2_with fail
 have ax:=(((((((B.t q).setCell (a:=⟨w,0,bx⟩) (1:Int) (.inr lE)).setCell (a:=⟨w,1,bx⟩) (0:Int) (.inr lE)).setCell (a:=⟨w,2,bx⟩) c (.inr lE)).setCell (a:=⟨w,3,bx⟩) (0:Int) (.inr lE)).setCell (a:=⟨w,4,bx⟩) (1:Int) (.inr lE)).setCell (a:=⟨w,5,bx⟩) d (.inr lE)).setCell (a:=⟨w,6,bx⟩) (1:Int) (.inr lE);refine ag (v:=bv #[(1:Int),(0:Int),c,(0:Int),(1:Int),d,(1:Int)]) nz rfl ⟨⟨⟨1,0,c,0,1,d,1⟩,?_,rfl⟩,ax⟩;obtain⟨⟨H,I⟩,K,L⟩:=Z.o;simp [Af.ok,Af.small,Af.shift,Af.det,lm];omega
