import Derived.WalkKit
import Derived.Maps.RangeWalk
import Derived.Deep.QuietTactic
import Derived.BigQuiet
import Derived.Deep.WholeRow
import Derived.WalkSpells
import Derived.Lib.Hide
import Derived.StillTailTactics
import Derived.WalkLawsBesides
import Derived.Test.YtaahejdimjbhhaaGreatDoorChecked
set_option maxRecDepth 100000
set_option maxHeartbeats 0
set_option linter.all false
namespace Go.Den
structure mQ(w w':World): Prop where
 size:w.heap.size<=w'.heap.size
 old:∀cb,cb<w.heap.size->w'.heap[cb]?=w.heap[cb]?
 os:w'.os=w.os
 tape:w'.tape=w.tape
 output:w'.output=w.output
theorem mQ.refl(w:World): mQ w w:=⟨Nat.le_refl _,λ_ _=>rfl,rfl,rfl,rfl⟩
theorem mQ.alloc{w w':World}(h:mQ w w')(o:Obj): mQ w (w'.alloc o) where
 size:=by show w.heap.size<=(w'.heap.push o).size;have:=h.size;rw [Array.size_push];omega
 old cb hb:=by rw [<-h.old cb hb];have:cb<w'.heap.size:=Nat.lt_of_lt_of_le hb h.size;show (w'.heap.push o)[cb]?=_;rw [Array.getElem?_push_lt this,Array.getElem?_eq_getElem this]
 os:=h.os
 tape:=h.tape
 output:=h.output
theorem afU(w:World)(a:Addr)(v:Value)(k:Nat)(h:k≠a.block): (w.setCell a v).heap[k]?=w.heap[k]?:=by simp only [World.setCell,Array.getElem?_modify];rw [if_neg (by omega)]
theorem CV(b:Nat): ∀(cs:List Value) (k:Nat) (a:Array Value) (i:Nat),
  ((cs.zipIdx k).foldl (λ(cs:Array Value) (x:Value×Nat)=>cs.setIfInBounds (b+x.2) x.1) a)[i]?=if b+k<=i/\i<b+k+cs.length/\i<a.size then cs[i-(b+k)]? else a[i]?
 | [],k,a,i=>by rw [if_neg (by simp;omega)];rfl
 |c::cs,k,a,i=>by
  rw [List.zipIdx_cons,List.foldl_cons,CV b cs (k+1)];by_cases e:b+(k+1)<=i/\i<b+(k+1)+cs.length/\i<(a.setIfInBounds (b+k) c).size
  .rw [if_pos e,if_pos (by simp at e ⊢;omega)];obtain⟨d,rfl⟩:∃d,i=b+k+1+d:=⟨i-(b+k+1),by omega⟩;have h:b+k+1+d-(b+(k+1))=d:=(by omega);have j:b+k+1+d-(b+k)=d+1:=(by omega);rw [h,j];simp
  rw [if_neg e,Array.getElem?_setIfInBounds];simp only [Array.size_setIfInBounds]at e;by_cases f:b+k=i
  .subst f;rw [if_pos rfl];by_cases g:b+k<a.size
   .rw [if_pos g,if_pos (by simp;omega)];simp
   rw [if_neg g,if_neg (by omega),Array.getElem?_eq_none (by omega)]
  rw [if_neg f,if_neg (by simp;omega)]
end Go.Den
namespace Go.Proofs.YtaahejdimjbhhaaGreatDoor
section
open Go.RowKit
open Go.ChangeMaps (setBlock)
theorem IU{P:Program}{t k e ty:TypeId}(o:P.underlying t=some (.map k e)){b:Nat}{a:Array MapEntry}{c:Nat}{w:World}(g:w.heap[b]?=some (.map a c)):
  (Builtin.len_ #[t] ty #[.map (some b)]).run P w=.ok (.int .i64 a.size) w:=by
 simp [Builtin.len_,run_underlying o,MapKept.run_getObj_map g,goInt]
structure Kz(b o r:Nat)(bud time ev:Int)(es:Array MapEntry)(cl:Nat)(w:World): Prop where
 c0:w.cell? ⟨b,o,none⟩=some (.int .i64 bud)
 c1:w.cell? ⟨b,o+1,none⟩=some (.map (some r))
 c2:w.cell? ⟨b,o+2,none⟩=some (.int .i64 time)
 c5:w.cell? ⟨b,o+5,none⟩=some (.int .i64 ev)
 f5:w.frozen? ⟨b,o+5,none⟩=false
 mp:w.heap[r]?=some (.map es cl)
structure Lc(es:Array MapEntry)(cl:Nat)(time:Int)(key:MapEntry->ByteArray)(used:MapEntry->Int)(row:MapEntry->Array Value): Prop where
 ke:∀e∈es.toList,e.key=.string (key e)
 va:∀e∈es.toList,e.val=.agg (row e)
 sz:∀e∈es.toList,(row e).size=257
 la:∀e∈es.toList,(row e)[256]?=some (.int .i64 (used e))
 on:∀e∈es.toList,(row e).all (·.oneCell')=true
 bo:∀e∈es.toList,e.born<cl
 nd:(es.toList.map (·.born)).Nodup
 ks:∀(i j:Nat) (x y:MapEntry),es[i]?=some x->es[j]?=some y->key x=key y->i=j
 le:∀e∈es.toList,used e<=time
theorem bU{P:Program}{b:Array Oper}{rest:List Oper}{o:Oper}{a:Act}{w w':World}{Q:Exit->Act->World->Prop}(d:o.guard=none)(t:TypeId)(x y:Operand)(e:o.op=.store t x y){p v:Value}
  (f:a.eval x=p) (hy:a.eval y=v) (C:(Instr.storeAt t p v).run P w=.ok () w') (h:wpList P b Q rest (a.put o.dst undef) w'):wpList P b Q (o::rest) a w:=by
 refine wpList_plain d λK c=>?_;unfold Oper.wp;simp [execOp,e,f,hy,C,Result.andThen];exact c _ _ h
theorem iE:(Tryz.prog.info? 80).map (·.size)=some 256:=by kernel_rfl
noncomputable def Ry:Array Value:=match (Tryz.prog.info? 134).map (λi=>i.zero)with|some (some (Value.agg a))=>a|_=>#[]
theorem Ld:(Tryz.prog.info? 134).map (λi=>(i.zero,i.size))=some (some (.agg Ry),257):=by kernel_rfl
theorem Wv:Ry.size=257:=by kernel_rfl
def zX(a:Array MapEntry)(key:MapEntry->ByteArray)(b:MapEntry->Int)(c:Array Nat)(k:ByteArray)(d:Int)(s6 s7:Value): Prop:=
 (s6=.string k/\s7=.int .i64 (d+1)/\∀e∈a.toList,c.contains e.born=false)\/
  ∃e∈a.toList,s6=.string (key e)/\s7=.int .i64 (b e)/\∀x∈a.toList,c.contains x.born=true->b e<=b x
structure mO(w1:World)(it r:Nat)(es:Array MapEntry)(cl:Nat)(seen:Array Nat)(wr:World): Prop where
 itr:wr.heap[it]?=some (.mapIter (some r) cl seen cl)
 old:∀j,j<it->wr.heap[j]?=w1.heap[j]?
 size:it<wr.heap.size
 os:wr.os=w1.os
 tape:wr.tape=w1.tape
 output:wr.output=w1.output
theorem mO.alloc{e:World}{a r:Nat}{c:Array MapEntry}{b:Nat}{d:Array Nat}{wr:World}(h:mO e a r c b d wr)(o:Obj): mO e a r c b d (wr.alloc o) where
 itr:=(Go.MapKept.heap_alloc wr o).2 a h.size |>.trans h.itr
 old j hj:=((Go.MapKept.heap_alloc wr o).2 j (Nat.lt_trans hj h.size)).trans (h.old j hj)
 size:=by have:=h.size;simp;omega
 os:=h.os
 tape:=h.tape
 output:=h.output
theorem mO.drawn{e:World}{c r:Nat}{a:Array MapEntry}{b:Nat}{d:Array Nat}{wr:World}(h:mO e c r a b d wr)(n:Nat): mO e c r a b d (wr.drewN n):=⟨h.itr,h.old,h.size,h.os,h.tape,h.output⟩
theorem mO.step{i:World}{c r:Nat}{d:Array MapEntry}{b:Nat}{l:Array Nat}{wr a:World}(h:mO i c r d b l wr)(f:a=wr\/a=wr.drew)(g:Array Nat):
  mO i c r d b g (setBlock a c (.mapIter (some r) b g b)):=by
 have e:a.heap=wr.heap:=by rcases f with rfl|rfl<;>rfl
 refine⟨?_,λj k=>?_,?_,?_,?_,?_⟩
 .simp [setBlock,e,h.size]
 .simp only [setBlock,e];rw [Array.getElem?_setIfInBounds,if_neg (by omega)];exact h.old j k
 .simp [setBlock,e,h.size]
 .rcases f with rfl|rfl<;>exact h.os
 .rcases f with rfl|rfl<;>exact h.tape
 rcases f with rfl|rfl<;>exact h.output
theorem Hu{a:Array MapEntry}{c:Array Nat}{e:MapEntry}(h:e∈(leftOf a c).toList): e∈a.toList/\c.contains e.born=false:=by unfold leftOf at h;simpa using h
theorem Np{a:Array MapEntry}{c:Array Nat}{e:MapEntry}(h:e∈(leftOf a c).toList): (leftOf a (c.push e.born)).size<(leftOf a c).size:=by
 have k:=Hu h;unfold leftOf;have b:∀p:MapEntry->Bool,(a.filter p).size=(a.toList.filter p).length:=λp=>by rw [<-Array.length_toList,Array.toList_filter]
 rw [b,b];have:(a.toList.filter λx=>!(c.push e.born).contains x.born)=(a.toList.filter λx=>!c.contains x.born).filter λx=>!(x.born==e.born):=by rw [List.filter_filter];refine List.filter_congr λx _=>?_;simp only [Array.contains_push,Bool.not_or,Bool.and_comm]
 rw [this];refine List.length_filter_lt_length_iff_exists.2 ⟨e,?_,by simp⟩;simpa using k
theorem Ll{b:Array Nat}{a c:Nat}(h:(b.push a).contains c=true): c=a\/b.contains c=true:=by rw [Array.contains_push,Bool.or_eq_true]at h;exact h.symm.imp (λh=>by simpa using h) id
theorem zX.yes{b:Array MapEntry}{key:MapEntry->ByteArray}{c:MapEntry->Int}{i:Array Nat}{k:ByteArray}{j:Int}{s6:Value}{u:Int}(h:zX b key c i k j s6 (.int .i64 u)){e:MapEntry}(f:e∈b.toList)
  (m:(b.toList.map (·.born)).Nodup) (o:c e<u):zX b key c (i.push e.born) k j (.string (key e)) (.int .i64 (c e)):=by
 refine .inr ⟨e,f,rfl,rfl,λx d n=>?_⟩;rcases Ll n with a|a
 .rw [born_inj m d f a];exact Int.le_refl _
 rcases h with ⟨_,_,g⟩|⟨y,_,_,g,l⟩
 .rw [g x d]at a;cases a
 cases g;exact Int.le_of_lt (Int.lt_of_lt_of_le o (l x d a))
theorem zX.no{a:Array MapEntry}{key:MapEntry->ByteArray}{b:MapEntry->Int}{l:Array Nat}{k:ByteArray}{d:Int}{s6:Value}{u:Int}(h:zX a key b l k d s6 (.int .i64 u)){e:MapEntry}(i:e∈a.toList)
  (p:(a.toList.map (·.born)).Nodup) (o:∀e∈a.toList,b e<=d) (s:¬b e<u):zX a key b (l.push e.born) k d s6 (.int .i64 u):=by
 rcases h with ⟨_,f,_⟩|⟨y,m,f,g,n⟩
 .cases f;have:=o e i;omega
 refine .inr ⟨y,m,f,g,λx j q=>?_⟩;rcases Ll q with c|c
 .cases g;rw [born_inj p j i c];omega
 exact n x j c
theorem mO.left{f:World}{c r:Nat}{a:Array MapEntry}{b:Nat}{d:Array Nat}{wr:World}(h:mO f c r a b d wr)(e:wr.heap[r]?=some (.map a b)): wr.rangeLeft r c=(leftOf a d).size:=by simp only [World.rangeLeft,e,h.itr]
theorem zX.shape{b:Array MapEntry}{key:MapEntry->ByteArray}{i:MapEntry->Int}{d:Array Nat}{k:ByteArray}{g:Int}{s6 s7:Value}(h:zX b key i d k g s6 s7): ∃c u,s6=.string c/\s7=.int .i64 u:=by
 rcases h with ⟨a,f,_⟩|⟨e,_,a,f,_⟩
 .exact⟨_,_,a,f⟩
 exact⟨_,_,a,f⟩
theorem Nc{a:Array MapEntry}{c:Array Nat}(h:(leftOf a c).size=0): ∀x∈a.toList,c.contains x.born=true:=by
 intro x d;cases b:c.contains x.born with
 |true=>rfl
 |false=>
  have:x∈leftOf a c:=by unfold leftOf;simp only [Array.mem_filter,b,Bool.not_false,and_true];simpa using d
  rw [Array.eq_empty_of_size_eq_zero h]at this;simp at this
theorem zX.fin{a:Array MapEntry}{key:MapEntry->ByteArray}{b:MapEntry->Int}{e:Array Nat}{k:ByteArray}{p:Int}{s6 s7:Value}(h:zX a key b e k p s6 s7)(f:(leftOf a e).size=0)(q:0<a.size):
  ∃(i:Nat) (x:MapEntry),a[i]?=some x/\s6=.string (key x)/\∀y∈a.toList,b x<=b y:=by
 have c:=Nc f;rcases h with ⟨_,_,g⟩|⟨x,o,j,_,g⟩
 .have l:a[0]∈a.toList:=by simp
  have:=g _ l;rw [c _ l]at this;cases this
 obtain⟨i,m,n⟩:=List.mem_iff_getElem.1 o;exact⟨i,x,by rw [<-Array.getElem?_toList,List.getElem?_eq_getElem m,n],j,λy d=>g y d (c y d)⟩
theorem TI{w:World}{r:Nat}{a:Array MapEntry}{c:Nat}{t:Int}{key:MapEntry->ByteArray}{u:MapEntry->Int}{q:MapEntry->Array Value}(b:Lc a c t key u q)(l:w.heap[r]?=some (.map a c)){i:Nat}{x:MapEntry}(g:a[i]?=some x)(ty:TypeId):
  (Builtin.delete_ #[130,33] ty #[.map (some r),.string (key x)]).run Tryz.prog w=.ok (.tuple #[]) (setBlock w r (.map (a.eraseIdxIfInBounds i) c)):=by
 have d:∀(s:ByteArray),MapKept.IsKey .string (.string s):=λs=>by simp [MapKept.IsKey]
 have m:x∈a.toList:=by rw [<-Array.getElem?_toList]at g;exact List.mem_of_getElem? g
 rcases MapKept.findNow_spec (d (key x)) a.toList 0 (λy p=>by rw [b.ke y p];exact d _)with ⟨_,f⟩|⟨j,e,h,f,k⟩
 .exact absurd (b.ke x m) (f x m)
 have n:e∈a.toList:=List.mem_of_getElem? f;rw [b.ke e n]at k;have o:j=i:=b.ks j i e x (by rw [<-Array.getElem?_toList];exact f) g (by injection k);subst o;rw [Nat.zero_add]at h;simp [Builtin.delete_,run_underlying Tryz.underlying130,MapKept.run_getObj_map l,MapKept.run_checkKey Tryz.underlying33 (d (key x)),MapKept.run_findKey Tryz.underlying33 h,MapKept.run_setObj_map _ l,Result.andThen,setBlock]
def Ej(b o:Nat)(e w':World): Prop:=
 ∃(r:Nat) (c h g:Int) (a:Array MapEntry) (d:Nat),Kz b o r c h g a d e/\(((a.size:Int)<=c/\∃n,w'=e.drewN n)\/
  (¬(a.size:Int)<=c/\∃(k:MapEntry->ByteArray) (f:MapEntry->Int) (q:MapEntry->Array Value),Lc a d h k f q/\∃(i:Nat) (x:MapEntry),a[i]?=some x/\(∀y∈a.toList,f x<=f y)/\
   w'.heap[r]?=some (.map (a.eraseIdxIfInBounds i) d)/\w'.heap[b]?=(e.setCell ⟨b,o+5,none⟩ (.int .i64 (g+1))).heap[b]?/\(∀j,j<e.heap.size->j≠b->j≠r->w'.heap[j]?=e.heap[j]?)/\
   e.heap.size<=w'.heap.size/\w'.os=e.os/\w'.tape=e.tape/\w'.output=e.output))
def U6(b o:Nat)(i:World): Prop:=
 ∃(r:Nat) (c d g:Int) (a:Array MapEntry) (e:Nat),Kz b o r c d g a e i/\((a.size:Int)<=c\/(¬(a.size:Int)<=c/\∃(f:MapEntry->ByteArray) (h:MapEntry->Int) (q:MapEntry->Array Value),
  Lc a e d f h q/\0<=d/\d<=1000000000000/\0<=g/\g<=1000000000000/\0<a.size))
theorem La(b o:Nat){e w':World}{U:World->Prop}(a:U e)(h:Ej b o e w'): Ending.returned (.tuple #[])=.returned (.tuple #[])/\∃e,U e/\Ej b o e w':=⟨rfl,e,a,h⟩
theorem SI(b o:Nat)(k:ByteArray)(T:Array Value)(hT:T.size=256)(w:World)(U:World->Prop)
  (ab:Calls Tryz.prog 66 #[.pointer (some ⟨b,o,none⟩),.string k,.agg T] (w.alloc (.cells T 80)) λe a=>e=.returned (.tuple #[])/\U a)
  (hU:∀a,U a->U6 b o a) :
  Calls Tryz.prog 26 #[.pointer (some ⟨b,o,none⟩),.string k,.agg T] w λe w'=>e=.returned (.tuple #[])/\∃a,U a/\Ej b o a w':=by
 have a9:=Lib.hid (iE.trans (congrArg some hT.symm));clear hT;go_enter Tryz.func26,Tryz.ntmps26;go_wp2_with (first
  |(refine wpList_load_row rfl 80 (.tmp 5) rfl w.heap.size rfl 80 T (0,0) _ (heap_alloc_new w _) Tryz.underlying80 rfl a9.out ?_)
  |(go_at_call 66;refine ab.mono ?_;rintro e a ⟨rfl,W⟩))
 obtain⟨r,E,Y,R,d,c,a3,ac⟩:=hU a W;have a0:=Lib.hid a3;obtain⟨B,c1,c2,c5,F,p⟩:=a3;have ao:∀n ty,(Builtin.len_ #[130] ty #[.map (some r)]).run Tryz.prog (a.drewN n)=.ok (.int .i64 d.size) (a.drewN n):=λn ty=>IU Tryz.underlying130 p;rcases ac with t|⟨t,M,A,z,g,aM,aR,aD,aE,ap⟩
 .have af:decide ((d.size:Int)<=E)=true:=by simpa using t
  have N:=Lib.hid t;clear t;go_quiet (fail)
  go_wp2_with fail
  refine bodyPost_ret (results_none rfl _ _ _) rfl ?_;exact La b o W ⟨r,E,Y,R,d,c,a0.out,.inl ⟨N.out,_,rfl⟩⟩
 have af:decide ((d.size:Int)<=E)=false:=by simpa using t
 have N:=Lib.hid t;have aa:=Lib.hid g;clear t;go_quiet (fail)
 go_wp2_with fail
 clear ao;go_quiet (fail)
 have aq:=λ(n:Nat)=>run_range_map (P:=Tryz.prog) (a.drewN n) 130 33 134 r d c Tryz.underlying130 p;go_wp2_with fail
 clear aq;have D:r<a.heap.size:=(Array.getElem?_eq_some_iff.1 p).1;have H:b<a.heap.size:=block_lt_of_cell B;have I:b≠r:=by rintro rfl;simp [World.cell?,p]at B
 have G:∀n,mO a a.heap.size r d c #[] ((a.drewN n).alloc (.mapIter (some r) c #[] c)):=λn=>
  ⟨heap_alloc_new (a.drewN n) _,λj S=>(Go.MapKept.heap_alloc (a.drewN n) _).2 j S,by simp,rfl,rfl,rfl⟩
 go_loopw [6,7] (λs6 s7 wr=>∃m:Array Nat,mO a a.heap.size r d c m wr/\zX d M A m k Y s6 s7) (λ_ _ wr=>wr.rangeLeft r a.heap.size);case atStart=>exact⟨#[],G _,.inl ⟨rfl,rfl,λ_ _=>by simp⟩⟩
 obtain⟨m,f,v⟩:=hrel;have y:wr.heap[r]?=some (.map d c):=(f.old r D).trans p;rcases run_next_at (P:=Tryz.prog) wr 0 a.heap.size r c c m d c f.itr y g.bo (Nat.le_refl _)with ⟨h0,V⟩|⟨e,J,w2,X,V⟩
 .obtain⟨i,x,a4,rfl,a7⟩:=v.fin h0 ap;have a2:∀q,wr.cell? ⟨b,q,none⟩=a.cell? ⟨b,q,none⟩:=λq=>by simp only [World.cell?,f.old b H]
  have d1:=(a2 (o+1)).trans c1;have ay:=TI g y a4 0;have d5:(setBlock wr r (.map (d.eraseIdxIfInBounds i) c)).cell? ⟨b,o+5,none⟩=some (.int .i64 R):=by have:(setBlock wr r (.map (d.eraseIdxIfInBounds i) c)).heap[b]?=wr.heap[b]?:=(by simp [setBlock,Ne.symm I]);simp only [World.cell?,this,f.old b H];exact c5
  have e5:(setBlock wr r (.map (d.eraseIdxIfInBounds i) c)).frozen? ⟨b,o+5,none⟩=false:=by have:(setBlock wr r (.map (d.eraseIdxIfInBounds i) c)).heap[b]?=wr.heap[b]?:=(by simp [setBlock,Ne.symm I]);simp only [World.frozen?,this,f.old b H];exact F
  have HL:=Lib.hid f;have HM:=Lib.hid a7;clear f v a7 G B c1 c2 c5 F a2 y;go_wp2_with fail
  go_end0;have f:=HL.out;have ar:(setBlock wr r (.map (d.eraseIdxIfInBounds i) c)).heap.size=wr.heap.size:=by simp [setBlock]
  refine La b o W ⟨r,E,Y,R,d,c,a0.out,.inr ⟨(by have:=N.out;omega),M,A,z,aa.out,i,x,a4,HM.out,?_,?_,?_,?_,f.os,f.tape,f.output⟩⟩
  .rw [heap_setCell_other _ _ _ _ (Ne.symm I)];simp [setBlock,Nat.lt_trans D f.size]
  .have h1:(setBlock wr r (.map (d.eraseIdxIfInBounds i) c)).heap[b]?=a.heap[b]?:=(by simp only [setBlock];rw [Array.getElem?_setIfInBounds,if_neg (Ne.symm I)];exact f.old b H);simp only [World.setCell,Array.getElem?_modify,if_true,h1]
  .intro j S am an;rw [heap_setCell_other _ _ _ _ am];simp only [setBlock];rw [Array.getElem?_setIfInBounds,if_neg (Ne.symm an)];exact f.old j S
  have:=f.size;simp [World.setCell,ar];omega
 obtain⟨l,aL⟩:=Hu J;obtain⟨h,L⟩:∃h,h=setBlock w2 a.heap.size (.mapIter (some r) c (m.push e.born) c):=⟨_,rfl⟩;have C:mO a a.heap.size r d c (m.push e.born) h:=L▸f.step X _;have K:h.heap[r]?=some (.map d c):=(C.old r D).trans p;have ad:=run_entry_at (P:=Tryz.prog) h a.heap.size r c m d c e C.itr K l g.nd;have a6:(leftOf d (m.push e.born)).size<wr.rangeLeft r a.heap.size:=by rw [f.left y];exact Np J
 rw [<-L]at V;rw [g.ke e l,g.va e l]at V ad;have ax:(h.alloc (.cells (z e) 134)).cell? ⟨h.heap.size,256,none⟩=some (.int .i64 (A e)):=by rw [cell_of_row _ _ _ (z e) 134 (0,0) (heap_alloc_new h _)];exact g.la e l
 have aw:(Instr.alloc 134 true (.tuple #[])).run Tryz.prog h=.ok (.pointer (some ⟨h.heap.size,0,none⟩)) (h.alloc (.cells Ry 134)):=by unfold Instr.alloc;rw [Sem.run_bind,(zero_of_info Ld).1];rfl
 have a8:=run_storeAt_new (P:=Tryz.prog) h 134 Ry (z e) (by rw [g.sz e l];exact (zero_of_info Ld).2) (by rw [Wv,g.sz e l]) (g.on e l);obtain⟨kk,u,rfl,rfl⟩:=v.shape;have Z:=Lib.hid v;have av:=Lib.hid K;have a1:=Lib.hid C;have HE:=Lib.hid l;have HS:=Lib.hid g;by_cases a5:A e<u
 .have O:=Lib.hid (Z.out.yes l g.nd a5);generalize M e=ke,z e=Q,A e=ue at *;clear v f X L C K J g y G B c1 c2 c5 F;go_wp2_with (refine bU rfl 134 (.tmp 9) (.tmp 41) rfl rfl rfl a8 ?_)
  go_quiet (fail)
  go_wp2_with fail
  have s:∀n,mO a a.heap.size r d c (m.push e.born) ((h.alloc (.cells Q 134)).drewN n):=λn=>(a1.out.alloc _).drawn n;go_roundw;case rel=>exact⟨_,s _,O.out⟩
  rw [(s _).left ((s _).old r D |>.trans p)];exact a6
 have O:=Lib.hid (Z.out.no l g.nd g.le a5);generalize M e=ke,z e=Q,A e=ue at *;clear v f X L C K J g y G B c1 c2 c5 F;go_wp2_with (refine bU rfl 134 (.tmp 9) (.tmp 41) rfl rfl rfl a8 ?_)
 have s:mO a a.heap.size r d c (m.push e.born) (h.alloc (.cells Q 134)):=a1.out.alloc _;go_roundw;case rel=>exact⟨_,s,O.out⟩
 rw [s.left (s.old r D |>.trans p)];exact a6
end
section
open Go.RowKit Go.Den
theorem mQ.trans{a b c:World}(h:mQ a b)(k:mQ b c): mQ a c:=
 ⟨Nat.le_trans h.size k.size,λd e=>(k.old d (Nat.lt_of_lt_of_le e h.size)).trans (h.old d e),k.os.trans h.os,k.tape.trans h.tape,k.output.trans h.output⟩
theorem mQ.drew{a b:World}(h:mQ a b): mQ a b.drew:=⟨h.size,h.old,h.os,h.tape,h.output⟩
noncomputable def V9:Array Value:=match (Tryz.prog.info? 80).map (λi=>i.zero)with|some (some (Value.agg a))=>a|_=>#[]
theorem SB:(Tryz.prog.info? 80).map (λi=>(i.zero,i.size))=some (some (.agg V9),256):=by kernel_rfl
theorem vX:V9.size=256:=by kernel_rfl
theorem agk:V9.all (·.oneCell')=true:=by kernel_rfl
theorem SX(w:World): (Instr.build 80 #[]).run Tryz.prog w=.ok (.agg V9) w:=by kernel_rfl
theorem ww(w:World): (Instr.alloc 80 true (.tuple #[])).run Tryz.prog w=.ok (.pointer (some ⟨w.heap.size,0,none⟩)) (w.alloc (.cells V9 80)):=by unfold Instr.alloc;rw [Sem.run_bind,(zero_of_info SB).1];rfl
end
section
open Go.RowKit
open Go.ChangeMaps (setBlock)
def XE(c:Int)(r:Nat)(d h m g:Int): Array Value:=#[.int .i64 c,.map (some r),.int .i64 d,.int .i64 h,.int .i64 m,.int .i64 g]
theorem af4(s:ByteArray): MapKept.IsKey .string (.string s):=by simp [MapKept.IsKey]
theorem adF{w:World}{r:Nat}{a:Array MapEntry}{b:Nat}(e:w.heap[r]?=some (.map a b)){k:ByteArray}{v:Value}(l:Instr.findNow .string (.string k) a.toList 0=some none):
  (Instr.mapUpdate 130 (.map (some r)) (.string k) v).run Tryz.prog w=.ok () (setBlock w r (.map (a.push { key:=.string k,val:=v,born:=b }) (b+1))):=by
 simp [Instr.mapUpdate,run_underlying Tryz.underlying130,MapKept.run_getObj_map e,MapKept.run_checkKey Tryz.underlying33 (af4 k),MapKept.run_findKey Tryz.underlying33 l,MapKept.run_setObj_map _ e,Result.andThen,setBlock]
open Go.RowKit
open Go.ChangeMaps (setBlock)
theorem aaK{P:Program}{id:Nat}{Q:Exit->Act->World->Prop}{a:Act}{w:World}{l:List Oper}(n:Nat)(e:P.follows .mixedOrders=true)(v:Region.lexTailB .any l.toArray n=true)
 (h:wpStill P l.toArray w.drew (λb=>wpList P l.toArray Q (l.drop n) b w.drew) (l.take n) a):(Code.region id l.toArray true).wp P Q a w:=wp_region_still_tail n e v h
theorem aaD{P:Program}{b:Array Oper}{w:World}{Q:Act->Prop}{a:Act}{o:Oper}{rest:List Oper}{v:Value}(d:o.guard=none)(C:(execOp a.eval o).run P w=.ok (.value v) w)
  (h:wpStill P b w Q rest (a.put o.dst v)):wpStill P b w Q (o::rest) a:=by
 unfold wpStill;have c:Region.wanted o (yielded b a.tmps)=true:=by unfold Region.wanted;rw [d]
 rw [c,if_pos rfl];unfold Oper.still;rw [C];exact⟨rfl,h⟩
theorem abx{P:Program}{c:Array Oper}{w:World}{Q:Act->Prop}{a:Act}{o:Oper}{rest:List Oper}{v:Value}{t:TypeId}{b:Array (Nat×Operand)}{vs:Array (Nat×Value)}(f:o.guard=none)
  (e:o.op=.build t b) (j:(b.map λ(i,x)=>(i,a.eval x))=vs) (C:(Instr.build t vs).run P w=.ok v w) (h:wpStill P c w Q rest (a.put o.dst v)):wpStill P c w Q (o::rest) a:=by
 obtain⟨d,l,ty,m,k,g⟩:=o;simp only at e;subst e;refine aaD f ?_ h;show (Sem.bind (Instr.build t (b.map λ(i,x)=>(i,a.eval x))) _).run P w=_;rw [j,Sem.run_bind',C];rfl
theorem ad6(w:World): ∃a,Tryz.prog.underlying 134=some (.struct a)/\(a.mapM λf=>do pure (f.offset,<-sizeOf f.type):Sem (Array (Nat×Nat))).run Tryz.prog w=.ok #[(0,256),(256,1)] w:=⟨_,Tryz.underlying134,by kernel_rfl⟩
theorem qp{P:Program}{t:TypeId}{n:Nat}(h:(P.info? t).map (·.size)=some n)(w:World): (sizeOf t).run P w=.ok n w:=by
 cases m:P.info? t with
 |none=>rw [m]at h;cases h
 |some i=>
  rw [m]at h;cases h;simp [sizeOf,typeInfo,m]
theorem afz(T:List Value)(b:T.length=256)(t:Value)(o:t.cells=#[t]): Instr.fill (#[(0,256),(256,1)][·]?) Ry [(0,.agg ⟨T⟩),(1,t)]=some ⟨T++[t]⟩:=by
 have d:=Wv;have k:(Value.agg ⟨T⟩).cells=⟨T⟩:=rfl;simp only [Instr.fill,k,o];have s1:(#[(0,256),(256,1)]:Array (Nat×Nat))[0]?=some (0,256):=rfl;have s2:(#[(0,256),(256,1)]:Array (Nat×Nat))[1]?=some (256,1):=rfl;rw [s1,s2];simp only;obtain⟨A,j⟩:∃A:Array Value,A=(⟨T⟩:Array Value).zipIdx.foldl (λ(g:Array Value) (x:Value×Nat)=>g.setIfInBounds (0+x.2) x.1) Ry:=⟨_,rfl⟩;have a:∀i:Nat,A[i]?=if i<256 then T[i]? else Ry[i]?:=by
  intro i;rw [j,<-Array.foldl_toList,Array.toList_zipIdx,Go.Den.CV,b,d];by_cases h:i<256
  .rw [if_pos (by omega),if_pos h];simp
  rw [if_neg (by omega),if_neg h]
 have c:A.size=257:=by
  have e:A[256]?≠none:=by rw [a,if_neg (by omega)];rw [Array.getElem?_eq_getElem (by omega)];exact λh=>by cases h
  have f:A[257]?=none:=by rw [a,if_neg (by omega)];exact Array.getElem?_eq_none (by omega)
  have m:=Array.getElem?_eq_none_iff.1 f;have n:¬A.size<=256:=λl=>e (Array.getElem?_eq_none l);omega
 rw [if_neg (by simp [b,d]),<-j,if_neg (by simp [c])];congr 1;refine Array.ext_getElem? λi=>?_;rw [<-Array.foldl_toList,Array.toList_zipIdx,Go.Den.CV,c,a];rw [show (⟨T++[t]⟩:Array Value)[i]?=(T++[t])[i]? by simp];by_cases e:i<256
 .rw [if_neg (by simp<;>omega),if_pos e,List.getElem?_append_left (by omega)]
 by_cases f:i=256
 .subst f;rw [if_pos (by simp),List.getElem?_append_right (by omega),b]
 rw [if_neg (by simp<;>omega),if_neg e,Array.getElem?_eq_none (by omega),List.getElem?_eq_none (by simp<;>omega)]
theorem aeq(T:List Value)(b:T.length=256)(t:Int)(w:World): (Instr.build 134 #[(0,.agg ⟨T⟩),(1,.int .i64 t)]).run Tryz.prog w=.ok (.agg ⟨T++[.int .i64 t]⟩) w:=by obtain⟨c,o,a⟩:=ad6 w;unfold Instr.build;rw [Sem.run_bind,(zero_of_info Ld).1];simp only [Result.andThen,Sem.run_bind,run_underlying o];rw [a];have l:=afz T b (.int .i64 t) rfl;simp only [Value.cells]at l ⊢;rw [l];rfl
theorem afY(b r:Nat)(k:ByteArray)(T:List Value)(q:T.length=256)(o d h m p:Int)(w:World)(f:Array MapEntry)(c:Nat)(ty:TypeId)
  (l:w.heap[b]?=some (.cells (XE o r d h m p) ty (0,0))) (a:w.heap[r]?=some (.map f c)) (aM:0<=d) (aR:d<=1000000000000)
  (u:Array MapEntry) (t:Nat) (C:∀w',w'.heap[r]?=some (.map f c)->(Instr.mapUpdate 130 (.map (some r)) (.string k) (.agg ⟨T++[.int .i64 (d+1)]⟩)).run Tryz.prog w'=.ok () (setBlock w' r (.map u t))) :
  Calls Tryz.prog 66 #[.pointer (some ⟨b,0,none⟩),.string k,.agg ⟨T⟩] w λe w'=>e=.returned (.tuple #[])/\
   ∃n,w'=setBlock ((((w.alloc (.cells ⟨T⟩ 80)).setCell ⟨b,2,none⟩ (.int .i64 (d+1)))).drewN n) r (.map u t):=by
 have a5:b<w.heap.size:=(Array.getElem?_eq_some_iff.1 l).1;have B:r<w.heap.size:=(Array.getElem?_eq_some_iff.1 a).1;have I:b≠r:=by rintro rfl;rw [l]at a;cases a
 obtain⟨W,i⟩:∃W,W=w.alloc (.cells ⟨T⟩ 80):=⟨_,rfl⟩;have j:W.heap[b]?=some (.cells (XE o r d h m p) ty (0,0)):=by rw [i,(MapKept.heap_alloc w _).2 b a5];exact l
 have z:W.heap[r]?=some (.map f c):=by rw [i,(MapKept.heap_alloc w _).2 r B];exact a
 have A:W.heap[w.heap.size]?=some (.cells ⟨T⟩ 80 (0,0)):=by rw [i];exact (MapKept.heap_alloc w _).1
 have c2:W.cell? ⟨b,2,none⟩=some (.int .i64 d):=by simp [World.cell?,j,XE]
 have H:W.frozen? ⟨b,2,none⟩=false:=by simp [World.frozen?,j]
 obtain⟨V,g⟩:∃V,V=W.setCell ⟨b,2,none⟩ (.int .i64 (d+1)):=⟨_,rfl⟩;have s:V.heap[b]?=some (.cells (XE o r (d+1) h m p) ty (0,0)):=by rw [g];simp only [World.setCell,Array.getElem?_modify,if_true,j];rfl
 have x:V.heap[r]?=some (.map f c):=by rw [g,heap_setCell_other _ _ _ _ (Ne.symm I)];exact z
 have y:V.heap[w.heap.size]?=some (.cells ⟨T⟩ 80 (0,0)):=by rw [g,heap_setCell_other _ _ _ _ (by show w.heap.size≠b;omega)];exact A
 have F:V.cell? ⟨b,1,none⟩=some (.map (some r)):=by simp [World.cell?,s,XE]
 have G:V.cell? ⟨b,2,none⟩=some (.int .i64 (d+1)):=by simp [World.cell?,s,XE]
 have E:(loadVar 80 ⟨w.heap.size,0,none⟩).run Tryz.prog V.drew=.ok (.agg ⟨T⟩) V.drew:=
  run_loadVar_row V.drew w.heap.size 80 80 ⟨T⟩ (0,0) _ y Tryz.underlying80 rfl (by rw [iE];show some 256=some T.length;rw [q])
 have J:=C V.drew x;clear j z A s x y C l a;subst g i;have D:=λw=>aeq T q (d+1) w;have K:∀(w:World) (r:Option Nat),(binOp .eql 130 (.map r) (.map none)).run Tryz.prog w=.ok (.bool r.isNone) w:=λw r=>run_eql_map_nil w _ _ _ r Tryz.underlying130;clear q I B a5;go_enter Tryz.func66,Tryz.ntmps66;go_wp2_with fail
 refine aaK 11 (by kernel_rfl) (by kernel_rfl) ?_;simp only [List.take_succ_cons,List.take_zero,List.drop_succ_cons,List.drop_zero];iterate 5 still_step
 refine aaD (v:=.agg ⟨T⟩) rfl (by
  have:(Instr.loadAt 80 (.pointer (some ⟨w.heap.size,0,none⟩))).run Tryz.prog (((w.alloc (.cells ⟨T⟩ 80)).setCell ⟨b,2,none⟩ (.int .i64 (d+1))).drew)=.ok (.agg ⟨T⟩) _:=E;show (Sem.bind (Instr.loadAt 80 (.pointer (some ⟨w.heap.size,0,none⟩))) _).run Tryz.prog _=_;rw [Sem.run_bind',this];rfl) ?_
 go_frame;iterate 4 still_step
 refine abx (v:=.agg ⟨T++[.int .i64 (d+1)]⟩) (vs:=#[(0,.agg ⟨T⟩),(1,.int .i64 (d+1))]) rfl rfl (by simp [go_sem,Act.eval]) (D _) ?_;refine wpStill_nil ?_;go_frame;go_wp2_with fail
 go_end0;exact⟨rfl,1,rfl⟩
end
section
open Go.RowKit Go.Den
open Go.ChangeMaps (setBlock)
structure bH(bs:List Nat)(w w':World): Prop where
 size:w.heap.size<=w'.heap.size
 old:∀j,j<w.heap.size->j∉bs->w'.heap[j]?=w.heap[j]?
 os:w'.os=w.os
 tape:w'.tape=w.tape
 output:w'.output=w.output
namespace bH
variable {bs:List Nat} {w u v:World}
theorem refl(bs:List Nat)(w:World): bH bs w w:=⟨Nat.le_refl _,λ_ _ _=>rfl,rfl,rfl,rfl⟩
theorem trans(h:bH bs w u)(k:bH bs u v): bH bs w v:=
 ⟨Nat.le_trans h.size k.size,λj a G=>(k.old j (Nat.lt_of_lt_of_le a h.size) G).trans (h.old j a G),k.os.trans h.os,k.tape.trans h.tape,k.output.trans h.output⟩
theorem ext(h:bH bs w u)(k:mQ u v): bH bs w v:=h.trans ⟨k.size,λj a _=>k.old j a,k.os,k.tape,k.output⟩
theorem mono{cs:List Nat}(h:bH bs w u)(n:∀b∈bs,b∈cs): bH cs w u:=⟨h.size,λj k G=>h.old j k λg=>G (n j g),h.os,h.tape,h.output⟩
theorem alloc(h:bH bs w u)(o:Obj): bH bs w (u.alloc o):=h.ext ((mQ.refl u).alloc o)
theorem drawn(h:bH bs w u)(n:Nat): bH bs w (u.drewN n):=⟨h.size,h.old,h.os,h.tape,h.output⟩
theorem setCell(h:bH bs w u){a:Addr}(x:Value)(C:a.block∈bs\/w.heap.size<=a.block): bH bs w (u.setCell a x):=by refine⟨by simpa [World.setCell]using h.size,λj k G=>?_,h.os,h.tape,h.output⟩;rw [Go.Den.afU _ _ _ _ (by rintro rfl;rcases C with C|C;exact G C;omega)];exact h.old j k G
theorem setRow(h:bH bs w u){g:Nat}(cs:Array Value)(d:g∈bs\/w.heap.size<=g): bH bs w (u.setRow g cs):=by
 refine⟨by simpa [World.setRow]using h.size,λj k G=>?_,h.os,h.tape,h.output⟩;have a:g≠j:=by rintro rfl;rcases d with d|d;exact G d;omega
 simp only [World.setRow,Array.getElem?_modify,a,if_false];exact h.old j k G
theorem setBlock(h:bH bs w u){g:Nat}(o:Obj)(d:g∈bs\/w.heap.size<=g): bH bs w (Go.ChangeMaps.setBlock u g o):=by
 refine⟨by simpa [Go.ChangeMaps.setBlock]using h.size,λj k G=>?_,h.os,h.tape,h.output⟩;have a:g≠j:=by rintro rfl;rcases d with d|d;exact G d;omega
 simp only [Go.ChangeMaps.setBlock,Array.getElem?_setIfInBounds,a,if_false];exact h.old j k G
end bH
theorem jV{t ty:TypeId}{g:Nat}{a cells:Array Value}{w:World}(d:w.heap[g]?=some (.cells a t (0,0)))(m:(Tryz.prog.info? ty).map (·.size)=some cells.size)(b:a.size=cells.size)(e:cells.all (·.oneCell')=true):
  (Instr.storeAt ty (.pointer (some ⟨g,0,none⟩)) (.agg cells)).run Tryz.prog w=.ok () (w.setRow g cells):=by
 simp only [Instr.storeAt,Instr.sureAddr,Sem.run_bind,Sem.run_pure,Result.andThen];exact run_storeVar_row w g t ty a cells d m b e
theorem QQ:V9=Tryz.zeroCells80:=by kernel_rfl
theorem agN:Ry=Tryz.zeroCells134:=by kernel_rfl
theorem afr(w:World): (Instr.alloc 134 true (.tuple #[])).run Tryz.prog w=.ok (.pointer (some ⟨w.heap.size,0,none⟩)) (w.alloc (.cells Ry 134)):=by unfold Instr.alloc;rw [Sem.run_bind,(zero_of_info Ld).1];rfl
theorem adR{w:World}{r:Nat}{a:Array MapEntry}{b:Nat}(e:w.heap[r]?=some (.map a b)){k:ByteArray}(l:Instr.findNow .string (.string k) a.toList 0=some none):
  (Instr.lookup 130 (.map (some r)) (.string k) true).run Tryz.prog w=.ok (.tuple #[.agg Ry,.bool false]) w:=by
 simp [Instr.lookup,run_underlying Tryz.underlying130,MapKept.run_getObj_map e,MapKept.run_checkKey Tryz.underlying33 (af4 k),MapKept.run_findKey Tryz.underlying33 l,Result.andThen,(zero_of_info Ld).1]
theorem aeT(b r:Nat)(k:ByteArray)(c d h m g:Int)(w:World)(j:Array MapEntry)(t:Nat)(ty:TypeId)
  (o:w.heap[b]?=some (.cells (XE c r d h m g) ty (0,0))) (p:w.heap[r]?=some (.map j t)) (O:0<=m) (Q:m<=1000000000000)
  (F:Instr.findNow .string (.string k) j.toList 0=some none) :
  Calls Tryz.prog 27 #[.pointer (some ⟨b,0,none⟩),.string k] w λe w'=>e=.returned (.tuple #[.agg V9,.bool false])/\
   w'.heap[b]?=some (.cells (XE c r d h (m+1) g) ty (0,0))/\bH [b] w w':=by
 have a5:b<w.heap.size:=(Array.getElem?_eq_some_iff.1 o).1;have G:r<w.heap.size:=(Array.getElem?_eq_some_iff.1 p).1;obtain⟨W,a⟩:∃W,W=w.alloc (.cells V9 80):=⟨_,rfl⟩;have J:W.heap.size=w.heap.size+1:=by rw [a];show (w.heap.push _).size=_;simp
 have l:W.heap[b]?=some (.cells (XE c r d h m g) ty (0,0)):=by rw [a,(MapKept.heap_alloc w _).2 b a5];exact o
 have A:W.heap[r]?=some (.map j t):=by rw [a,(MapKept.heap_alloc w _).2 r G];exact p
 have c1:W.cell? ⟨b,1,none⟩=some (.map (some r)):=by simp [World.cell?,l,XE]
 have U:=adR A F;obtain⟨V,f⟩:∃V,V=W.alloc (.cells Ry 134):=⟨_,rfl⟩;have s:V.heap[b]?=some (.cells (XE c r d h m g) ty (0,0)):=by rw [f,(MapKept.heap_alloc W _).2 b (by omega)];exact l
 have z:V.heap[w.heap.size]?=some (.cells V9 80 (0,0)):=by rw [f,(MapKept.heap_alloc W _).2 _ (by omega),a];exact (MapKept.heap_alloc w _).1
 have M:V.cell? ⟨b,4,none⟩=some (.int .i64 m):=by simp [World.cell?,s,XE]
 have N:V.frozen? ⟨b,4,none⟩=false:=by simp [World.frozen?,s]
 obtain⟨Y,i⟩:∃Y,Y=V.setCell ⟨b,4,none⟩ (.int .i64 (m+1)):=⟨_,rfl⟩;have B:Y.heap[b]?=some (.cells (XE c r d h (m+1) g) ty (0,0)):=by rw [i];simp only [World.setCell,Array.getElem?_modify,if_true,s];rfl
 have n:Y.heap[w.heap.size]?=some (.cells V9 80 (0,0)):=by rw [i,heap_setCell_other _ _ _ _ (by show w.heap.size≠b;omega)];exact z
 have a8:=jV (ty:=80) n (by rw [vX];exact iE) rfl agk;have x:bH [b] w (Y.setRow w.heap.size V9):=by rw [i,f,a];exact ((((bH.refl [b] w).alloc _).alloc _).setCell _ (.inl (by simp))).setRow _ (.inr (Nat.le_refl _))
 have D:(Y.setRow w.heap.size V9).heap[b]?=some (.cells (XE c r d h (m+1) g) ty (0,0)):=by
  have:w.heap.size≠b:=by omega
  simp only [World.setRow,Array.getElem?_modify,this,if_false];exact B
 have E:(Y.setRow w.heap.size V9).heap[w.heap.size]?=some (.cells V9 80 (0,0)):=by simp only [World.setRow,Array.getElem?_modify,if_true,n];rfl
 have K:=run_loadVar_row (P:=Tryz.prog) (Y.setRow w.heap.size V9) w.heap.size 80 80 V9 (0,0) _ E Tryz.underlying80 rfl (by rw [vX];exact iE);have y:=x;have C:=D;have L:∀(u:World) (q:Nat),q=u.heap.size->(Instr.storeAt 134 (.pointer (some ⟨q,0,none⟩)) (.agg Ry)).run Tryz.prog (u.alloc (.cells Ry 134))=.ok () (u.alloc (.cells Ry 134)):=by rintro u q rfl;exact run_storeAt_new u 134 Ry Ry (by rw [Wv];exact (zero_of_info Ld).2) rfl (by kernel_rfl)
 clear x D E n B z s A l J o p F G a5;subst i f a;have R:=ww w;have S:=afr (w.alloc (.cells V9 80));have T:=SX;rw [QQ]at *;rw [agN]at *;have H:=Lib.hid y;have I:=Lib.hid C;clear y C;go_enter Tryz.func27,Tryz.ntmps27;go_wp2_with (first
  |(refine bU rfl 134 (.tmp 6) (.tmp 18) rfl rfl rfl (L _ _ (by simp)) ?_)
  |(refine bU rfl 80 (.tmp 4) (.tmp 29) rfl rfl rfl a8 ?_))
 refine bodyPost_ret (v:=.tuple #[.agg Tryz.zeroCells80,.bool false]) ?_ rfl ⟨rfl,I.out,H.out⟩;simp [results,Tryz.results27,asAddr,K,Result.andThen]
end
end Go.Proofs.YtaahejdimjbhhaaGreatDoor
namespace Go.Proofs.YtaahejdimjbhhaaGreatDoor
open Tryz Go.RowKit Go.Den
section
section
variable {ops:Array Oper} {rest:List Oper} {o:Oper} {a:Act} {w:World} {Q:Exit->Act->World->Prop}
theorem KZ(p q:Int)(ty:TypeId)(w:World): (Builtin.max_ #[3,3] ty #[.int .i64 p,.int .i64 q]).run Tryz.prog w=.ok (.int .i64 (max p q)) w:=by
 by_cases h:p<q
 .have e:max p q=q:=by omega
  rw [e];go_simp
 have e:max p q=p:=by omega
 rw [e];go_simp
theorem LJ(p q:Int)(ty:TypeId)(w:World): (Builtin.min_ #[3,3] ty #[.int .i64 p,.int .i64 q]).run Tryz.prog w=.ok (.int .i64 (min p q)) w:=by
 by_cases h:q<p
 .have e:min p q=q:=by omega
  rw [e];go_simp
 have e:min p q=p:=by omega
 rw [e];go_simp
theorem iV(d:o.guard=none)(s x:Operand)(b:o.op=Op.call { callee:=Callee.builtin Builtin.max,args:=#[s,x],argTypes:=#[3,3] }){p q:Int}(n:a.eval s=.int .i64 p)(f:a.eval x=.int .i64 q)
  (h:wpList Tryz.prog ops Q rest (a.put o.dst (.int .i64 (max p q))) w):wpList Tryz.prog ops Q (o::rest) a w:=by
 refine wpList_plain d λK c=>?_;unfold Oper.wp;have e:=KZ p q o.type w;simp [execOp,b,resolve,invoke,builtin,n,f,e,Result.andThen];exact c _ _ h
theorem iG(d:o.guard=none)(s x:Operand)(b:o.op=Op.call { callee:=Callee.builtin Builtin.min,args:=#[s,x],argTypes:=#[3,3] }){p q:Int}(n:a.eval s=.int .i64 p)(f:a.eval x=.int .i64 q)
  (h:wpList Tryz.prog ops Q rest (a.put o.dst (.int .i64 (min p q))) w):wpList Tryz.prog ops Q (o::rest) a w:=by
 refine wpList_plain d λK c=>?_;unfold Oper.wp;have e:=LJ p q o.type w;simp [execOp,b,resolve,invoke,builtin,n,f,e,Result.andThen];exact c _ _ h
end
structure Rc where
 x0:Int
 y0:Int
 x1:Int
 y1:Int
def Rc.v(r:Rc): Value:=.agg #[.int .i64 r.x0,.int .i64 r.y0,.int .i64 r.x1,.int .i64 r.y1]
def Rc.empty(r:Rc): Bool:=decide (r.x1<=r.x0)||decide (r.y1<=r.y0)
def Rc.zero:Rc:=⟨0,0,0,0⟩
def Rc.norm(r:Rc): Rc:=if r.empty then Rc.zero else r
def Rc.meet(a b:Rc): Rc:=(Rc.mk (max a.x0 b.x0) (max a.y0 b.y0) (min a.x1 b.x1) (min a.y1 b.y1)).norm
def Rc.join(a b:Rc): Rc:=if a.empty then b.norm else if b.empty then a else ⟨min a.x0 b.x0,min a.y0 b.y0,max a.x1 b.x1,max a.y1 b.y1⟩
theorem bY{W e:World}(c:bH [] W e): (∀b o,b<W.heap.size->e.cell? ⟨b,o,none⟩=W.cell? ⟨b,o,none⟩)/\(∀b o,b<W.heap.size->e.frozen? ⟨b,o,none⟩=W.frozen? ⟨b,o,none⟩):=by refine⟨λb o h=>?_,λb o h=>?_⟩<;>simp only [World.cell?,World.frozen?,c.old b h (by simp)]
theorem lh{p:Prop}(h:p): RowKit.Hid p:=h
theorem NC(w:World)(o:Obj)(b:Nat): (w.alloc o).heap[b]?=if b=w.heap.size then some o else w.heap[b]?:=by
 by_cases h:b=w.heap.size
 .rw [if_pos h,h];exact heap_alloc_new _ _
 rw [if_neg h];show (w.heap.push o)[b]?=_;rw [Array.getElem?_push,if_neg h]
theorem bN{w:World}{a:Obj}{n:Nat}(h:n=w.heap.size:=by simp): (w.alloc a).heap[n]?=some a:=by rw [NC,if_pos h]
theorem bO{w:World}{a x:Obj}{n:Nat}(h:w.heap[n]?=some x): (w.alloc a).heap[n]?=some x:=by rw [NC,if_neg (λe=>absurd (Array.getElem?_eq_some_iff.1 h).1 (by omega)),h]
theorem bH.ox{w u:World}{i:Nat}{o:Obj}(t:bH [] w u)(h:w.heap[i]?=some o): u.heap[i]?=some o:=(t.old _ (Array.getElem?_eq_some_iff.1 h).1 (by simp)).trans h
theorem ae:type_of% @Array.getElem?_eq_some_iff:=@Array.getElem?_eq_some_iff
theorem ag:type_of% @bodyPost_ret:=@bodyPost_ret
theorem ah:type_of% @List.getElem?_eq_some_iff:=@List.getElem?_eq_some_iff
theorem ai:type_of% @block_lt_of_cell:=@block_lt_of_cell
theorem aj:type_of% @Nat.lt_of_lt_of_le:=@Nat.lt_of_lt_of_le
theorem ak:type_of% @decide_eq_false:=@decide_eq_false
theorem au:type_of% @Array.getElem?_modify:=@Array.getElem?_modify
theorem az:type_of% @Bool.and_eq_true:=@Bool.and_eq_true
theorem aA:type_of% @cell_of_row:=@cell_of_row
theorem aB:type_of% @List.getElem?_eq_getElem:=@List.getElem?_eq_getElem
theorem aC:type_of% @decide_eq_true:=@decide_eq_true
theorem aF:type_of% @if_neg:=@if_neg
theorem aG:type_of% @if_pos:=@if_pos
theorem aH:type_of% @List.mem_of_getElem?:=@List.mem_of_getElem?
theorem aI:type_of% @World.size_alloc:=@World.size_alloc
theorem aJ:type_of% @List.length_map:=@List.length_map
theorem aK:type_of% @Nat.le_trans:=@Nat.le_trans
theorem aN:type_of% @List.mem_singleton:=@List.mem_singleton
theorem aO:type_of% @List.length_append:=@List.length_append
theorem aP:type_of% @List.getElem?_map:=@List.getElem?_map
theorem aQ:type_of% @Nat.le_refl:=@Nat.le_refl
theorem aS:type_of% @List.mem_cons:=@List.mem_cons
theorem aT:type_of% @List.take_succ_eq_append_getElem:=@List.take_succ_eq_append_getElem
theorem aU:type_of% @Nat.not_lt_zero:=@Nat.not_lt_zero
theorem aV:type_of% @List.mem_append:=@List.mem_append
theorem aW:type_of% @List.not_mem_nil:=@List.not_mem_nil
theorem aX:type_of% @List.mem_range:=@List.mem_range
theorem aY:type_of% @List.take_of_length_le:=@List.take_of_length_le
theorem aZ:type_of% @List.all_eq_true:=@List.all_eq_true
theorem bg:type_of% @And.intro:=@And.intro
theorem bi:type_of% @List.findIdx?_eq_some_iff_getElem:=@List.findIdx?_eq_some_iff_getElem
theorem bn:type_of% @List.getElem?_eq_none_iff:=@List.getElem?_eq_none_iff
theorem bu:type_of% @List.mem_iff_getElem?:=@List.mem_iff_getElem?
theorem bC:type_of% @List.getElem?_eq_none:=@List.getElem?_eq_none
theorem bD:type_of% @List.getElem?_append_left:=@List.getElem?_append_left
theorem bG:type_of% @List.getElem?_append_right:=@List.getElem?_append_right
theorem _root_.Go.RowKit.Hid.o{p:Prop}(h:Go.RowKit.Hid p): p:=h.out
theorem tR(w:World): bH [] w w:=bH.refl [] w
theorem bH.here{b:List Nat}{w u:World}(_:bH b w u): bH [] u u:=bH.refl [] u
theorem bH.sc{b:List Nat}{w u:World}{a:Addr}{v:Value}(h:bH b w u)(g:w.heap.size<=a.block:=by dsimp only;omega): bH b w (u.setCell a v):=h.setCell v (.inr g)
theorem bH.call{P:Program}{f:FuncId}{args:Array Value}{w W:World}{v:Ending}{Q:Ending->World->Prop}(T:bH [] W w)(h:Calls P f args w λe w'=>e=v/\bH [] w w')(k:∀w',bH [] W w'->(∀b o,b<W.heap.size->w'.cell? ⟨b,o,none⟩=W.cell? ⟨b,o,none⟩)->(∀b o,b<W.heap.size->w'.frozen? ⟨b,o,none⟩=W.frozen? ⟨b,o,none⟩)->Q v w'): Calls P f args w Q:=
 h.mono λe w' g=>by obtain⟨rfl,c⟩:=g;obtain⟨d,l⟩:=bY (T.trans c);exact k w' (T.trans c) d l
theorem tq{W u:World}{b o:Nat}{v:Value}(c:∀b o,b<W.heap.size->u.cell? ⟨b,o,none⟩=W.cell? ⟨b,o,none⟩)(q:W.cell? ⟨b,o,none⟩=some v): u.cell? ⟨b,o,none⟩=some v:=(c b o (block_lt_of_cell q)).trans q
theorem tc{W u:World}{b o:Nat}{v:Value}(h:bH [] W u)(q:W.cell? ⟨b,o,none⟩=some v): u.cell? ⟨b,o,none⟩=some v:=tq (bY h).1 q
theorem cAt{w:World}{g:Nat}(i:Nat){L:Array Value}{t:TypeId}{z:Nat×Nat}{v:Value}(h:w.heap[g]?=some (.cells L t z))(e:L[i]?=some v): w.cell? ⟨g,i,none⟩=some v:=by rw [cell_of_row _ _ _ _ _ _ h];exact e
theorem Rf{w W:World}{A:Array Value}{s:TypeId}(h:W=w.alloc (.cells A s)): W.heap[w.heap.size]?=some (.cells A s (0,0)):=by subst h;exact heap_alloc_new _ _
theorem JK{w W:World}{b c:Array Value}{s0 s1:TypeId}(h:W=(w.alloc (.cells b s0)).alloc (.cells c s1)): W.heap[w.heap.size]?=some (.cells b s0 (0,0))/\W.heap[w.heap.size+1]?=some (.cells c s1 (0,0)):=by
 subst h;simp only [NC,World.size_alloc];refine⟨?_,?_⟩
 .rw [if_neg (by omega),if_pos (by first|trivial|omega)]
 rw [if_pos (by first|trivial|omega)]
theorem DD{w W:World}{b c d:Array Value}{s0 s1 s2:TypeId}(h:W=((w.alloc (.cells b s0)).alloc (.cells c s1)).alloc (.cells d s2)): W.heap[w.heap.size]?=some (.cells b s0 (0,0))/\W.heap[w.heap.size+1]?=some (.cells c s1 (0,0))/\W.heap[w.heap.size+2]?=some (.cells d s2 (0,0)):=by
 subst h;simp only [NC,World.size_alloc];refine⟨?_,?_,?_⟩
 .rw [if_neg (by omega),if_neg (by omega),if_pos (by first|trivial|omega)]
 .rw [if_neg (by omega),if_pos (by first|trivial|omega)]
 rw [if_pos (by first|trivial|omega)]
theorem WE{w:World}{g:Nat}{a0 b:Value}{t:TypeId}{z:Nat×Nat}(h:w.heap[g]?=some (.cells #[a0,b] t z)): w.cell? ⟨g,0,none⟩=some a0/\w.cell? ⟨g,1,none⟩=some b:=⟨cAt 0 h rfl,cAt 1 h rfl⟩
theorem WP{w:World}{g:Nat}{a0 b j:Value}{t:TypeId}{z:Nat×Nat}(h:w.heap[g]?=some (.cells #[a0,b,j] t z)): w.cell? ⟨g,0,none⟩=some a0/\w.cell? ⟨g,1,none⟩=some b/\w.cell? ⟨g,2,none⟩=some j:=⟨cAt 0 h rfl,cAt 1 h rfl,cAt 2 h rfl⟩
theorem GX{w:World}{g:Nat}{a0 b j a3:Value}{t:TypeId}{z:Nat×Nat}(h:w.heap[g]?=some (.cells #[a0,b,j,a3] t z)): w.cell? ⟨g,0,none⟩=some a0/\w.cell? ⟨g,1,none⟩=some b/\w.cell? ⟨g,2,none⟩=some j/\w.cell? ⟨g,3,none⟩=some a3:=⟨cAt 0 h rfl,cAt 1 h rfl,cAt 2 h rfl,cAt 3 h rfl⟩
theorem WT{w:World}{g:Nat}{a0 b j a3 a4:Value}{t:TypeId}{z:Nat×Nat}(h:w.heap[g]?=some (.cells #[a0,b,j,a3,a4] t z)): w.cell? ⟨g,0,none⟩=some a0/\w.cell? ⟨g,1,none⟩=some b/\w.cell? ⟨g,2,none⟩=some j/\w.cell? ⟨g,3,none⟩=some a3/\w.cell? ⟨g,4,none⟩=some a4:=⟨cAt 0 h rfl,cAt 1 h rfl,cAt 2 h rfl,cAt 3 h rfl,cAt 4 h rfl⟩
theorem WY{w:World}{g:Nat}{a0 b j a3 a4 a5:Value}{t:TypeId}{z:Nat×Nat}(h:w.heap[g]?=some (.cells #[a0,b,j,a3,a4,a5] t z)): w.cell? ⟨g,0,none⟩=some a0/\w.cell? ⟨g,1,none⟩=some b/\w.cell? ⟨g,2,none⟩=some j/\w.cell? ⟨g,3,none⟩=some a3/\w.cell? ⟨g,4,none⟩=some a4/\w.cell? ⟨g,5,none⟩=some a5:=⟨cAt 0 h rfl,cAt 1 h rfl,cAt 2 h rfl,cAt 3 h rfl,cAt 4 h rfl,cAt 5 h rfl⟩
theorem Qh{w:World}{g:Nat}{a0 b j a3 a4 a5 c:Value}{t:TypeId}{z:Nat×Nat}(h:w.heap[g]?=some (.cells #[a0,b,j,a3,a4,a5,c] t z)): w.cell? ⟨g,0,none⟩=some a0/\w.cell? ⟨g,1,none⟩=some b/\w.cell? ⟨g,2,none⟩=some j/\w.cell? ⟨g,3,none⟩=some a3/\w.cell? ⟨g,4,none⟩=some a4/\w.cell? ⟨g,5,none⟩=some a5/\w.cell? ⟨g,6,none⟩=some c:=⟨cAt 0 h rfl,cAt 1 h rfl,cAt 2 h rfl,cAt 3 h rfl,cAt 4 h rfl,cAt 5 h rfl,cAt 6 h rfl⟩
instance:Coe Int Value:=⟨λx=>.int .i64 x⟩
instance:Coe Nat Value:=⟨λx=>.int .i64 (x:Int)⟩
instance:Coe World Nat:=⟨λw=>w.heap.size⟩
section
variable {p:Prop}
theorem gn(h:p:=by omega): p:=h
theorem lz(h:p:=by simp): p:=h
theorem lB(h:p:=by kernel_rfl): p:=h
theorem lD(h:p:=by simp [IntKind.wrap,IntKind.bits,IntKind.signed];omega): p:=h
theorem lE(h:p:=by dsimp only;omega): p:=h
theorem lF(h:p:=by constructor<;>first|rfl|exact (o.Xp (by omega)).1.symm|exact (o.Xp (by omega)).2.symm|exact (o.Xq (by omega)).symm|exact (o.noof (by omega)).symm|exact (o.Xr (by omega)).symm|exact (o.Xo (by omega)).1.symm|exact (o.Xo (by omega)).2.1.symm|exact (o.Xo (by omega)).2.2.1.symm|exact (o.Xo (by omega)).2.2.2.1.symm|exact (o.Xo (by omega)).2.2.2.2.symm): p:=h
theorem lG(h:p:=by decide): p:=h
theorem lH(h:p:=by rw [f];exact⟨((tR w).a _).a _,(((bH.refl [] (w.alloc (.cells ⟨XV.row⟩ 51))).a _).old _ (by simp) (by simp)).t (heap_alloc_new _ _),by rw [show w.heap.size+1=(w.alloc (.cells ⟨XV.row⟩ 51)).heap.size by simp];exact heap_alloc_new _ _⟩): p:=h
theorem lI(h:p:=by intro w' C;obtain⟨Y,Z,⟨f3,f4⟩,f5,f6,f7,f8,f9,ZH⟩:=S.o w' C;go_simp): p:=h
theorem lK(h:p:=by simp [bI.row]): p:=h
theorem lL(h:p:=by first|trivial|omega): p:=h
theorem lO(h:p:=by simp;omega): p:=h
theorem lP(h:p:=by first|rfl|(simp;done)|(simp_all;done)): p:=h
theorem lS(h:p:=by first|rfl|(simp;done)|(simp;omega)): p:=h
theorem lT(h:p:=by rcases n with h|rfl;exact aj h l.o.1;exact l.o.2): p:=h
theorem lU(h:p:=by first|rfl|(simp;done)): p:=h
theorem lW(h:p:=by simp [Value.oneCell']): p:=h
theorem lX(h:p:=by simp only [aS]at e;rcases e with rfl|rfl|e;omega;omega;have:=aw b e;omega): p:=h
theorem me(h:p:=by rw [gV (by omega) (by omega)];omega): p:=h
theorem mh(h:p:=by rcases n with h|h;exact absurd h (Nat.not_lt.2 (aw q s));exact G q s h): p:=h
theorem mo(h:p:=by simp [dI,Value.ownBlock]): p:=h
theorem mq(h:p:=by rw [m];simp): p:=h
theorem ms(h:p:=by simp [results,results54,go_sem,I,L,M,N,S,O]): p:=h
theorem mu(h:p:=by simp [go_sem]): p:=h
theorem mv(h:p:=by have:=p.o;omega): p:=h
theorem mw(h:p:=by unfold Instr.alloc;rw [Sem.run_bind,(zero_of_info oV).1];rfl): p:=h
theorem mx(h:p:=by simpa using c): p:=h
theorem my(h:p:=by have j:=(bY l).1;have z0:=(j y 0 U).t P;have z1:=(j y 1 U).t Q;have z2:=(j y 2 U).t R;have z3:=(j y 3 U).t S;go_simp): p:=h
theorem mz(h:p:=by first|rfl|(simp_all;done)|(simp;omega)): p:=h
theorem mB(h:p:=by rw [VR];omega): p:=h
theorem mC(h:p:=by simp [results,results21,go_sem,J,K]): p:=h
theorem mE(h:p:=by have h1:(Qz x).length<=10:=Lib.uvarint_length64 (AZ x);have h2:(Qz y).length<=10:=Lib.uvarint_length64 (AZ y);simp only [Le,List.flatMap_cons,List.flatMap_nil,aO,En,List.length_nil,Zj,List.length_cons];omega): p:=h
theorem mH(h:p:=by simpa using d): p:=h
theorem mI(h:p:=by have h0:=a8.o;simp;omega): p:=h
theorem mK(h:p:=by rw [aA _ _ _ _ _ _ Z.o.h1];rfl): p:=h
theorem mL(h:p:=by rw [b.o];simp;omega): p:=h
theorem mN(h:p:=by rw [aA _ _ _ _ _ _ d];rfl): p:=h
theorem mT(h:p:=by rw [show zeroCells181.size=258 by kernel_rfl];exact ao.symm): p:=h
theorem mU(h:p:=by rw [<-n.agZ];exact bJ k rfl): p:=h
theorem mV(h:p:=by simp [results,results229,go_sem,c]): p:=h
theorem na(h:p:=by have g:=(bY j).1;have y:=(g w.heap.size 0 A).t a0;go_simp): p:=h
theorem nc(h:p:=by rw [m];simp [go_sem]): p:=h
theorem nf(h:p:=by rw [aA _ _ _ _ _ _ ((T.old _ (by omega) (λR=>by have:=Z.o _ R;omega)).t P.h4)];rfl): p:=h
theorem ng(h:p:=by rw [aA _ _ _ _ _ _ ((T.old _ (by omega) (λR=>by have:=Z.o _ R;omega)).t P.h0)];rfl): p:=h
theorem nh(h:p:=by have e0:=X.out _ z;have e1:=D1.out _ z;have e2:=D2.out _ z;have e3:=N.out _ z;go_simp): p:=h
theorem nj(h:p:=by simpa using i): p:=h
theorem nk(h:p:=by have:=HN.o;omega): p:=h
theorem nm(h:p:=by rw [aA _ _ _ _ _ _ f];rfl): p:=h
theorem np(h:p:=by rw [<-D];kernel_rfl): p:=h
theorem nt(h:p:=by simp [results,results131,go_sem,a]): p:=h
theorem nu(h:p:=by simp only [World.setRow,au,Ne.symm a,if_false]): p:=h
theorem nv(h:p:=by simp [b9]): p:=h
theorem nz(h:p:=by simp [results,results53,go_sem,j,k,l,u,x,y,z]): p:=h
theorem nA(h:p:=by rw [aA _ _ _ _ _ _ b7];rfl): p:=h
theorem nB(h:p:=by simp [results,results24,asAddr,H]): p:=h
theorem nE(h:p:=by rw [ao];exact (zero_of_info oV).2): p:=h
theorem nF(h:p:=by rw [aA _ _ _ _ _ _ b];exact n.o _ (by omega)): p:=h
theorem nI(h:p:=by unfold wrap64;simp [IntKind.wrap,IntKind.bits,IntKind.signed];omega): p:=h
theorem nJ(h:p:=by go_simp): p:=h
theorem nK(h:p:=by simpa using g): p:=h
theorem nL(h:p:=by rw [aA _ _ _ _ _ _ c];rfl): p:=h
theorem nM(h:p:=by rw [aA _ _ _ _ _ _ U];rfl): p:=h
theorem nO(h:p:=by rw [aA _ _ _ _ _ _ B];rfl): p:=h
theorem nQ(h:p:=by simp only [Le,List.flatMap_cons,List.flatMap_nil,aO,En,List.length_nil];simp only [YA,BA,List.length_cons,List.length_nil];omega): p:=h
theorem nR(h:p:=by rw [List.all_eq_false];exact⟨z,by rw [<-N.o];simp [List.getD,show k<ks.length by rw [<-x.o];exact a5],by simp [lm];omega⟩): p:=h
theorem nU(h:p:=by rw [List.all_eq_false];exact⟨z,by rw [<-c.o];simp [List.getD,show k<a.length by rw [q.o];exact a5],by simp [lm];omega⟩): p:=h
theorem nV(h:p:=by simp [results,results64,go_sem,M,N,Q,O]): p:=h
theorem nW(h:p:=by first|exact ((((tR w).a _).a _).a _)): p:=h
theorem nY(h:p:=by refine⟨P.t.setCell _ (.inr (aQ _)),?_⟩;simp only [World.setCell,au,if_true,P.h];simp [Lib.byteCells,List.map_set]): p:=h
theorem ob(h:p:=by have:=Z9 l q;simp only [Le,List.flatMap_append,List.flatMap_cons,List.flatMap_nil,aO,En,List.length_nil]at *;omega): p:=h
theorem oc(h:p:=by have:=a9.o;simp;omega): p:=h
theorem od(h:p:=by rw [hW];simp): p:=h
theorem oe(h:p:=by rw [h.agY.1];simp [df.ids]): p:=h
theorem oi(h:p:=by have:=ww u;rwa [QQ]at this): p:=h
theorem oj(h:p:=by rw [M.o _ (by omega),Nat.mul_comm]): p:=h
theorem om(h:p:=by simpa using h): p:=h
theorem oo(h:p:=by rcases u with rfl|rfl<;>omega): p:=h
theorem ot(h:p:=by rcases C with rfl|rfl<;>omega): p:=h
theorem ou(h:p:=by have:=q.o;omega): p:=h
theorem oA(h:p:=by rw [(bY T).1 _ _ (ai h)];exact h): p:=h
theorem oB(h:p:=by intro v k;simp only [aS,aW,or_false]at k;rcases k with h|h|h|h|h|h|h<;>subst h<;>rfl): p:=h
theorem oC(h:p:=by rw [aA _ _ _ _ _ _ h,Nat.zero_add];simpa using a): p:=h
theorem oE(h:p:=by (try simp only [aO,List.length_singleton]);omega): p:=h
theorem oF(h:p:=by simp only [Le,List.flatMap_cons,List.flatMap_nil,aO,En,List.length_nil,XF,List.length_cons];omega): p:=h
theorem oH(h:p:=by have:=a0.o;simp;omega): p:=h
theorem oQ(h:p:=by rw [(jA HT.o).len];exact (zero_of_info oV).2): p:=h
theorem oR(h:p:=by simp [g]): p:=h
theorem oS(h:p:=by simpa using C): p:=h
theorem oT(h:p:=by have:=ar.o;omega): p:=h
theorem oU(h:p:=by simp only [aI];omega): p:=h
theorem oX(h:p:=by simp only [World.setCell,au,if_true,h];rfl): p:=h
theorem oY(h:p:=by rw [qj]at i;simp at i;omega): p:=h
theorem pd(h:p:=by simp only;omega): p:=h
theorem pe(h:p:=by rw [aA _ _ _ _ _ _ b8];rfl): p:=h
theorem pg(h:p:=by simp [results,results172,go_sem,I,J,K,L]): p:=h
theorem ph(h:p:=by rw [(bY (m.t T)).1 _ _ (ai q3)];exact q3): p:=h
theorem pi(h:p:=by rw [(bY (m.t T)).1 _ _ (ai q2)];exact q2): p:=h
theorem pj(h:p:=by rw [(bY (m.t T)).1 _ _ (ai q1)];exact q1): p:=h
theorem pl(h:p:=by rw [aA _ _ _ _ _ _ n];rfl): p:=h
theorem pm(h:p:=by apply ByteArray.ext;simp): p:=h
theorem po(h:p:=by simp [kW]): p:=h
theorem pp(h:p:=by rw [m];simp only [Xx,aI];rw [aF (by omega),aG (by first|trivial|omega)]): p:=h
theorem pq(h:p:=by rw [iE];show some 256=some ((fG f).map (Value.int .u8)).length;rw [aJ,a4.1]): p:=h
theorem pr(h:p:=by rw [List.getElem?_cons_succ];exact e): p:=h
theorem pu(h:p:=by simpa using j): p:=h
theorem pw(h:p:=by have:=V.size;simp;omega): p:=h
theorem pC(h:p:=by have:=a7.o;omega): p:=h
theorem pE(h:p:=by rw [<-HX.o];simpa using L 0 _ rfl): p:=h
theorem pG(h:p:=by rw [iE];show some 256=some (f.map (Value.int .u8)).length;rw [aJ,ac.1]): p:=h
theorem pJ(h:p:=by rw [iE];show some 256=some (a.map (Value.int .u8)).length;rw [aJ,b.1]): p:=h
theorem pN(h:p:=by simp [results,results44,go_sem,k]): p:=h
theorem pP(h:p:=by rw [(bY f).1 _ _ n];simp [go_sem]): p:=h
theorem pQ(h:p:=by have:=(ah.1 F).1;have:=HN.o;omega): p:=h
theorem pR(h:p:=by rw [b7];simp [go_sem]): p:=h
theorem pS(h:p:=by simp only [execOp,e,b,m,Sem.run_bind,C,Result.andThen,Sem.run_pure]): p:=h
theorem pT(h:p:=by simp [ao];omega): p:=h
theorem pV(h:p:=by have:=h.1;omega): p:=h
theorem pY(h:p:=by have:=B.o;omega): p:=h
theorem pZ(h:p:=by show (u.heap.push o).size=_;simp): p:=h
theorem qb(h:p:=by rw [iE];show some 256=some (f.map (Value.int .u8)).length;rw [ay]): p:=h
theorem qc(h:p:=by simp at h): p:=h
theorem qe(h:p:=by rw [<-q.o];exact a5): p:=h
theorem qg(h:p:=by simp [results,results56,go_sem]): p:=h
theorem qh(h:p:=by simp only [List.length_cons,List.length_nil]at J;have:=q.o;omega): p:=h
theorem qk(h:p:=by injection ha with ha;subst ha;simp [dI,Value.ownBlock]at H;omega): p:=h
theorem qm(h:p:=by simpa using h3): p:=h
theorem qn(h:p:=by rw [m.out];rfl): p:=h
theorem qo(h:p:=by rw [aN]at H;subst H;exact bd E): p:=h
theorem qq(h:p:=by rw [Int.natAbs_mul];exact Nat.mul_le_mul (by omega) (by omega)): p:=h
theorem qr(h:p:=by rw [j.o];simp;omega): p:=h
theorem qs(h:p:=by rw [m];simp only [Xx,aI];rw [aG (by first|trivial|omega)]): p:=h
theorem qt(h:p:=by rw [q.o,List.take_length];rfl): p:=h
theorem qu(h:p:=by rw [E.o,l,List.append_nil];exact⟨S.o.t.t i,S.o.own.u i⟩): p:=h
theorem qv(h:p:=by simpa using G): p:=h
theorem qw(h:p:=by have:=V.size;omega): p:=h
theorem qx(h:p:=by rw [<-HY.o];exact L 1 _ rfl): p:=h
theorem qz(h:p:=by rw [aN]at E;subst E;exact ap): p:=h
theorem qA(h:p:=by injection E with E;injection E with e1 e2;exact⟨e1,e2⟩): p:=h
theorem qC(h:p:=by rw [aA _ _ _ _ 181 (0,0) (heap_alloc_new wr _),<-a4];rfl): p:=h
theorem qD(h:p:=by rw [aA _ _ _ _ 181 (0,0) (heap_alloc_new wr _),<-N];rfl): p:=h
theorem qE(h:p:=by rw [c.o];rfl): p:=h
theorem qF(h:p:=by rw [N.o];rfl): p:=h
theorem qH(h:p:=by simp only [List.length_cons,List.length_nil]at X;omega): p:=h
theorem qL(h:p:=by simp only [List.length_cons,List.length_nil]at Q;omega): p:=h
theorem qQ(h:p:=by show (match c[i]? with|some t=>_|none=>_)=_;rw [d]): p:=h
theorem qR(h:p:=by rw [YT]at h;injection h with _ h;rw [<-h];exact t.a _): p:=h
theorem qS(h:p:=by simp [World.setCell,au,h]): p:=h
theorem qT(h:p:=by rw [aA _ _ _ _ _ _ C];rfl): p:=h
theorem qV(h:p:=by intro w' j;obtain⟨B,C,D,E⟩:=(f.o.u j).rc;go_simp): p:=h
theorem qX(h:p:=by intro w' f;obtain⟨G,H,I,J⟩:=(b.o.u f).rc;go_simp): p:=h
theorem qZ(h:p:=by obtain⟨e1,e2⟩:=hz.out h0;rw [aM.o,e2,<-e1];rfl): p:=h
theorem rd(h:p:=by rw [s];simp): p:=h
theorem re(h:p:=by simp [World.frozen?,P.h]): p:=h
theorem rg(h:p:=by rw [n];exact (tR wr).a _): p:=h
theorem rh(h:p:=by rw [f];exact (tR wr).a _): p:=h
theorem rj(h:p:=by have:=O.o;omega): p:=h
theorem rm(h:p:=by simp [World.cell?,g,XE]): p:=h
theorem rn(h:p:=by rw [m];exact (tR w).a _): p:=h
theorem ro(h:p:=by rw [Nat.mul_comm];exact Nat.div_add_mod j k.size): p:=h
theorem rp(h:p:=by have L:=cP 1 _ (N.o _ m).1;rw [S.o]at L;go_simp): p:=h
theorem rs(h:p:=by rw [HE.o.1,HE.o.2];rfl): p:=h
theorem ru(h:p:=by unfold bI.Like at h;rw [h];exact⟨rfl,rfl⟩): p:=h
theorem rv(h:p:=by simp only [World.setRow,au,if_true,c.res];rfl): p:=h
theorem rz(h:p:=by have:=HG.o 3;exact dN _ (by omega) (by omega)): p:=h
theorem rA(h:p:=by have:=HG.o 2;exact dN _ (by omega) (by omega)): p:=h
theorem rC(h:p:=by have:=HG.o 1;exact dN _ (by omega) (by omega)): p:=h
theorem rF(h:p:=by have:=HG.o 0;exact dN _ (by omega) (by omega)): p:=h
theorem rH(h:p:=by rw [hW];simp [go_sem]): p:=h
theorem rI(h:p:=by rw [(bY ((tR wr).a _)).1 _ _ (ai W)];exact W): p:=h
theorem rJ(h:p:=by cases g): p:=h
theorem rK(h:p:=by simpa using b): p:=h
theorem rL(h:p:=by simpa using J): p:=h
theorem rM(h:p:=by simp [results,results92,go_sem,z0,z1,z2,z3]): p:=h
theorem rN(h:p:=by simp [results,results184,go_sem,C,c1,c2,c3]): p:=h
theorem rR(h:p:=by simp [List.getD,show j<ks.length by omega]): p:=h
theorem rS(h:p:=by rw [(bY t).1 g _ (ai (D j k))];exact D j k): p:=h
theorem rT(h:p:=by unfold Yg Yd;rw [List.map_append];exact z): p:=h
theorem r7(h:p:=by simp only [World.setRow,au,if_true,d];rfl): p:=h
theorem sa(h:p:=by simp only [World.setRow,au,if_true,c];rfl): p:=h
theorem sd(h:p:=by rw [b7];simp): p:=h
theorem se(h:p:=by rw [M.o];rfl): p:=h
theorem sg(h:p:=by rw [Q,w];exact aQ _): p:=h
theorem sh(h:p:=by have:=Z.o q S;omega): p:=h
theorem si(h:p:=by simp [results,results99,go_sem,y0,y1,y2]): p:=h
theorem sj(h:p:=by rw [Aw t.o (by rw [l.o];simp;omega)];rfl): p:=h
theorem sk(h:p:=by rw [(bY (m.t T)).1 _ _ (ai q0)];exact q0): p:=h
theorem sl(h:p:=by simp [results,results92,go_sem,B,J,Q,D]): p:=h
theorem so(h:p:=by simp [results,results22,go_sem,C,J,Q,D]): p:=h
theorem sq(h:p:=by simp [i]): p:=h
theorem sr(h:p:=by simp [h]): p:=h
theorem sw(h:p:=by simp [b]): p:=h
theorem sy(h:p:=by simp [intOf];omega): p:=h
theorem sB(h:p:=by simp [List.getD,k]): p:=h
theorem sC(h:p:=by rw [aP,a3.o.1];rfl): p:=h
theorem sE(h:p:=by have:=n.o.lt;omega): p:=h
theorem sF(h:p:=by rw [c];simp): p:=h
theorem sG(h:p:=by rw [F];simp): p:=h
theorem sI(h:p:=by simp [results,results99,go_sem,B,J,Q]): p:=h
theorem sJ(h:p:=by show b.toArray.size=64;simpa using hb): p:=h
theorem sK(h:p:=by simp [dC.row,a.1]): p:=h
theorem sL(h:p:=by simp [dC.row,I.1]): p:=h
theorem sM(h:p:=by have:=G.o.1;omega): p:=h
theorem sP(h:p:=by have:=(h.2.lt g d).1;simp at e;omega): p:=h
theorem sS(h:p:=by unfold Oper.wp;rw [C];exact c _ _ h): p:=h
theorem sT(h:p:=by simp [results,results45,go_sem,L,M]): p:=h
theorem sW(h:p:=by simp [results,results106,go_sem,c3]): p:=h
theorem sX(h:p:=by show w.heap.size<=J;exact HN.o.2.2): p:=h
theorem sY(h:p:=by cases h): p:=h
theorem ta(h:p:=by rw [Xv,Xv]): p:=h
theorem td(h:p:=by simp at hb;omega): p:=h
theorem te(h:p:=by simp +contextual): p:=h
theorem tf(h:p:=by have:=aa.o;omega): p:=h
theorem tg(h:p:=by have:=a5.o;omega): p:=h
theorem th(h:p:=by have:=P.lt;omega): p:=h
theorem tl(h:p:=by simp [results,results260,go_sem,i]): p:=h
theorem tm(h:p:=by simp [results,results259,go_sem,i]): p:=h
theorem tp(h:p:=by simp [results,results196,go_sem,i]): p:=h
theorem tw(h:p:=by simp [results,results195,go_sem,i]): p:=h
theorem tB(h:p:=by simp [results,results152,go_sem,d]): p:=h
theorem tD(h:p:=by rw [(bY T).1 _ _ (ai q0)];exact q0): p:=h
theorem tE(h:p:=by have:=a9.o.2;simp [List.getD,this]): p:=h
theorem tF(h:p:=by rw [m,aag,aO,aaj];have:=N.o;omega): p:=h
theorem tG(h:p:=by rw [Bool.eq_false_iff];simp;omega): p:=h
theorem tI(h:p:=by simp [lm];omega): p:=h
theorem tJ(h:p:=by simpa [dI,Value.ownBlock]using f): p:=h
theorem tL(h:p:=by simp [results,results274,go_sem]): p:=h
theorem tM(h:p:=by simp [results,results105,go_sem]): p:=h
theorem tN(h:p:=by rw [<-q,ByteArray.append_assoc]): p:=h
theorem tO(h:p:=by first|exact p.o.u ((tR w).a _)): p:=h
theorem tP(h:p:=by simp at a): p:=h
theorem tQ(h:p:=by simp [results,results55,go_sem]): p:=h
theorem tS(h:p:=by simp [Act.eval,Array.replicate]): p:=h
theorem tT(h:p:=by rw [a9.o (by rw [M.o];rfl)];rfl): p:=h
theorem tU(h:p:=by have:=z.out.lt;have:=z.lt;omega): p:=h
theorem tV(h:p:=by have:=(ae.1 c.row).1;exact this): p:=h
theorem tX(h:p:=by simp only [aI]): p:=h
theorem ua(h:p:=by rw [n.out];rfl): p:=h
theorem ub(h:p:=by rw [h.o];omega): p:=h
theorem uc(h:p:=by unfold vU nS;rw [P.o];simp [h]): p:=h
theorem ud(h:p:=by unfold bI.Like at h;rw [h];rfl): p:=h
theorem uh(h:p:=by rw [<-Yu,List.append_assoc,A]): p:=h
theorem uj(h:p:=by rw [N.o];unfold aa4;rw [s];rfl): p:=h
theorem ul(h:p:=by unfold df.ids;rw [aP,X.o];rfl): p:=h
theorem um(h:p:=by simp [Nat.shiftLeft_eq];omega): p:=h
theorem un(h:p:=by rw [(zero_of_info aa9).2];rfl): p:=h
theorem uo(h:p:=by simp [d]): p:=h
theorem up(h:p:=by simp [C]): p:=h
theorem ur(h:p:=by simpa using v): p:=h
theorem uv(h:p:=by simpa using l): p:=h
theorem uw(h:p:=by simpa using k): p:=h
theorem ux(h:p:=by rw [this];rfl): p:=h
theorem uy(h:p:=by rw [s1];omega): p:=h
theorem uz(h:p:=by rw [aT h];simp [List.getD,h]): p:=h
theorem uA(h:p:=by rw [List.take_zero,aaq,acH]): p:=h
theorem uB(h:p:=by unfold YO;simp only;rw [b]): p:=h
theorem uE(h:p:=by cases e;exact⟨rfl,rfl⟩): p:=h
end
abbrev BAr:=ByteArray
theorem lh3{p q r:Prop}(e:p)(b:q)(f:r): Hid p/\Hid q/\Hid r:=⟨lh e,lh b,lh f⟩
theorem lh4{p q r s:Prop}(e:p)(b:q)(f:r)(g:s): Hid p/\Hid q/\Hid r/\Hid s:=⟨lh e,lh b,lh f,lh g⟩
theorem lh5{p q r s t:Prop}(e:p)(b:q)(f:r)(g:s)(l:t): Hid p/\Hid q/\Hid r/\Hid s/\Hid t:=⟨lh e,lh b,lh f,lh g,lh l⟩
theorem lh6{p q r s t u:Prop}(e:p)(b:q)(f:r)(g:s)(l:t)(c:u): Hid p/\Hid q/\Hid r/\Hid s/\Hid t/\Hid u:=⟨lh e,lh b,lh f,lh g,lh l,lh c⟩
theorem lh7{p q r s t u v:Prop}(e:p)(b:q)(f:r)(g:s)(l:t)(c:u)(d:v): Hid p/\Hid q/\Hid r/\Hid s/\Hid t/\Hid u/\Hid v:=⟨lh e,lh b,lh f,lh g,lh l,lh c,lh d⟩
theorem lh8{p q r s t u v x:Prop}(e:p)(b:q)(f:r)(g:s)(l:t)(c:u)(d:v)(h:x): Hid p/\Hid q/\Hid r/\Hid s/\Hid t/\Hid u/\Hid v/\Hid x:=⟨lh e,lh b,lh f,lh g,lh l,lh c,lh d,lh h⟩
theorem YE{w W:World}{x0:Obj}(h:W=w.alloc x0): W.heap[w.heap.size]?=some x0:=h▸bN
theorem fU{w W:World}{x0 x1:Obj}(h:W=(w.alloc x0).alloc x1): W.heap[w.heap.size]?=some x0:=h▸bO bN
theorem dJ{w W:World}{x0 x1 x2:Obj}(h:W=((w.alloc x0).alloc x1).alloc x2): W.heap[w.heap.size]?=some x0:=h▸bO (bO bN)
theorem iI{w W:World}{x0 x1 x2 x3:Obj}(h:W=(((w.alloc x0).alloc x1).alloc x2).alloc x3): W.heap[w.heap.size]?=some x0:=h▸bO (bO (bO bN))
theorem jM{w W:World}{x0 x1 x2 x3 x4:Obj}(h:W=((((w.alloc x0).alloc x1).alloc x2).alloc x3).alloc x4): W.heap[w.heap.size]?=some x0:=h▸bO (bO (bO (bO bN)))
theorem ZH{w W:World}{x0 x1:Obj}(h:W=(w.alloc x0).alloc x1): W.heap[w.heap.size+1]?=some x1:=h▸bN
theorem Z5{w W:World}{x0 x1 x2:Obj}(h:W=((w.alloc x0).alloc x1).alloc x2): W.heap[w.heap.size+1]?=some x1:=h▸bO bN
theorem jk{w W:World}{x0 x1 x2 x3:Obj}(h:W=(((w.alloc x0).alloc x1).alloc x2).alloc x3): W.heap[w.heap.size+1]?=some x1:=h▸bO (bO bN)
theorem jL{w W:World}{x0 x1 x2 x3 x4:Obj}(h:W=((((w.alloc x0).alloc x1).alloc x2).alloc x3).alloc x4): W.heap[w.heap.size+1]?=some x1:=h▸bO (bO (bO bN))
theorem iR{w W:World}{x0 x1 x2:Obj}(h:W=((w.alloc x0).alloc x1).alloc x2): W.heap[w.heap.size+2]?=some x2:=h▸bN
theorem Zi{w W:World}{x0 x1 x2:Obj}(h:W=((w.alloc x0).alloc x1).alloc x2): W.heap[w.heap.size+1+1]?=some x2:=h▸bN
theorem jF{w W:World}{x0 x1 x2 x3:Obj}(h:W=(((w.alloc x0).alloc x1).alloc x2).alloc x3): W.heap[w.heap.size+2]?=some x2:=h▸bO bN
theorem acL{w W:World}{x0 x1 x2 x3:Obj}(h:W=(((w.alloc x0).alloc x1).alloc x2).alloc x3): W.heap[w.heap.size+1+1]?=some x2:=h▸bO bN
theorem jI{w W:World}{x0 x1 x2 x3 x4:Obj}(h:W=((((w.alloc x0).alloc x1).alloc x2).alloc x3).alloc x4): W.heap[w.heap.size+2]?=some x2:=h▸bO (bO bN)
theorem agA{w W:World}{x0 x1 x2 x3 x4:Obj}(h:W=((((w.alloc x0).alloc x1).alloc x2).alloc x3).alloc x4): W.heap[w.heap.size+1+1]?=some x2:=h▸bO (bO bN)
theorem jX{w W:World}{x0 x1 x2 x3:Obj}(h:W=(((w.alloc x0).alloc x1).alloc x2).alloc x3): W.heap[w.heap.size+3]?=some x3:=h▸bN
theorem acI{w W:World}{x0 x1 x2 x3:Obj}(h:W=(((w.alloc x0).alloc x1).alloc x2).alloc x3): W.heap[w.heap.size+1+1+1]?=some x3:=h▸bN
theorem kM{w W:World}{x0 x1 x2 x3 x4:Obj}(h:W=((((w.alloc x0).alloc x1).alloc x2).alloc x3).alloc x4): W.heap[w.heap.size+3]?=some x3:=h▸bO bN
theorem agD{w W:World}{x0 x1 x2 x3 x4:Obj}(h:W=((((w.alloc x0).alloc x1).alloc x2).alloc x3).alloc x4): W.heap[w.heap.size+1+1+1]?=some x3:=h▸bO bN
theorem kL{w W:World}{x0 x1 x2 x3 x4:Obj}(h:W=((((w.alloc x0).alloc x1).alloc x2).alloc x3).alloc x4): W.heap[w.heap.size+4]?=some x4:=h▸bN
theorem agu{w W:World}{x0 x1 x2 x3 x4:Obj}(h:W=((((w.alloc x0).alloc x1).alloc x2).alloc x3).alloc x4): W.heap[w.heap.size+1+1+1+1]?=some x4:=h▸bN
theorem mR{P:Program}{f:FuncId}{a:Array Value}{w:World}{x:Ending}{R:World->Prop}{K:Ending->World->Prop}(h:Calls P f a w λe w'=>e=x/\R w')(k:∀w',R w'->K x w'): Calls P f a w K:=h.mono λe w' t=>t.1▸k w' t.2
theorem mS{P:Program}{f:FuncId}{a:Array Value}{w:World}{x:Ending}{R:World->Prop}{K:Ending->World->Prop}(h:Calls P f a w λe w'=>e=x/\R w')(k:K x w)(r:∀w',R w'->w'=w:=by intro _ h;first|exact h|exact h.symm): Calls P f a w K:=h.mono λe w' t=>t.1▸r _ t.2▸k
theorem eX{α:Sort _}(x:α): ∃y,y=x:=⟨x,rfl⟩
theorem lR(k:Nat){P:Program}{ops:Array Oper}{rest:List Oper}{o:Oper}{a:Act}{w:World}{Q:Exit->Act->World->Prop}{t:TypeId}{x:Operand}{p v:Value}{G:Prop}(C:(Instr.loadAt t p).run P w=.ok v w)(h:G)(E:o.dst=some k:=by rfl)(d:o.guard=none:=by rfl)(e:o.op=.load t x:=by rfl)(f:a.eval x=p:=by rfl)(b:wpList P ops Q rest (a.put o.dst v) w=G:=by (try go_frame);exact rfl): wpList P ops Q (o::rest) a w:=
 wpList_plain d λK c=>by unfold Oper.wp;simp only [execOp,e,f,Sem.run_bind,C,Result.andThen];exact c _ _ (b.mpr h)
theorem sR{P:Program}{ops:Array Oper}{rest:List Oper}{o:Oper}{a:Act}{w w':World}{Q:Exit->Act->World->Prop}{t:TypeId}{x y:Operand}{p v:Value}{G:Prop}(C:(Instr.storeAt t p v).run P w=.ok () w')(h:G)(d:o.guard=none:=by rfl)(e:o.op=.store t x y:=by rfl)(f:a.eval x=p:=by rfl)(g:a.eval y=v:=by rfl)(b:wpList P ops Q rest (a.put o.dst undef) w'=G:=by (try go_frame);exact rfl): wpList P ops Q (o::rest) a w:=
 wpList_plain d λK c=>by unfold Oper.wp;simp [execOp,e,f,g,C,Result.andThen];exact c _ _ (b.mpr h)
theorem yR(k:Nat){P:Program}{ops:Array Oper}{rest:List Oper}{o:Oper}{a:Act}{w w':World}{Q:Exit->Act->World->Prop}{v:Value}{G:Prop}(C:(execOp a.eval o).run P w=.ok (.value v) w')(h:G)(E:o.dst=some k:=by rfl)(d:o.guard=none:=by rfl)(b:wpList P ops Q rest (a.put o.dst v) w'=G:=by (try go_frame);exact rfl): wpList P ops Q (o::rest) a w:=
 wpList_plain d λK c=>by unfold Oper.wp;rw [C];exact c _ _ (b.mpr h)
theorem yA(k:Nat)(v:Value)(w':World){P:Program}{ops:Array Oper}{rest:List Oper}{l:Op}{ty:TypeId}{ps:String}{b:Array Edge}{g:Option (Tmp×Bool)}{a:Act}{w:World}{Q:Exit->Act->World->Prop}(C:(execOp a.eval ⟨some k,l,ty,ps,b,g⟩).run P w=.ok (.value v) w')(h:wpList P ops Q rest (a.put (some k) v) w')(d:g=none:=by rfl): wpList P ops Q (⟨some k,l,ty,ps,b,g⟩::rest) a w:=
 wpList_plain d λK c=>by unfold Oper.wp;rw [C];exact c _ _ h
theorem gK{K:Act->World->Prop}{S:World->Prop}{R:Act->World->Prop}{p:Prop}{A:Act}{W:World}{G:Prop}(k:∀b w',(p->S w')->R b w'->K b w')(H:S W)(h:G)(c:R A W=G:=by (try go_frame);exact rfl): K A W:=k _ _ (λ_=>H) (c.mpr h)
theorem gZ{K:Act->World->Prop}{S:World->Prop}{R:Act->World->Prop}{z:Nat}{A:Act}{W:World}{G:Prop}(k:∀b w',(z≠z->S w')->R b w'->K b w')(h:G)(c:R A W=G:=by (try go_frame);exact rfl): K A W:=k _ _ (λh=>absurd rfl h) (c.mpr h)
theorem _root_.Eq.t{α:Sort _}{a b c:α}(h:a=b)(k:b=c): a=c:=h.trans k
abbrev AL(t:TypeId)(z:Array Value): Prop:=∀u:World,(Instr.alloc t true (.tuple #[])).run prog u=.ok (.pointer (some ⟨u,0,none⟩)) (u.alloc (.cells z t))
theorem bH.a{b:List Nat}{u v:World}(h:bH b u v)(o:Obj): bH b u (v.alloc o):=h.alloc o
theorem mQ.a{u v:World}(h:mQ u v)(o:Obj): mQ u (v.alloc o):=h.alloc o
theorem bH.t{b:List Nat}{u v w:World}(h:bH b u v)(k:bH b v w): bH b u w:=h.trans k
abbrev CR(f:FuncId)(a:Array Value)(w:World)(v:Value): Prop:=Calls prog f a w λe w'=>e=.returned v/\bH [] w w'
theorem iF(r:Rc)(w:World): Calls prog 68 #[r.v] w λe w'=>e=.returned (.bool r.empty)/\bH [] w w':=by
 obtain⟨c,f,d,g⟩:=r;unfold Rc.v Rc.empty;by_cases b:d<=c
 .go_enter func68,ntmps68;go_wp2_with fail
  go_ret;exact⟨by simp [b],(bH.refl _ _).alloc _⟩
 go_enter func68,ntmps68;go_wp2_with fail
 go_ret;exact⟨by simp;omega,(bH.refl _ _).alloc _⟩
theorem tY(r:Rc)(w:World): Calls prog 189 #[r.v] w λe w'=>e=.returned r.norm.v/\bH [] w w':=by
 cases g:r.empty with
 |true=>
  have k:=iF r;rw [g]at k;obtain⟨d,h,f,i⟩:=r;unfold Rc.norm;rw [g,if_pos rfl];simp only [Rc.v,Rc.zero]at *;have j:=lh k;clear k g;have c:bH [] _ _:=((tR w).alloc (.cells #[d,h,f,i] 59)).alloc (.cells #[(0:Int),(0:Int),(0:Int),(0:Int)] 59);have b:=c.here;go_enter func189,ntmps189;go_wp2_with (go_at_call 68;refine b.call (j.out _) ?_;intro n b l m)
  have b:=c.trans b;refine bodyPost_ret (v:=.agg #[(0:Int),(0:Int),(0:Int),(0:Int)]) (by simp [results,results189,go_sem,l]) rfl ⟨rfl,((((b.sc).sc).sc).sc)⟩
 |false=>
  have k:=iF r;rw [g]at k;obtain⟨d,h,f,i⟩:=r;unfold Rc.norm;rw [g,if_neg (by simp)];simp only [Rc.v]at *;have j:=lh k;clear k g;have c:bH [] _ _:=((tR w).alloc (.cells #[d,h,f,i] 59)).alloc (.cells #[(0:Int),(0:Int),(0:Int),(0:Int)] 59);have b:=c.here;go_enter func189,ntmps189;go_wp2_with (go_at_call 68;refine b.call (j.out _) ?_;intro n b l m)
  have b:=c.trans b;refine bodyPost_ret (v:=.agg #[d,h,f,i]) (by simp [results,results189,go_sem,l]) rfl ⟨rfl,((((b.sc).sc).sc).sc)⟩
theorem xJ(a b:Rc)(w:World): Calls prog 128 #[a.v,b.v] w λe w'=>e=.returned (a.meet b).v/\bH [] w w':=by
 have G:=tY (Rc.mk (max a.x0 b.x0) (max a.y0 b.y0) (min a.x1 b.x1) (min a.y1 b.y1));have p:(Rc.mk (max a.x0 b.x0) (max a.y0 b.y0) (min a.x1 b.x1) (min a.y1 b.y1)).norm=a.meet b:=rfl;rw [p]at G;clear p;obtain⟨f,h,g,i⟩:=a;obtain⟨j,l,k,n⟩:=b;generalize (Rc.mk f h g i).meet ⟨j,l,k,n⟩=m at *;obtain⟨t,u,x,y⟩:=m;simp only [Rc.v]at *;have q:=lh G;clear G;have d:bH [] _ _:=(((tR w).alloc (.cells #[f,h,g,i] 59)).alloc (.cells #[j,l,k,n] 59)).alloc (.cells #[(0:Int),(0:Int),(0:Int),(0:Int)] 59);have c:=d.here;go_enter func128,ntmps128;go_wp2_with (first
  |(refine iV rfl _ _ rfl rfl rfl ?_)
  |(refine iG rfl _ _ rfl rfl rfl ?_)
  |(go_at_call 189;refine c.call (q.out _) ?_;intro A c s z))
 have c:=d.trans c;refine bodyPost_ret (v:=.agg #[t,u,x,y]) (by simp [results,results128,go_sem,s]) rfl ⟨rfl,((((c.sc).sc).sc).sc)⟩
theorem xG(a b:Rc)(w:World): Calls prog 185 #[a.v,b.v] w λe w'=>e=.returned (a.join b).v/\bH [] w w':=by
 have d:=iF a;have h:=iF b;have G:=tY b;cases C:a.empty with
 |true=>
  have k:a.join b=b.norm:=by simp [Rc.join,C]
  rw [k];rw [C]at d;generalize b.norm=m,b.empty=I at *;clear k C;obtain⟨i,l,j,n⟩:=a;obtain⟨p,s,q,t⟩:=b;obtain⟨D,E,F,H⟩:=m;simp only [Rc.v]at *;have B:=lh G;have y:=lh d;have Z:=lh h;clear G d h;have g:bH [] _ _:=(((tR w).alloc (.cells #[i,l,j,n] 59)).alloc (.cells #[p,s,q,t] 59)).alloc (.cells #[(0:Int),(0:Int),(0:Int),(0:Int)] 59);have c:=g.here;go_enter func185,ntmps185;go_wp2_with (first
   |(go_at_call 68;with_reducible refine c.call (y.out _) ?_;intro z c f x)
   |(go_at_call 68;with_reducible refine c.call (Z.out _) ?_;intro A c f x)
   |(go_at_call 189;refine c.call (B.out _) ?_;intro J c f x))
  have c:=g.trans c;refine bodyPost_ret (v:=.agg #[D,E,F,H]) (by simp [results,results185,go_sem,f]) rfl ⟨rfl,((((c.sc).sc).sc).sc)⟩
 |false=>
  cases u:b.empty with
  |true=>
   have k:a.join b=a:=(by simp [Rc.join,C,u]);rw [k];rw [C]at d;rw [u]at h;clear k C u G;obtain⟨i,l,j,n⟩:=a;obtain⟨p,s,q,t⟩:=b;simp only [Rc.v]at *;have y:=lh d;have Z:=lh h;clear d h;have g:bH [] _ _:=(((tR w).alloc (.cells #[i,l,j,n] 59)).alloc (.cells #[p,s,q,t] 59)).alloc (.cells #[(0:Int),(0:Int),(0:Int),(0:Int)] 59);have c:=g.here;go_enter func185,ntmps185;go_wp2_with (first
    |(go_at_call 68;with_reducible refine c.call (y.out _) ?_;intro z c f x)
    |(go_at_call 68;with_reducible refine c.call (Z.out _) ?_;intro A c f x))
   have c:=g.trans c;refine bodyPost_ret (v:=.agg #[i,l,j,n]) (by simp [results,results185,go_sem,f]) rfl ⟨rfl,((((c.sc).sc).sc).sc)⟩
  |false=>
   have k:a.join b=⟨min a.x0 b.x0,min a.y0 b.y0,max a.x1 b.x1,max a.y1 b.y1⟩:=(by simp [Rc.join,C,u]);rw [k];rw [C]at d;rw [u]at h;clear k C u G;obtain⟨i,l,j,n⟩:=a;obtain⟨p,s,q,t⟩:=b;simp only [Rc.v]at *;have y:=lh d;have Z:=lh h;clear d h;have g:bH [] _ _:=(((tR w).alloc (.cells #[i,l,j,n] 59)).alloc (.cells #[p,s,q,t] 59)).alloc (.cells #[(0:Int),(0:Int),(0:Int),(0:Int)] 59);have c:=g.here;go_enter func185,ntmps185;go_wp2_with (first
    |(refine iV rfl _ _ rfl rfl rfl ?_)
    |(refine iG rfl _ _ rfl rfl rfl ?_)
    |(go_at_call 68;with_reducible refine c.call (y.out _) ?_;intro z c f x)
    |(go_at_call 68;with_reducible refine c.call (Z.out _) ?_;intro A c f x))
   have c:=g.trans c;refine bodyPost_ret (v:=.agg #[.int .i64 (min i p),.int .i64 (min l s),.int .i64 (max j q),.int .i64 (max n t)]) (by simp [results,results185,go_sem,f]) rfl ⟨rfl,((((c.sc).sc).sc).sc)⟩
theorem iM(r:Rc)(w:World): Calls prog 111 #[r.v] w λe w'=>e=.returned (.bool r.empty)/\bH [] w w':=by
 obtain⟨c,f,d,g⟩:=r;unfold Rc.v Rc.empty;by_cases b:d<=c
 .go_enter func111,ntmps111;go_wp2_with fail
  go_ret;exact⟨by simp [b],(bH.refl _ _).alloc _⟩
 go_enter func111,ntmps111;go_wp2_with fail
 go_ret;exact⟨by simp;omega,(bH.refl _ _).alloc _⟩
theorem vK(r:Rc)(w:World): Calls prog 224 #[r.v] w λe w'=>e=.returned r.norm.v/\bH [] w w':=by
 cases g:r.empty with
 |true=>
  have k:=iM r;rw [g]at k;obtain⟨d,h,f,i⟩:=r;unfold Rc.norm;rw [g,if_pos rfl];simp only [Rc.v,Rc.zero]at *;have j:=lh k;clear k g;have c:bH [] _ _:=((tR w).alloc (.cells #[d,h,f,i] 59)).alloc (.cells #[(0:Int),(0:Int),(0:Int),(0:Int)] 59);have b:=c.here;go_enter func224,ntmps224;go_wp2_with (go_at_call 111;refine b.call (j.out _) ?_;intro n b l m)
  have b:=c.trans b;refine bodyPost_ret (v:=.agg #[(0:Int),(0:Int),(0:Int),(0:Int)]) (by simp [results,results224,go_sem,l]) rfl ⟨rfl,((((b.sc).sc).sc).sc)⟩
 |false=>
  have k:=iM r;rw [g]at k;obtain⟨d,h,f,i⟩:=r;unfold Rc.norm;rw [g,if_neg (by simp)];simp only [Rc.v]at *;have j:=lh k;clear k g;have c:bH [] _ _:=((tR w).alloc (.cells #[d,h,f,i] 59)).alloc (.cells #[(0:Int),(0:Int),(0:Int),(0:Int)] 59);have b:=c.here;go_enter func224,ntmps224;go_wp2_with (go_at_call 111;refine b.call (j.out _) ?_;intro n b l m)
  have b:=c.trans b;refine bodyPost_ret (v:=.agg #[d,h,f,i]) (by simp [results,results224,go_sem,l]) rfl ⟨rfl,((((b.sc).sc).sc).sc)⟩
theorem Gl(a b:Rc)(w:World): Calls prog 149 #[a.v,b.v] w λe w'=>e=.returned (a.meet b).v/\bH [] w w':=by
 have G:=vK (Rc.mk (max a.x0 b.x0) (max a.y0 b.y0) (min a.x1 b.x1) (min a.y1 b.y1));have p:(Rc.mk (max a.x0 b.x0) (max a.y0 b.y0) (min a.x1 b.x1) (min a.y1 b.y1)).norm=a.meet b:=rfl;rw [p]at G;clear p;obtain⟨f,h,g,i⟩:=a;obtain⟨j,l,k,n⟩:=b;generalize (Rc.mk f h g i).meet ⟨j,l,k,n⟩=m at *;obtain⟨t,u,x,y⟩:=m;simp only [Rc.v]at *;have q:=lh G;clear G;have d:bH [] _ _:=(((tR w).alloc (.cells #[f,h,g,i] 59)).alloc (.cells #[j,l,k,n] 59)).alloc (.cells #[(0:Int),(0:Int),(0:Int),(0:Int)] 59);have c:=d.here;go_enter func149,ntmps149;go_wp2_with (first
  |(refine iV rfl _ _ rfl rfl rfl ?_)
  |(refine iG rfl _ _ rfl rfl rfl ?_)
  |(go_at_call 224;refine c.call (q.out _) ?_;intro A c s z))
 have c:=d.trans c;refine bodyPost_ret (v:=.agg #[t,u,x,y]) (by simp [results,results149,go_sem,s]) rfl ⟨rfl,((((c.sc).sc).sc).sc)⟩
theorem BX(a b:Rc)(w:World): Calls prog 226 #[a.v,b.v] w λe w'=>e=.returned (a.join b).v/\bH [] w w':=by
 have d:=iM a;have h:=iM b;have G:=vK b;cases C:a.empty with
 |true=>
  have k:a.join b=b.norm:=by simp [Rc.join,C]
  rw [k];rw [C]at d;generalize b.norm=m,b.empty=I at *;clear k C;obtain⟨i,l,j,n⟩:=a;obtain⟨p,s,q,t⟩:=b;obtain⟨D,E,F,H⟩:=m;simp only [Rc.v]at *;have B:=lh G;have y:=lh d;have Z:=lh h;clear G d h;have g:bH [] _ _:=(((tR w).alloc (.cells #[i,l,j,n] 59)).alloc (.cells #[p,s,q,t] 59)).alloc (.cells #[(0:Int),(0:Int),(0:Int),(0:Int)] 59);have c:=g.here;go_enter func226,ntmps226;go_wp2_with (first
   |(go_at_call 111;with_reducible refine c.call (y.out _) ?_;intro z c f x)
   |(go_at_call 111;with_reducible refine c.call (Z.out _) ?_;intro A c f x)
   |(go_at_call 224;refine c.call (B.out _) ?_;intro J c f x))
  have c:=g.trans c;refine bodyPost_ret (v:=.agg #[D,E,F,H]) (by simp [results,results226,go_sem,f]) rfl ⟨rfl,((((c.sc).sc).sc).sc)⟩
 |false=>
  cases u:b.empty with
  |true=>
   have k:a.join b=a:=(by simp [Rc.join,C,u]);rw [k];rw [C]at d;rw [u]at h;clear k C u G;obtain⟨i,l,j,n⟩:=a;obtain⟨p,s,q,t⟩:=b;simp only [Rc.v]at *;have y:=lh d;have Z:=lh h;clear d h;have g:bH [] _ _:=(((tR w).alloc (.cells #[i,l,j,n] 59)).alloc (.cells #[p,s,q,t] 59)).alloc (.cells #[(0:Int),(0:Int),(0:Int),(0:Int)] 59);have c:=g.here;go_enter func226,ntmps226;go_wp2_with (first
    |(go_at_call 111;with_reducible refine c.call (y.out _) ?_;intro z c f x)
    |(go_at_call 111;with_reducible refine c.call (Z.out _) ?_;intro A c f x))
   have c:=g.trans c;refine bodyPost_ret (v:=.agg #[i,l,j,n]) (by simp [results,results226,go_sem,f]) rfl ⟨rfl,((((c.sc).sc).sc).sc)⟩
  |false=>
   have k:a.join b=⟨min a.x0 b.x0,min a.y0 b.y0,max a.x1 b.x1,max a.y1 b.y1⟩:=(by simp [Rc.join,C,u]);rw [k];rw [C]at d;rw [u]at h;clear k C u G;obtain⟨i,l,j,n⟩:=a;obtain⟨p,s,q,t⟩:=b;simp only [Rc.v]at *;have y:=lh d;have Z:=lh h;clear d h;have g:bH [] _ _:=(((tR w).alloc (.cells #[i,l,j,n] 59)).alloc (.cells #[p,s,q,t] 59)).alloc (.cells #[(0:Int),(0:Int),(0:Int),(0:Int)] 59);have c:=g.here;go_enter func226,ntmps226;go_wp2_with (first
    |(refine iV rfl _ _ rfl rfl rfl ?_)
    |(refine iG rfl _ _ rfl rfl rfl ?_)
    |(go_at_call 111;with_reducible refine c.call (y.out _) ?_;intro z c f x)
    |(go_at_call 111;with_reducible refine c.call (Z.out _) ?_;intro A c f x))
   have c:=g.trans c;refine bodyPost_ret (v:=.agg #[.int .i64 (min i p),.int .i64 (min l s),.int .i64 (max j q),.int .i64 (max n t)]) (by simp [results,results226,go_sem,f]) rfl ⟨rfl,((((c.sc).sc).sc).sc)⟩
end
