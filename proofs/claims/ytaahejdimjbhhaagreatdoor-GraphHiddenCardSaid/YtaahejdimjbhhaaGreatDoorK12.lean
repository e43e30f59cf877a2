import Derived.Deep.CutBlock
import Derived.Test.YtaahejdimjbhhaaGreatDoorK11
set_option maxRecDepth 100000
set_option maxHeartbeats 0
set_option linter.all false
namespace Go.Proofs.YtaahejdimjbhhaaGreatDoor
open Tryz Go.RowKit Go.Den
open Go.Value renaming slice->ca,int->cb,agg->cd,bool->ce,pointer->cf
open Option renaming some->cg,none->ch
open Go renaming World->ci,zero_of_info->cj,Value->ck,run_loadAt_mid->cl,Addr->cm,run_loadVar_row->co,wpList_load_mid->cp,Calls->cq,binOp->cr,asAddr->ct,Ending->cv
open Go.Obj renaming cells->cw
open Go.Proofs.Tryz renaming underlying51->cx,prog->cy,underlying22->cz
open Bool renaming false->cB,true->cD
open Go.Ending renaming returned->cE
open Go.RowKit renaming intOf->cF
theorem UW:(prog.info? 3).map (λi=>(i.zero,i.size,i.bytes))=cg (cg (cb .i64 0),1,8):=lB
def fF:kD:=⟨3,1,8,(0:Int),UW,rfl,by decide,by decide,by decide⟩
def kw(k:kD)(w:ci)(A:Option cm)(a:List (List ck)): Prop:=∀j r,a[j]?=cg r->∃g o,A=cg ⟨g,o,ch⟩/\w.rangeAt g (o+j*k.size) r
theorem kw.u{k:kD}{w w':ci}{A:Option cm}{a:List (List ck)}(h:kw k w A a)(T:bH [] w w'): kw k w' A a:=λj r C=>by obtain⟨g,o,e,f⟩:=h j r C;exact⟨g,o,e,fJ T f⟩
theorem kw.nil{k:kD}{w:ci}{a:List (List ck)}(h:kw k w ch a): a=[]:=by
 cases a with
 |nil=>rfl
 |cons r a=>
  obtain⟨g,o,e,_⟩:=h 0 r rfl;cases e
theorem kw.some{k:kD}{w:ci}{a:cm}{b:List (List ck)}(h:kw k w (.some a) b): ∃g o,(b≠[]->a=⟨g,o,ch⟩)/\∀j r,b[j]?=.some r->w.rangeAt g (o+j*k.size) r:=by
 cases b with
 |nil=>exact⟨0,0,λh=>absurd rfl h,λj r h=>qc⟩
 |cons r b=>
  obtain⟨g,o,e,_⟩:=h 0 r rfl;injection e with e;refine⟨g,o,λ_=>e,λj r C=>?_⟩;obtain⟨O,R,c,f⟩:=h j r C;rw [e]at c;injection c with c;injection c with l z _;subst l;subst z;exact f
def zA(k:kD)(w w':ci)(a:List (List ck))(e:cv): Prop:=∃v,e=cE v/\iK k w' w.heap.size v a
theorem lQ(k:kD)(u:ci): iK k (u.alloc (cw #[] k.e)) u.heap.size (ca (cg ⟨u,0,ch⟩) 0 0) []:=
 ⟨λr h=>qc,lz,.inr ⟨_,_,_,_,rfl,aQ _,heap_alloc_new _ _,aQ _,gn,lz,λj v a=>tP⟩⟩
theorem vM{k:kD}{t:TypeId}(E:prog.underlying t=cg (.slice k.e)){w:ci}{base:Nat}{v:ck}{l news:List (List ck)}(h:iK k w base v l)(a:cm)(cap:Nat)(f:∀r∈news,k.Row r)
  (y:kw k w (cg a) news) (x:base<=w.heap.size) (G:l.length+news.length<=100000) (ty:TypeId) :
  ∃d w',(Builtin.append_ #[t,t] ty #[v,ca (cg a) news.length cap]).run cy w=.ok d w'/\iK k w' base d (l++news)/\bH (dI v) w w'/\(∀g∈dI d,g∈dI v\/w.heap.size<=g):=by
 obtain⟨i,Z,I,H,F⟩:=k.info;have m:news.flatten.length=news.length*k.size:=by rw [oz λr C=>(f r C).len]
 obtain⟨g,o,q,B⟩:=y.some;have s:∀j,j<news.length*k.size->a=⟨g,o,ch⟩:=λj c=>q (λe=>by rw [e]at c;simp at c);obtain⟨d,w',n,z,N,p⟩:=oq (P:=cy) (ty:=ty) E Z I H F k.hz k.hs h.2 a news.length cap news.flatten m (λj u b=>by
  have c:j<news.length*k.size:=by rw [<-m];exact (ah.1 b).1
  have D:j/k.size<news.length:=Nat.div_lt_of_lt_mul (by rw [Nat.mul_comm];exact c);have C:=Nat.mod_lt j k.hs;have A:j/k.size*k.size+j%k.size=j:=ro
  rw [<-A,kP (λr C=>(f r C).len) _ _ C]at b;have G:news[j/k.size]?=cg news[j/k.size]:=aB D;rw [G]at b;rw [s j c,Addr.add_lit];have:=B _ _ G _ u b;rw [show o+j=o+j/k.size*k.size+j%k.size by omega];exact this) (λu b=>by
  obtain⟨r,C,b⟩:=List.mem_flatten.1 b;exact (f r C).one u b) (aK G lG) (by
  have:=k.hc;have:(l.length+news.length)*k.bytes<=100000*4096:=Nat.mul_le_mul G this;omega) x
 refine⟨d,w',n,⟨λr C=>?_,?_⟩,N,p⟩
 .rcases aV.1 C with C|C
  .exact h.1 r C
  exact f r C
 rw [aO,List.flatten_append];exact z
theorem BK(b:List (List ck))(A:Option cm)(cap:Nat)(C:∀r∈b,fF.Row r)(G:b.length<=50000)(w:ci)(h:kw fF w A b): cq cy 207 #[ca A b.length cap] w λe w'=>zA fF w w' b e/\bH [] w w':=by
 cases A with
 |none=>
  obtain rfl:=h.nil;clear h C G;simp only [List.length_nil];have m:(cr .eql 22 (ca ch 0 cap) (ca ch 0 0)).run cy w=.ok (ce cD) w:=Lib.run_eql_slice_nil w _ _ ch _ _ _ _ cz;go_enter func207,ntmps207;go_wp2;go_ret;exact⟨⟨_,rfl,jU _ _ _⟩,bH.refl _ _⟩
 |some a=>
  have m:(cr .eql 22 (ca (cg a) b.length cap) (ca ch 0 0)).run cy w=.ok (ce cB) w:=Lib.run_eql_slice_nil w _ _ (cg a) _ _ _ _ cz;have c:=(tR w).alloc (cw #[] fF.e);obtain⟨p,w',l,z,N,_⟩:=vM (t:=22) cz (lQ fF w) a cap C (h.u c) lz lO 22;have d:bH [] w w':=fH c N (λg i=>oY);have f:∀u,(Instr.buildSlice 22 0 #[]).run cy u=.ok (ca (cg ⟨u,0,ch⟩) 0 0) (u.alloc (cw #[] fF.e)):=λu=>lB
  obtain⟨j,Z,k⟩:=lh3 (bg z d) f l;clear z N d c h C G f l;generalize b.length=n at *;go_enter func207,ntmps207;go_wp2_with (first
   |(refine bQ rfl (gm (vs:=#[]) rfl rfl (Z.o _)) ?_;try go_frame)
   |(at_builtin;refine bQ rfl (dL (v:=ca (cg ⟨w,0,ch⟩) 0 0) (y:=ca (cg a) n cap) (.tmp 5) (.tmp 6) 22 rfl rfl rfl k.o) ?_;try go_frame))
  go_ret;exact⟨⟨_,rfl,j.o.1⟩,j.o.2⟩
theorem Oe(b:List (List ck))(A:Option cm)(cap:Nat)(C:∀r∈b,kK.Row r)(G:b.length<=50000)(w:ci)(h:kw kK w A b): cq cy 208 #[ca A b.length cap] w λe w'=>zA kK w w' b e/\bH [] w w':=by
 cases A with
 |none=>
  obtain rfl:=h.nil;clear h C G;simp only [List.length_nil];have m:(cr .eql 46 (ca ch 0 cap) (ca ch 0 0)).run cy w=.ok (ce cD) w:=Lib.run_eql_slice_nil w _ _ ch _ _ _ _ underlying46;go_enter func208,ntmps208;go_wp2;go_ret;exact⟨⟨_,rfl,jU _ _ _⟩,bH.refl _ _⟩
 |some a=>
  have m:(cr .eql 46 (ca (cg a) b.length cap) (ca ch 0 0)).run cy w=.ok (ce cB) w:=Lib.run_eql_slice_nil w _ _ (cg a) _ _ _ _ underlying46;have c:=(tR w).alloc (cw #[] kK.e);obtain⟨p,w',l,z,N,_⟩:=vM (t:=46) underlying46 (lQ kK w) a cap C (h.u c) lz lO 46;have d:bH [] w w':=fH c N (λg i=>oY);have f:∀u,(Instr.buildSlice 46 0 #[]).run cy u=.ok (ca (cg ⟨u,0,ch⟩) 0 0) (u.alloc (cw #[] kK.e)):=λu=>lB
  obtain⟨j,Z,k⟩:=lh3 (bg z d) f l;clear z N d c h C G f l;generalize b.length=n at *;go_enter func208,ntmps208;go_wp2_with (first
   |(refine bQ rfl (gm (vs:=#[]) rfl rfl (Z.o _)) ?_;try go_frame)
   |(at_builtin;refine bQ rfl (dL (v:=ca (cg ⟨w,0,ch⟩) 0 0) (y:=ca (cg a) n cap) (.tmp 5) (.tmp 6) 46 rfl rfl rfl k.o) ?_;try go_frame))
  go_ret;exact⟨⟨_,rfl,j.o.1⟩,j.o.2⟩
theorem Hm(b:List (List ck))(A:Option cm)(cap:Nat)(C:∀r∈b,fF.Row r)(G:b.length<=50000)(w:ci)(h:kw fF w A b): cq cy 209 #[ca A b.length cap] w λe w'=>zA fF w w' b e/\bH [] w w':=by
 cases A with
 |none=>
  obtain rfl:=h.nil;clear h C G;simp only [List.length_nil];have m:(cr .eql 41 (ca ch 0 cap) (ca ch 0 0)).run cy w=.ok (ce cD) w:=Lib.run_eql_slice_nil w _ _ ch _ _ _ _ underlying41;go_enter func209,ntmps209;go_wp2;go_ret;exact⟨⟨_,rfl,jU _ _ _⟩,bH.refl _ _⟩
 |some a=>
  have m:(cr .eql 41 (ca (cg a) b.length cap) (ca ch 0 0)).run cy w=.ok (ce cB) w:=Lib.run_eql_slice_nil w _ _ (cg a) _ _ _ _ underlying41;have c:=(tR w).alloc (cw #[] fF.e);obtain⟨p,w',l,z,N,_⟩:=vM (t:=41) underlying41 (lQ fF w) a cap C (h.u c) lz lO 41;have d:bH [] w w':=fH c N (λg i=>oY);have f:∀u,(Instr.buildSlice 41 0 #[]).run cy u=.ok (ca (cg ⟨u,0,ch⟩) 0 0) (u.alloc (cw #[] fF.e)):=λu=>lB
  obtain⟨j,Z,k⟩:=lh3 (bg z d) f l;clear z N d c h C G f l;generalize b.length=n at *;go_enter func209,ntmps209;go_wp2_with (first
   |(refine bQ rfl (gm (vs:=#[]) rfl rfl (Z.o _)) ?_;try go_frame)
   |(at_builtin;refine bQ rfl (dL (v:=ca (cg ⟨w,0,ch⟩) 0 0) (y:=ca (cg a) n cap) (.tmp 5) (.tmp 6) 41 rfl rfl rfl k.o) ?_;try go_frame))
  go_ret;exact⟨⟨_,rfl,j.o.1⟩,j.o.2⟩
theorem yG(b:List (List ck))(A:Option cm)(cap:Nat)(C:∀r∈b,kJ.Row r)(G:b.length<=50000)(w:ci)(h:kw kJ w A b): cq cy 210 #[ca A b.length cap] w λe w'=>zA kJ w w' b e/\bH [] w w':=by
 cases A with
 |none=>
  obtain rfl:=h.nil;clear h C G;simp only [List.length_nil];have m:(cr .eql 47 (ca ch 0 cap) (ca ch 0 0)).run cy w=.ok (ce cD) w:=Lib.run_eql_slice_nil w _ _ ch _ _ _ _ underlying47;go_enter func210,ntmps210;go_wp2;go_ret;exact⟨⟨_,rfl,jU _ _ _⟩,bH.refl _ _⟩
 |some a=>
  have m:(cr .eql 47 (ca (cg a) b.length cap) (ca ch 0 0)).run cy w=.ok (ce cB) w:=Lib.run_eql_slice_nil w _ _ (cg a) _ _ _ _ underlying47;have c:=(tR w).alloc (cw #[] kJ.e);obtain⟨p,w',l,z,N,_⟩:=vM (t:=47) underlying47 (lQ kJ w) a cap C (h.u c) lz lO 47;have d:bH [] w w':=fH c N (λg i=>oY);have f:∀u,(Instr.buildSlice 47 0 #[]).run cy u=.ok (ca (cg ⟨u,0,ch⟩) 0 0) (u.alloc (cw #[] kJ.e)):=λu=>lB
  obtain⟨j,Z,k⟩:=lh3 (bg z d) f l;clear z N d c h C G f l;generalize b.length=n at *;go_enter func210,ntmps210;go_wp2_with (first
   |(refine bQ rfl (gm (vs:=#[]) rfl rfl (Z.o _)) ?_;try go_frame)
   |(at_builtin;refine bQ rfl (dL (v:=ca (cg ⟨w,0,ch⟩) 0 0) (y:=ca (cg a) n cap) (.tmp 5) (.tmp 6) 47 rfl rfl rfl k.o) ?_;try go_frame))
  go_ret;exact⟨⟨_,rfl,j.o.1⟩,j.o.2⟩
section
def bI.Like(l m:bI): Prop:=m={ l with Xi:=m.Xi,Xj:=m.Xj,Xg:={ l.Xg with kA:=m.Xg.kA,kc:=m.Xg.kc,cA:=m.Xg.cA,cc:=m.Xg.cc },pA:=m.pA,pc:=m.pc,tA:=m.tA,tc:=m.tc,mA:=m.mA,mc:=m.mc }
theorem bI.Like.refl(l:bI): l.Like l:=rfl
theorem yI(w:ci)(b:Nat)(c:Array ck): (w.setRow b c).heap.size=w.heap.size:=by simp [World.setRow]
def gG(bs:List Nat)(w:ci)(P:ci->Prop): Prop:=∀uu,w.heap.size<=uu.heap.size->(∀q,q<w.heap.size->q∉bs->uu.heap[q]?=w.heap[q]?)->P uu
variable {bs:List Nat}
theorem gG.now{w:ci}{P:ci->Prop}(h:gG bs w P): P w:=h w (aQ _) λ_ _ _=>rfl
theorem gG.u{w w':ci}{P:ci->Prop}(h:gG bs w P)(T:bH [] w w'): gG bs w' P:=λuu n o=>h uu (aK T.size n) λq a g=>(o q (aj a T.size) g).t (T.old q a lz)
theorem gG.setCell{b i:Nat}{v:ck}{w:ci}{P:ci->Prop}(h:gG bs w P)(g:b∈bs): gG bs (w.setCell ⟨b,i,ch⟩ v) P:=λuu n o=>h uu (by rw [World.size_setCell]at n;exact n) λq c a=>(o q (by rw [World.size_setCell];exact c) a).t (dG _ _ _ _ q λe=>a (e▸g))
theorem gG.setRow{b:Nat}{c:Array ck}{w:ci}{P:ci->Prop}(h:gG bs w P)(g:b∈bs): gG bs (w.setRow b c) P:=λuu n o=>h uu (by rw [yI]at n;exact n) λq d a=>(o q (by rw [yI];exact d) a).t (fQ _ _ _ q λe=>a (e▸g))
theorem gG.and{w:ci}{P Q:ci->Prop}(h:gG bs w P)(k:gG bs w Q): gG bs w λuu=>P uu/\Q uu:=λuu n o=>⟨h uu n o,k uu n o⟩
theorem gG.imp{w:ci}{P Q:ci->Prop}(h:gG bs w P)(k:∀uu,P uu->Q uu): gG bs w Q:=λuu n o=>k uu (h uu n o)
theorem AC{w w':ci}(T:bH [] w w')(g:∀b∈bs,w.heap.size<=b){P:ci->Prop}(h:∀uu,(∀q,q<w.heap.size->uu.heap[q]?=w.heap[q]?)->P uu): gG bs w' P:=λuu n o=>
 h uu λq a=>(o q (aj a T.size) (λe=>by have:=g q e;omega)).t (T.old q a lz)
theorem gG.mono{w:ci}{P:ci->Prop}{cs:List Nat}(h:gG bs w P)(a:∀b∈cs,b∈bs): gG cs w P:=λuu n o=>h uu n λq c g=>o q c λe=>g (a q e)
theorem gG.new{w w':ci}{P:ci->Prop}{cs:List Nat}(h:gG bs w P)(T:bH [] w w')(c:∀b∈cs,b<w.heap.size->b∈bs): gG cs w' P:=λuu n o=>
 h uu (aK T.size n) λq a g=>(o q (aj a T.size) (λe=>g (c q e a))).t (T.old q a lz)
theorem pK{k:kD}{w:ci}{base:Nat}{v:ck}{a:List (List ck)}(h:iK k w base v a)(c:∀b∈bs,b<base): gG bs w λuu=>iK k uu base v a:=λuu n o=>
 ⟨h.1,h.2.keep λg d=>o g (h.2.lt g d).2.1 (λe=>by have:=(h.2.lt g d).1;have:=c g e;omega)⟩
def dK(x:Int): List ck:=[x]
theorem LP(x:Int): fF.Row (dK x):=⟨rfl,λuu o=>by rw [aN.1 o];rfl⟩
theorem xW{w:ci}{A:Option cm}{n:Nat}{c:List Int}(h:dn w A n c): kw fF w A (c.map dK):=λj r a=>by
 rw [aP]at a;obtain⟨x,d,rfl⟩:=Option.map_eq_some_iff.1 a;have k:=(ah.1 d).1;obtain⟨g,o,e,f⟩:=h.2 j (by rw [h.1];exact k);refine⟨g,o,e,λi uu b=>?_⟩;obtain _|i:=i
 .have:uu=x:=by simpa [dK]using b.symm
  rw [this];show w.cell? ⟨g,o+j*1+0,ch⟩=_;rw [Nat.mul_one,Nat.add_zero,f];simp [List.getD,d]
 simp [dK]at b
theorem rY{w:ci}{base:Nat}{A:Option cm}{n cap:Nat}{c:List Int}(h:iK fF w base (ca A n cap) (c.map dK)): dn w A n c:=by
 rcases h.form with ⟨e,b⟩|⟨g,o,i,e,m,_,_,d⟩
 .injection e with a z N;have:c=[]:=List.map_eq_nil_iff.1 b;rw [a,z,this];exact jd _
 injection e with a z N;rw [aJ]at z;refine⟨z,λj k=>⟨g,o,a,?_⟩⟩;rw [z]at k;have f:=d j (dK c[j]) (by simp [k]) 0 _ rfl;rw [show fF.size=1 from rfl,Nat.mul_one,Nat.add_zero]at f;rw [f];simp [List.getD,k]
theorem QD{w:ci}{A:Option cm}{n:Nat}{c:List (Int×Int)}(h:iL w A n c): kw kK w A (c.map jZ):=λj r d=>by
 rw [aP]at d;obtain⟨x,k,rfl⟩:=Option.map_eq_some_iff.1 d;have m:=(ah.1 k).1;obtain⟨g,o,e,f,b⟩:=h.2 j (by rw [h.1];exact m);refine⟨g,o,e,λi uu a=>?_⟩;show w.cell? ⟨g,o+j*2+i,ch⟩=_;have E:c.getD j (0,0)=x:=sB
 rw [E]at f b;obtain _|_|i:=i
 .have:uu=x.1:=by simpa [jZ]using a.symm
  rw [this];exact f
 .have:uu=x.2:=by simpa [jZ]using a.symm
  rw [this];exact b
 simp [jZ]at a
theorem AX{w:ci}{A:Option cm}{n:Nat}{c:List dC}(h:dB w A n c): kw kJ w A (c.map dC.row):=λj r a=>by rw [aP]at a;obtain⟨t,b,rfl⟩:=Option.map_eq_some_iff.1 a;obtain⟨_,g,o,e,f⟩:=h.2 j t b;exact⟨g,o,e,f⟩
theorem wU{w:ci}{A:Option cm}{n:Nat}{c:List dC}(h:dB w A n c): ∀t∈c,jo t.px:=λt o=>by obtain⟨j,k⟩:=bu.1 o;exact (h.2 j t k).1
theorem Dj{w:ci}{base:Nat}{A:Option cm}{n cap:Nat}{c:List dC}(f:∀t∈c,jo t.px)(h:iK kJ w base (ca A n cap) (c.map dC.row)): dB w A n c:=by
 rcases h.form with ⟨e,d⟩|⟨g,o,k,e,m,_,_,i⟩
 .injection e with a z N;have:c=[]:=List.map_eq_nil_iff.1 d;rw [a,z,this];exact⟨rfl,λj t h=>qc⟩
 injection e with a z N;rw [aJ]at z;refine⟨z,λj t b=>⟨f t (aH b),g,o,a,?_⟩⟩;exact i j t.row (by rw [aP,b];rfl)
theorem jv{k:kD}{w:ci}{base:Nat}{v:ck}{a:List (List ck)}(h:iK k w base v a): ∃A b,v=ca A a.length b:=by
 rcases h.form with ⟨e,c⟩|⟨g,o,d,e,_⟩
 .exact⟨ch,0,by rw [e,c];rfl⟩
 exact⟨_,_,e⟩
theorem qM{c:List Int}: ∀r∈c.map dK,fF.Row r:=λr a=>by obtain⟨x,_,rfl⟩:=List.mem_map.1 a;exact LP x
theorem Ja{c:List (Int×Int)}: ∀r∈c.map jZ,kK.Row r:=λr a=>by obtain⟨x,_,rfl⟩:=List.mem_map.1 a;exact PE x
theorem vY{c:List dC}(h:∀t∈c,jo t.px): ∀r∈c.map dC.row,kJ.Row r:=λr a=>by obtain⟨x,b,rfl⟩:=List.mem_map.1 a;exact jA (h x b)
structure bI.Thin(l:bI): Prop where
 k:l.Xh<=50
 p:l.pn<=5000
 a:l.Xg.kn<=5000
 b:l.Xg.cn<=5000
 t:l.tn<=5000
 m:l.mn<=5000
theorem bI.Like.thin{l m:bI}(h:l.Like m)(k:l.Thin): m.Thin:=by rw [h];exact⟨k.k,k.p,k.a,k.b,k.t,k.m⟩
theorem RX{k:kD}{w:ci}{base:Nat}{A:Option cm}{n c:Nat}{a:List (List ck)}(h:iK k w base (ca A n c) a): n<=c:=by
 rcases h.form with ⟨e,_⟩|⟨g,o,b,e,_,_,i,_⟩
 .injection e with _ z N;omega
 injection e with _ z N;omega
section
variable {bs:List Nat}
structure uC(C:Prop)(bs:List Nat)(w wr:ci)(l0 l:bI): Prop where
 t:bH [] w wr
 h1:wr.heap[w.heap.size]?=cg (cw ⟨l.row⟩ 51 (0,0))
 h2:wr.heap[w.heap.size+1]?=cg (cw ⟨dF.row⟩ 51 (0,0))
 like:l0.Like l
 st:gG (w.heap.size::(w.heap.size+1)::bs) wr λuu=>l.At uu
 kc:C->l.Xh<=l.Xj
variable {C:Prop} {w wr uu:ci} {l0 l:bI}
theorem uC.u(P:uC C bs w wr l0 l)(T:bH [] wr uu): uC C bs w uu l0 l:=by have e:=(ae.1 P.h1).1;have f:=(ae.1 P.h2).1;exact⟨P.t.t T,(T.old _ e lz).t P.h1,(T.old _ f lz).t P.h2,P.like,P.st.u T,P.kc⟩
theorem uC.put(P:uC C bs w wr l0 l){l':bI}{i:Nat}{v:ck}(d:l.row.set i v=l'.row)(c:l0.Like l')(n:gG (w.heap.size::(w.heap.size+1)::bs) wr λuu=>l'.At uu){a:Prop}(b:a->l'.Xh<=l'.Xj): uC a bs w (wr.setCell ⟨w,i,ch⟩ v) l0 l':=
 ⟨P.t.setCell _ (.inr (aQ _)),dU P.h1 d,(dG _ _ _ _ _ gn).t P.h2,c,n.setCell lz,b⟩
theorem uC.kid(P:uC C bs w wr l0 l){base:Nat}{a:Option cm}{c:Nat}(h:iK fF wr base (ca a l.Xh c) (l.ag0.map dK))(g:w.heap.size+1<base)(aw:∀b∈bs,b<w.heap.size): uC True bs w (wr.setCell ⟨w,15,ch⟩ (ca a l.Xh c)) l0 { l with Xi:=a,Xj:=c }:=by
 refine P.put rfl ?_ ((P.st.and (pK h (λb e=>lX))).imp λuu o=>?_) (λ_=>RX h)
 .have:=P.like;unfold bI.Like at this ⊢;rw [this]
 have j:=o.1;exact⟨rY o.2,j.ks,j.cs,j.pts,j.Xm,j.mask,j.Xk⟩
theorem uC.pts(P:uC C bs w wr l0 l){base:Nat}{a:Option cm}{c:Nat}(h:iK kK wr base (ca a l.pn c) (l.pts.map jZ))(g:w.heap.size+1<base)(aw:∀b∈bs,b<w.heap.size): uC C bs w (wr.setCell ⟨w,27,ch⟩ (ca a l.pn c)) l0 { l with pA:=a,pc:=c }:=by
 refine P.put rfl ?_ ((P.st.and (pK h (λb e=>lX))).imp λuu o=>?_) P.kc
 .have:=P.like;unfold bI.Like at this ⊢;rw [this]
 have j:=o.1;exact⟨j.ag0,j.ks,j.cs,(zn o.2).1,j.Xm,j.mask,j.Xk⟩
theorem uC.ks(P:uC C bs w wr l0 l){base:Nat}{a:Option cm}{c:Nat}(h:iK fF wr base (ca a l.Xg.kn c) (l.ks.map dK))(g:w.heap.size+1<base)(aw:∀b∈bs,b<w.heap.size): uC C bs w (wr.setCell ⟨w,19,ch⟩ (ca a l.Xg.kn c)) l0 { l with Xg:={ l.Xg with kA:=a,kc:=c } }:=by
 refine P.put rfl ?_ ((P.st.and (pK h (λb e=>lX))).imp λuu o=>?_) P.kc
 .have:=P.like;unfold bI.Like at this ⊢;rw [this]
 have j:=o.1;exact⟨j.ag0,rY o.2,j.cs,j.pts,j.Xm,j.mask,j.Xk⟩
theorem uC.cs(P:uC C bs w wr l0 l){base:Nat}{a:Option cm}{c:Nat}(h:iK fF wr base (ca a l.Xg.cn c) (l.cs.map dK))(g:w.heap.size+1<base)(aw:∀b∈bs,b<w.heap.size): uC C bs w (wr.setCell ⟨w,22,ch⟩ (ca a l.Xg.cn c)) l0 { l with Xg:={ l.Xg with cA:=a,cc:=c } }:=by
 refine P.put rfl ?_ ((P.st.and (pK h (λb e=>lX))).imp λuu o=>?_) P.kc
 .have:=P.like;unfold bI.Like at this ⊢;rw [this]
 have j:=o.1;exact⟨j.ag0,j.ks,rY o.2,j.pts,j.Xm,j.mask,j.Xk⟩
theorem uC.Xm(P:uC C bs w wr l0 l)(d:∀t∈l.Xm,jo t.px){base:Nat}{a:Option cm}{c:Nat}(h:iK kJ wr base (ca a l.tn c) (l.Xm.map dC.row))(g:w.heap.size+1<base)(aw:∀b∈bs,b<w.heap.size): uC C bs w (wr.setCell ⟨w,28,ch⟩ (ca a l.tn c)) l0 { l with tA:=a,tc:=c }:=by
 refine P.put rfl ?_ ((P.st.and (pK h (λb e=>lX))).imp λuu o=>?_) P.kc
 .have:=P.like;unfold bI.Like at this ⊢;rw [this]
 have j:=o.1;exact⟨j.ag0,j.ks,j.cs,j.pts,Dj d o.2,j.mask,j.Xk⟩
theorem uC.mask(P:uC C bs w wr l0 l)(d:∀t∈l.mask,jo t.px){base:Nat}{a:Option cm}{c:Nat}(h:iK kJ wr base (ca a l.mn c) (l.mask.map dC.row))(g:w.heap.size+1<base)(aw:∀b∈bs,b<w.heap.size): uC C bs w (wr.setCell ⟨w,30,ch⟩ (ca a l.mn c)) l0 { l with mA:=a,mc:=c }:=by
 refine P.put rfl ?_ ((P.st.and (pK h (λb e=>lX))).imp λuu o=>?_) P.kc
 .have:=P.like;unfold bI.Like at this ⊢;rw [this]
 have j:=o.1;exact⟨j.ag0,j.ks,j.cs,j.pts,j.Xm,Dj d o.2,j.Xk⟩
end
theorem IM(l:bI)(w:ci)(bs:List Nat)(N:∀b∈bs,b<w.heap.size)(h:gG bs w λuu=>l.At uu)(O:l.Thin): cq cy 136 #[l.v] w λe w'=>(∃m,l.Like m/\gG bs w' (λuu=>m.At uu)/\m.Xh<=m.Xj/\e=cE m.v)/\bH [] w w':=by
 obtain⟨W,F⟩:=eX ((w.alloc (cw ⟨l.row⟩ 51)).alloc (cw ⟨dF.row⟩ 51));have K:bH [] w W:=F▸((tR w).a _).a _;have Q:=fU F;have S:=ZH F;have P:uC False bs w W l l:=⟨K,Q,S,rfl,h.new K (λb J M=>by simp only [aS]at J;rcases J with rfl|rfl|J;omega;omega;exact J),False.elim⟩;obtain⟨B,L,R⟩:=lh3 N gI O;clear h Q S K O N;unfold bI.v;go_enter func136,ntmps136;go_upto_region 1 with (refine bQ rfl (di (t:=51) rfl (L.o _)) ?_;try go_frame)
 rw [<-F];clear F L;simp only [aI];go_cut [] (λwx=>∃m,uC True bs w wx l m);case first=>
  have ao:l.Xh=(l.ag0.map dK).length:=by rw [aJ];exact P.st.now.ag0.1
  have b3:=BK (l.ag0.map dK) l.Xi l.Xj qM (by rw [<-ao];have:=(P.like.thin R.o).k;omega) W (xW P.st.now.ag0);rw [<-ao]at b3;have y:=cP 15 (ca l.Xi l.Xh l.Xj) P.h1;have x:=dD P.h1 15;have a5:w.heap.size+1<W.heap.size:=(ae.1 P.h2).1;obtain⟨d,aL,i⟩:=lh3 P b3 ao;clear P b3 ao;go_wp2_with (go_at_call 207;refine aL.o.mono ?_;rintro e H ⟨⟨v,rfl,c⟩,f⟩;obtain⟨D,E,rfl⟩:=jv c;have z:=d.o.u f;have y:=cP 15 (ca l.Xi l.Xh l.Xj) z.h1;have x:=dD z.h1 15;have a6:=lh z;rw [<-i.o]at c ⊢;have G:=lh c;clear z c f)
  go_meet;exact⟨_,a6.o.kid G.o a5 B.o⟩
 obtain⟨I,P⟩:=hcut;go_upto_region 2 with (fail)
 go_cut [] (λwx=>∃m,uC True bs w wx l m);case first=>
  have ao:I.pn=(I.pts.map jZ).length:=by rw [aJ];exact P.st.now.pts.1
  have b3:=Oe (I.pts.map jZ) I.pA I.pc Ja (by rw [<-ao];have:=(P.like.thin R.o).p;omega) wc (QD P.st.now.pts);rw [<-ao]at b3;have y:=cP 27 (ca I.pA I.pn I.pc) P.h1;have x:=dD P.h1 27;have a5:w.heap.size+1<wc.heap.size:=(ae.1 P.h2).1;obtain⟨d,aL,i⟩:=lh3 P b3 ao;clear P b3 ao;go_wp2_with (go_at_call 208;refine aL.o.mono ?_;rintro e H ⟨⟨v,rfl,c⟩,f⟩;obtain⟨D,E,rfl⟩:=jv c;have z:=d.o.u f;have y:=cP 27 (ca I.pA I.pn I.pc) z.h1;have x:=dD z.h1 27;have a6:=lh z;rw [<-i.o]at c ⊢;have G:=lh c;clear z c f)
  go_meet;exact⟨_,a6.o.pts G.o a5 B.o⟩
 obtain⟨j,P⟩:=hcut;go_upto_region 3 with (fail)
 go_cut [] (λwx=>∃m,uC True bs w wx l m);case first=>
  have ao:j.Xg.kn=(j.ks.map dK).length:=by rw [aJ];exact P.st.now.ks.1
  have b3:=BK (j.ks.map dK) j.Xg.kA j.Xg.kc qM (by rw [<-ao];have:=(P.like.thin R.o).a;omega) wc (xW P.st.now.ks);rw [<-ao]at b3;have y:=cP 19 (ca j.Xg.kA j.Xg.kn j.Xg.kc) P.h1;have x:=dD P.h1 19;have a5:w.heap.size+1<wc.heap.size:=(ae.1 P.h2).1;obtain⟨d,aL,i⟩:=lh3 P b3 ao;clear P b3 ao;go_wp2_with (go_at_call 207;refine aL.o.mono ?_;rintro e H ⟨⟨v,rfl,c⟩,f⟩;obtain⟨D,E,rfl⟩:=jv c;have z:=d.o.u f;have y:=cP 19 (ca j.Xg.kA j.Xg.kn j.Xg.kc) z.h1;have x:=dD z.h1 19;have a6:=lh z;rw [<-i.o]at c ⊢;have G:=lh c;clear z c f)
  go_meet;exact⟨_,a6.o.ks G.o a5 B.o⟩
 obtain⟨n,P⟩:=hcut;go_upto_region 4 with (fail)
 go_cut [] (λwx=>∃m,uC True bs w wx l m);case first=>
  have ao:n.Xg.cn=(n.cs.map dK).length:=by rw [aJ];exact P.st.now.cs.1
  have b3:=Hm (n.cs.map dK) n.Xg.cA n.Xg.cc qM (by rw [<-ao];have:=(P.like.thin R.o).b;omega) wc (xW P.st.now.cs);rw [<-ao]at b3;have y:=cP 22 (ca n.Xg.cA n.Xg.cn n.Xg.cc) P.h1;have x:=dD P.h1 22;have a5:w.heap.size+1<wc.heap.size:=(ae.1 P.h2).1;obtain⟨d,aL,i⟩:=lh3 P b3 ao;clear P b3 ao;go_wp2_with (go_at_call 209;refine aL.o.mono ?_;rintro e H ⟨⟨v,rfl,c⟩,f⟩;obtain⟨D,E,rfl⟩:=jv c;have z:=d.o.u f;have y:=cP 22 (ca n.Xg.cA n.Xg.cn n.Xg.cc) z.h1;have x:=dD z.h1 22;have a6:=lh z;rw [<-i.o]at c ⊢;have G:=lh c;clear z c f)
  go_meet;exact⟨_,a6.o.cs G.o a5 B.o⟩
 obtain⟨q,P⟩:=hcut;go_upto_region 5 with (fail)
 go_cut [] (λwx=>∃m,uC True bs w wx l m);case first=>
  have ao:q.tn=(q.Xm.map dC.row).length:=by rw [aJ];exact P.st.now.Xm.1
  have b3:=yG (q.Xm.map dC.row) q.tA q.tc (vY (wU P.st.now.Xm)) (by rw [<-ao];have:=(P.like.thin R.o).t;omega) wc (AX P.st.now.Xm);rw [<-ao]at b3;have y:=cP 28 (ca q.tA q.tn q.tc) P.h1;have x:=dD P.h1 28;have a5:w.heap.size+1<wc.heap.size:=(ae.1 P.h2).1;obtain⟨aw,d,aL,i⟩:=lh4 (wU P.st.now.Xm) P b3 ao;clear P b3 ao;go_wp2_with (go_at_call 210;refine aL.o.mono ?_;rintro e H ⟨⟨v,rfl,c⟩,f⟩;obtain⟨D,E,rfl⟩:=jv c;have z:=d.o.u f;have y:=cP 28 (ca q.tA q.tn q.tc) z.h1;have x:=dD z.h1 28;have a6:=lh z;rw [<-i.o]at c ⊢;have G:=lh c;clear z c f)
  go_meet;exact⟨_,a6.o.Xm aw.o G.o a5 B.o⟩
 obtain⟨s,P⟩:=hcut;go_upto_region 6 with (fail)
 go_cut [] (λwx=>∃m,uC True bs w wx l m);case first=>
  have ao:s.mn=(s.mask.map dC.row).length:=by rw [aJ];exact P.st.now.mask.1
  have b3:=yG (s.mask.map dC.row) s.mA s.mc (vY (wU P.st.now.mask)) (by rw [<-ao];have:=(P.like.thin R.o).m;omega) wc (AX P.st.now.mask);rw [<-ao]at b3;have y:=cP 30 (ca s.mA s.mn s.mc) P.h1;have x:=dD P.h1 30;have a5:w.heap.size+1<wc.heap.size:=(ae.1 P.h2).1;obtain⟨aw,d,aL,i⟩:=lh4 (wU P.st.now.mask) P b3 ao;clear P b3 ao;go_wp2_with (go_at_call 210;refine aL.o.mono ?_;rintro e H ⟨⟨v,rfl,c⟩,f⟩;obtain⟨D,E,rfl⟩:=jv c;have z:=d.o.u f;have y:=cP 30 (ca s.mA s.mn s.mc) z.h1;have x:=dD z.h1 30;have a6:=lh z;rw [<-i.o]at c ⊢;have G:=lh c;clear z c f)
  go_meet;exact⟨_,a6.o.mask aw.o G.o a5 B.o⟩
 obtain⟨A,P⟩:=hcut;have d:=lh P;clear P;have V:(Instr.loadAt 51 (cf (cg ⟨w,0,ch⟩))).run cy wc=.ok (cd ⟨A.row⟩) wc:=cl wc w.heap.size 0 51 A.row _ (gp d.o.h1 lz) cx rfl (cj dS).2;have X:=dQ (o:=0) (ty:=51) (p:=A.row) (L':=A.row) d.o.h2 (cj dS).2 lK (row_one _) lK;have U:=co (P:=cy) _ (w.heap.size+1) 51 51 ⟨A.row⟩ (0,0) _ (eQ (L':=A.row) d.o.h2) cx rfl (cj dS).2;go_wp2_with (first
  |(refine bQ rfl (dw rfl rfl V) ?_;try go_frame)
  |(refine sR X ?_))
 have T:=d.o.t.setRow (g:=w.heap.size+1) ⟨A.row⟩ (.inr gn);refine ag (v:=A.v) ?_ rfl ⟨⟨A,d.o.like,?_,d.o.kc trivial,rfl⟩,T⟩
 .simp [results,results136,ct,U];rfl
 exact (d.o.st.setRow lz).mono (λb M=>by simp [M])
end
def dh(ls:List bI)(id:Int): Option bI:=match mW (ls.map (·.id)) id with|some k=>ls[k]? | none=>ch
def dP(ls:List bI): Nat->Int->Int
 |0,_=>0
 |n+1,id=>match dh ls id with
  |none=>0
  |some l=>if l.ag1=2\/l.ag1=4 then (fZ l).foldl (λm p=>max m (dP ls n p)) 0+1 else 0
inductive UL(ls:List bI): Nat->Int->Prop where
 |mk {n:Nat} {id:Int} (h:∀y∈eP ls id,UL ls n y):UL ls (n+1) id
theorem rE{ls:List bI}{id:Int}{l:bI}(h:dh ls id=cg l): eP ls id=fZ l:=by
 unfold dh at h;unfold eP;cases C:mW (ls.map (·.id)) id with
 |none=>rw [C]at h;cases h
 |some k=>rw [C]at h;simp only at h ⊢;rw [h]
theorem yg{ls:List bI}(l:∀x,¬iY ls x x): ∀(k:Nat) (id:Int) (b:List Int),b.Nodup->(∀v∈b,v∈Me ls)->(∀v∈b,v=id\/iY ls v id)->(Me ls).length<b.length+k->UL ls k id
 |0,_,b,hn,hu,_,hl=>absurd (xC hn hu) gn
 |k+1,id,b,hn,hu,hr,hl=>.mk λy f=>by
  have d:iY ls id y:=.one f;have c:∀v∈b,iY ls v y:=λv a=>(hr v a).elim (λe=>e▸d) λh=>.tail h f;refine yg l k y (y::b) (List.nodup_cons.2 ⟨λg=>l y (c y g),hn⟩) (λv a=>?_) (λv a=>?_) (by simp only [List.length_cons];omega)
  .rcases aS.1 a with rfl|a
   .exact BJ d
   exact hu v a
  rcases aS.1 a with rfl|a
  .exact .inl rfl
  exact .inr (c v a)
theorem zk{ls:List bI}(n:oP ls)(l:∀x,¬iY ls x x)(id:Int): UL ls 2501 id:=
 yg l 2501 id [] List.nodup_nil lz lz (by have:=Ia n;simp;omega)
theorem oh(f:Int->Int)(N:Int): ∀(ps:List Int) (m:Int),0<=m->m<=N->(∀p∈ps,0<=f p/\f p<=N)->0<=ps.foldl (λm p=>max m (f p)) m/\ps.foldl (λm p=>max m (f p)) m<=N
 | [],m,h0,h1,_=>⟨h0,h1⟩
 |p::ps,m,h0,h1,h=>by have:=h p lz;exact oh f N ps (max m (f p)) gn gn λq a=>h q (by simp [a])
theorem qN(ls:List bI): ∀(n:Nat) (id:Int),0<=dP ls n id/\dP ls n id<=n
 |0,_=>⟨Int.le_refl _,Int.le_refl _⟩
 |n+1,id=>by
  unfold dP;cases dh ls id with
  |none=>simp only;omega
  |some l=>
   simp only;split
   .have:=oh (dP ls n) n (fZ l) 0 gn gn λp _=>qN ls n p;omega
   omega
theorem uZ(ls:List bI): ∀(n:Nat) (id:Int),UL ls n id->∀m,n<=m->dP ls m id=dP ls n id
 |0,_,h,_,_=>by cases h
 |n+1,id,.mk h,0,hm=>absurd hm gn
 |n+1,id,.mk h,m+1,hm=>by
  unfold dP;cases C:dh ls id with
  |none=>rfl
  |some l=>
   simp only;have a8:=rE C;have:∀(d:List Int),(∀p∈d,p∈fZ l)->∀a,d.foldl (λq p=>max q (dP ls m p)) a=d.foldl (λq p=>max q (dP ls n p)) a:=by
    intro d;induction d with
    |nil=>intro _ _;rfl
    |cons p d ih=>
     intro b a;simp only [List.foldl_cons];rw [uZ ls n p (h p (a8▸b p lz)) m gn];exact ih (λq c=>b q (by simp [c])) _
   rw [this _ (λ_ h=>h)]
theorem DW(d:df)(aL:oP d.agY): ∀(n:Nat) (id:Int),UL d.agY n id->n<=3000->∀(w:ci),d.At w->CR 63 #[d.v,id] w (cb .i64 (dP d.agY n id))
 |0,_,h,_,_,_=>by cases h
 |n+1,id,.mk hlow,hn3,w,h=>by
  have ih:=λp (A:p∈eP d.agY id) u (hu:d.At u)=>DW d aL n p (hlow p A) gn u hu;have hA:=uD d id;have hC:=λh1=>h.agY.cell h1;have hn:=h.agY.1;have b3:d.ids.length=d.ln:=oe
  have Q:=lh h;have b6:=h.small;have ab:d.ids=d.agY.map (·.id):=rfl;have a8:=qN d.agY n;clear h hlow;generalize d.ids=a2 at *;obtain⟨N,P,O,ag2,L,next,lA,z,K,agY⟩:=d;simp only [df.v]at *;have q:=(tR w).alloc (cw #[ca N P O,L,next,ca lA z K] 29);obtain⟨a4,E,HC,HN,a3,aE⟩:=lh6 ih hA hC hn ab a8;clear hA hC hn ab ih a8;obtain⟨W,s⟩:=eX (w.alloc (cw #[ca N P O,L,next,ca lA z K] 29));obtain⟨q0,q1,q2,q3⟩:=GX (Rf s);have b2:W.heap.size=w.heap.size+1:=rd
  rw [<-s]at q;cases y:mW a2 id with
  |none=>
   have J:dP agY (n+1) id=0:=(by unfold dP dh;rw [<-a3.o,y]);have G:sQ a2 id=-1:=(by unfold sQ;rw [y]);rw [J];rw [G]at E;go_enter func63,ntmps63;(go_upto_region 1 with (fail));rw [<-s];clear s;(go_wp2_with (go_at_call 60;refine mR (E.o _ (Q.o.u q)) λc aR=>?_));go_ret;exact⟨rfl,q.t aR⟩
  |some k=>
   have hk:k<z:=(by have:=(bi.1 y).1;omega);have b9:k<agY.length:=nk;obtain⟨l,hl⟩:∃l,agY[k]?=cg l:=⟨agY[k],nv⟩;have a1:dh agY id=cg l:=(by unfold dh;rw [<-a3.o,y];exact hl);have af:=rE a1;have J:dP agY (n+1) id=if l.ag1=2\/l.ag1=4 then (fZ l).foldl (λm p=>max m (dP agY n p)) 0+1 else 0:=by rw [dP,a1]
   have G:sQ a2 id=(k:Int):=(by unfold sQ;rw [y]);rw [G]at E;rw [af]at a4;generalize dP agY (n+1) id=D at *;have F:=lh J;obtain⟨g,o,rfl,hR⟩:=HC.o gn;have HR:Hid (∀w',bH [] w w'->l.At w'/\w'.rangeAt g (o+k*31) l.row):=lh λw' T=>hR w' T k l hl;have aa:(prog.info? 51).map (·.size)=cg l.row.length:=(cj rX).2;have b0:(0:Int)<=(k:Int):=gn;have b1:(k:Int)<(z:Int):=gn;have aq:=lh (rV l);clear hR J G y hl b9 a1 af;go_enter func63,ntmps63;(go_upto_region 1 with (fail));rw [<-s];clear s;(go_upto_region 4 with (go_at_call 60;refine mR (E.o _ (Q.o.u q)) λc aR=>?_));obtain⟨S,a7⟩:=HR.o _ (q.t aR);have aw:=oM c;have an:=pX l c;have A:=jg l c 51;have p1:=kQ A 1 l.ag1 rfl;obtain⟨hc,hf⟩:=bY aR;have U:=(tR c).alloc (cw ⟨l.row⟩ 51);have S:=S.u U;have a0:=aq.o _ S;unfold bI.v at a0;generalize l.row=B at *;go_upto_region 5 with (first
    |(refine cp rfl 51 _ rfl _ _ rfl _ _ a7 cx rfl aa ?_)
    |(refine bU rfl 51 _ _ rfl rfl rfl an ?_))
   have TW:bH [] W (c.alloc (cw ⟨B⟩ 51)):=aR.t U;have ad:(c.alloc (cw ⟨B⟩ 51)).rangeAt c.heap.size 0 B:=A;clear aw an A a7 hc hf;have b7:(c.alloc (cw ⟨B⟩ 51)).heap.size=c.heap.size+1:=lz;have b8:=aR.size;generalize c.heap.size=b,c.alloc (cw ⟨B⟩ 51)=V at *;clear U aR;by_cases f:l.ag1=2\/l.ag1=4
   .have R:Hid (D=(fZ l).foldl (λm p=>max m (dP agY n p)) 0+1):=lh (by rw [F.o,aG f]);clear F;rcases f with f|f;all_goals
     rw [f]at p1;clear f;go_upto_region 9 with (first
      |(go_at_call 120;refine a0.mono ?_;rintro e w2 ⟨A2,I,c2,rfl,Z,b4,aM⟩)
      |(refine cp rfl 51 _ rfl _ _ rfl _ _ ad cx rfl aa ?_))
     have Y:=TW.t aM;have b5:=Z.1;have HI:=lh Z;generalize fZ l=a at *;clear Z a0 p1 ad S;(go_wp2_with fail);go_loopw [7,9] (λs7 s9 wr=>∃j:Nat,j<=I/\s9=j/\s7=cb .i64 ((a.take j).foldl (λm p=>max m (dP agY n p)) 0)/\bH [] w2 wr) (λ_ s9 _=>I-(cF s9).toNat);case atStart=>exact⟨0,gn,rfl,rfl,tR _⟩
     case round=>
      obtain⟨j,hj,rfl,rfl,T⟩:=hrel
      have ar:=oh (dP agY n) n (a.take j) 0 gn gn λp _=>aE.o p
      by_cases ay:j<I
      .obtain⟨g2,o2,rfl,a6⟩:=HI.o.cell gn;have ac:=a6 _ T j ay;have H:j<a.length:=gn;have hx:a.getD j 0=a[j]:=(by simp [List.getD,H]);have ao:a.getD j 0∈a:=(by rw [hx];exact List.getElem_mem H);have aD:(a.take (j+1)).foldl (λm p=>max m (dP agY n p)) 0=max ((a.take j).foldl (λm p=>max m (dP agY n p)) 0) (dP agY n (a.getD j 0)):=(by rw [aT H,List.foldl_append,hx];rfl);have ba:=aE.o (a.getD j 0);have a5:=lh aD;have a9:=λu hu=>a4.o (a.getD j 0) ao u hu;clear aD a6 hx ao H;generalize a.getD j 0=x at *;generalize (a.take j).foldl (λm p=>max m (dP agY n p)) 0=M at *;have c0:(0:Int)<=(j:Int):=gn;have c1:(j:Int)<(I:Int):=gn;have TA:=q.t (Y.t T);have C:∀{b i:Nat} {v:ck},W.cell? ⟨b,i,ch⟩=cg v->wr.cell? ⟨b,i,ch⟩=cg v:=λh=>by rw [(bY (Y.t T)).1 _ _ (ai h)];exact h
       have e0:=C q0;have e1:=C q1;have e2:=C q2;have e3:=C q3;have am:∀{b i:Nat} {v:ck},wr.cell? ⟨b,i,ch⟩=cg v->∀w',bH [] wr w'->w'.cell? ⟨b,i,ch⟩=cg v:=λh w' T=>oA
       have HS:Hid (∀w',bH [] wr w'->(w'.cell? ⟨w,0,ch⟩=cg (ca N P O)/\w'.cell? ⟨w,1,ch⟩=cg (cb .i64 L)/\w'.cell? ⟨w,2,ch⟩=cg (cb .i64 next)/\w'.cell? ⟨w,3,ch⟩=cg (ca (cg ⟨g,o,ch⟩) z K)/\w'.cell? ⟨g2,o2+j,ch⟩=cg (cb .i64 x))):=
        lh λw' T=>⟨am e0 w' T,am e1 w' T,am e2 w' T,am e3 w' T,am ac w' T⟩
       clear am;have X:=(tR wr).drawn 1;have ap:=lh (a9 wr.drew (Q.o.u (TA.drawn 1)));clear a9;(go_upto_region 12 with (fail));clear C e0 e1 e2 e3 q0 q1 q2 q3 ac;generalize dP agY n x=dx at *;go_region_held3 (λw'=>w'.cell? ⟨w,0,ch⟩=cg (ca N P O)/\w'.cell? ⟨w,1,ch⟩=cg (cb .i64 L)/\w'.cell? ⟨w,2,ch⟩=cg (cb .i64 next)/\w'.cell? ⟨w,3,ch⟩=cg (ca (cg ⟨g,o,ch⟩) z K)/\w'.cell? ⟨g2,o2+j,ch⟩=cg (cb .i64 x)) (first|exact HS.o _ X|exact HS.o _ (X.t aR)) (first
        |(go_at_call 63;refine mR ap.o λc aR=>?_))
       (go_wp2_with fail);all_goals exact⟨⟨j+1,gn,by go_num,by first|(rw [a5.o];omega)|(congr 1;rw [a5.o];omega),T.t (X.t aR)⟩,by simp [cF];omega⟩
      .obtain rfl:j=I:=gn;have aD:a.take j=a:=aY gn;rw [aD]at ar;go_wp2;go_ret;exact⟨by rw [R.o,aD];rfl,q.t (Y.t T)⟩
   have R:Hid (D=0):=lh (by rw [F.o,aF f]);clear F;have av:¬l.ag1=2:=λe=>f (.inl e);have ax:¬l.ag1=4:=λe=>f (.inr e);have x1:(l.ag1 != 2)=cD:=(by simp [av]);have x2:(l.ag1 != 4)=cD:=(by simp [ax]);go_wp2;go_ret;exact⟨by rw [R.o];rfl,q.t TW⟩
structure df.Tidy(d:df): Prop where
 spc:∀s∈d.ag2,s.Good
 sn:d.sn<=8
 ln:d.ln<=40
 next:1<=d.next/\d.next<=1048576
 inc:d.ids.Pairwise (· < ·)
 pos:∀x∈d.ids,1<=x/\x<d.next
 root:∃l,dh d.agY d.root=cg l/\l.ag1=2
 lay:∀l∈d.agY,l.Tidy d.sn
theorem mD.cell{w:ci}{A:Option cm}{n:Nat}{c:List eF}(h:mD w A n c)(f:1<=n): ∃g o,A=cg ⟨g,o,ch⟩/\∀w',bH [] w w'->∀j s,c[j]?=cg s->s.At w'/\w'.rangeAt g (o+j*21) s.row:=by
 have i:0<c.length:=pV
 obtain⟨_,g,o,rfl,_⟩:=h.2 0 c[0] sq;refine⟨g,o,rfl,λw' T j l k=>?_⟩;obtain⟨a,O,R,e,b⟩:=h.2 j l k;injection e with e;injection e with d z N;subst d;subst z;exact⟨a.u T,fJ T b⟩
theorem eF.row_len(s:eF)(e:s.mTo.length=9)(f:s.mFr.length=9): s.row.length=21:=by simp [eF.row,e,f]
theorem UV:(prog.info? 91).map (·.size)=cg 21:=lB
theorem NH(d:df)(w:ci)(h:d.At w)(c:d.Tidy): CR 57 #[d.v] w (cd #[(0:Int),(0:Int)]):=by
 have Q:=uD d d.root;have X:=λs A u hu=>LQ s (c.spc s A) u hu;have R:=λf=>h.agY.cell f;have V:=λf=>h.ag2.cell f;have S:=λf=>df.ids_cell h f;have ao:d.ids.length=d.ln:=oe
 have hn:=h.agY.1;have a8:=h.ag2.1;have aL:=c.sn;have aD:=c.ln;obtain⟨aM,b2⟩:=c.next;have a2:=c.inc;have a6:=c.pos;obtain⟨lr,a4,a3⟩:=c.root;have a9:=lh h;clear h c;have a1:d.ids=d.agY.map (·.id):=rfl;generalize d.ids=E at *;obtain⟨sA,n,sc,ag2,F,next,lA,e,lc,agY⟩:=d;simp only [df.v]at *;obtain⟨W,m⟩:=eX ((w.alloc (cw #[ca sA n sc,F,next,ca lA e lc] 29)).alloc (cw #[(0:Int),(0:Int)] 69));have p:bH [] w W:=m▸((tR w).a _).a _;obtain⟨q0,q1,q2,q3⟩:=GX (JK m).1;obtain⟨z0,z1⟩:=WE (JK m).2;have zf:∀i,W.frozen? ⟨w+1,i,ch⟩=cB:=λi=>nc
 have ay:W.heap.size=w.heap.size+2:=mq
 have k1:decide (8<(n:Int))=cB:=ak gn;have k2:decide (40<(e:Int))=cB:=ak gn;have k3:decide (next<1)=cB:=ak gn;have k4:decide (1048576<next)=cB:=ak gn;obtain⟨K,aq,HC,an,aa,HL,HN,ap⟩:=lh8 Q X R V S ao hn a8;obtain⟨ac,L,am,af,ab⟩:=lh5 a2 a6 a4 a3 a1;clear Q X R V S ao hn a8 a2 a6 a4 a3 a1;go_enter func57,ntmps57;go_upto_region 1 with (fail)
 rw [<-m];clear m;go_wp2_with fail
 go_loopw [3] (λs3 wr=>∃k:Nat,k<=n/\s3=k/\bH [] W wr) (λs3 _=>n-(cF s3).toNat);case atStart=>exact⟨0,gn,rfl,tR W⟩
 obtain⟨k,hk,rfl,b⟩:=hrel;obtain⟨q,H⟩:=bY b;by_cases a5:k<n
 .obtain⟨g,o,rfl,B⟩:=an.o gn;have b9:k<ag2.length:=by have:=ap.o;omega
  obtain⟨s,A⟩:∃s,ag2[k]?=cg s:=⟨ag2[k],nv⟩;have a7:s∈ag2:=aH A;obtain⟨D,U⟩:=B _ (p.t b) k s A;have av:(prog.info? 91).map (·.size)=cg s.row.length:=by rw [s.row_len D.h1 D.h2];exact UV
  have ar:=lh (aq.o s a7 wr D);have M:(0:Int)<=(k:Int):=gn
  have N:(k:Int)<(n:Int):=gn
  clear D B A b9 a7;generalize s.row=b3 at *;go_upto_region 6 with (fail)
  go_upto_region 7 with (first
   |(refine cp rfl 91 _ rfl _ _ rfl _ _ U underlying91 rfl av ?_)
   |(go_at_call 113;refine mR ar.out λI aR=>?_))
  clear U;go_wp2;go_roundw;case rel=>exact⟨k+1,gn,by go_num,b.t aR⟩
  simp [cF];omega
 obtain rfl:k=n:=gn
 go_wp2_with fail
 go_loopw [5,6] (λs5 s6 wr=>∃k:Nat,k<=e/\s6=k/\(∃z:Int,s5=z/\∀j y,k<=j->E[j]?=cg y->z<y)/\bH [] W wr) (λ_ s6 _=>e-(cF s6).toNat);case atStart=>exact⟨0,gn,rfl,⟨0,rfl,λj y _ l=>by have:=L.o y (aH l);omega⟩,b⟩
 obtain⟨k,hk,rfl,⟨z,rfl,J⟩,b⟩:=hrel;obtain⟨q,H⟩:=bY b;by_cases a5:k<e
 .obtain⟨g,o,rfl,B⟩:=aa.o gn;obtain⟨y,l,ad⟩:=B k a5;have ax:=ad _ (p.t b);have f:=J k y (aQ _) l;have h2:=(L.o y (aH l)).2;have HY:=lh l;clear B ad J l;have M:(0:Int)<=(k:Int):=by omega
  have N:(k:Int)<(e:Int):=gn
  have O:decide (y<=z)=cB:=ak gn;have P:decide (next<=y)=cB:=ak gn;go_wp2;go_roundw;case rel=>exact⟨k+1,gn,by go_num,⟨y,rfl,λj x hj hx=>by
   have hp:=List.pairwise_iff_getElem.1 ac.o;obtain⟨i1,O⟩:=ah.1 HY.o;obtain⟨i2,P⟩:=ah.1 hx;have:=hp k j i1 i2 gn;rw [O,P]at this;exact this⟩,b⟩
  simp [cF];omega
 obtain rfl:k=e:=gn
 obtain⟨r,C⟩:∃r,mW E F=cg r/\agY[r]?=cg lr:=by
  have:=am.o;unfold dh at this;rw [<-ab.o]at this;cases Y:mW E F with
  |none=>rw [Y]at this;cases this
  |some r=>rw [Y]at this;exact⟨r,rfl,this⟩
 have Z:sQ E F=(r:Int):=by unfold sQ;rw [C.1]
 have aw:r<agY.length:=(ah.1 C.2).1;have aE:r<k:=nk
 obtain⟨g,o,rfl,B⟩:=HC.o gn;have a0:∀u,bH [] w u->u.cell? ⟨g,o+r*31+1,ch⟩=cg (cb .i64 2):=λu T=>by have:=(B u T r lr C.2).2 1 _ rfl;rw [af.o]at this;exact this
 have HK:=lh a0;rw [Z]at K;have M:(0:Int)<=(r:Int):=gn
 have N:(r:Int)<(k:Int):=gn
 clear a0 B J Z C aw;go_upto_region 18 with (go_at_call 60;refine mR (K.o _ (a9.o.u (p.t b))) λI aR=>?_)
 have G:=b.t aR;clear q H;obtain⟨q,H⟩:=bY G;have ax:=HK.o _ (p.t G);go_wp2_with fail
 have y0:I.cell? ⟨w+1,0,ch⟩=cg (cb .i64 0):=(q _ _ gn).t z0;have y1:I.cell? ⟨w+1,1,ch⟩=cg (cb .i64 0):=(q _ _ gn).t z1;refine ag (v:=cd #[(0:Int),(0:Int)]) (by simp [results,results57,go_sem,y0,y1]) rfl ⟨rfl,?_⟩;exact ((p.t G).sc).sc
def tK(ls:List bI)(l:bI): Prop:=l.ag1=4->∃m,dh ls l.of=cg m/\m.ag1≠3
structure df.Ok(d:df): Prop where
 good:∀(k:Nat) (l:bI),d.agY[k]?=cg l->l.good=cD
 ag0:∀(k:Nat) (l:bI),d.agY[k]?=cg l->pM d.agY d.root l=cD
 clone:∀(k:Nat) (l:bI),d.agY[k]?=cg l->tK d.agY l
 free:∀(k:Nat) (y:Int),d.ids[k]?=cg y->¬iY d.agY y y
 depth:dP d.agY 2501 d.root<=6
inductive Uy(P:Prop): cv->Prop where
 |mk (e i:Int) (h:e=0↔P):Uy P (cE (cd #[e,i]))
theorem zV{ls:List bI}{x y:Int}(h:y∈eP ls x): ∃k:Nat,(ls.map (·.id))[k]?=cg x:=by
 unfold eP at h;cases C:mW (ls.map (·.id)) x with
 |none=>rw [C]at h;simp at h
 |some k=>
  unfold mW at C;rw [bi]at C;obtain⟨e,f,_⟩:=C;exact⟨k,by rw [aB e];simpa using f⟩
theorem zL{ls:List bI}{x y:Int}(h:iY ls x y): ∃k:Nat,(ls.map (·.id))[k]?=cg x:=by
 induction h with
 |one h=>exact zV h
 |tail _ _ ih=>exact ih
theorem df.Ok.acy{d:df}(h:d.Ok)(x:Int): ¬iY d.agY x x:=λC=>by obtain⟨k,a⟩:=zL C;exact h.free k x a C
theorem kG.short{w:ci}{A:Option cm}{n:Nat}{ls:List bI}(h:kG w A n ls)(G:n<=50): oP ls:=by refine⟨by rw [<-h.1];exact G,λl i=>?_⟩;obtain⟨j,k,rfl⟩:=List.getElem_of_mem i;have a:=(h.2 j ls[j] (by simp [k])).1;have:=a.Xk;rw [a.ag0.1]at this;exact this
theorem Df(d:df)(w:ci)(h:d.At w)(ht:d.Tidy): cq cy 21 #[d.v] w λe w'=>Uy d.Ok e/\bH [] w w':=by
 have ab:oP d.agY:=h.agY.short h.small;have b3:=λu (t:bH [] w u)=>NH d u (h.u t) ht;have a2:=λl u (A:l.At u) (hm:l∈d.agY)=>Je d l u A (ht.lay l hm);have a3:=λl u (t:bH [] w u) (A:l.At u)=>PS d l u (h.u t) A;have hA:=λx u (t:bH [] w u)=>uD d x u (h.u t);have aM:=λx u (t:bH [] w u)=>G6 d x u (h.u t) ab;have aD:=λ(ha:∀x,¬iY d.agY x x) u (t:bH [] w u)=>DW d ab 2501 d.root (zk ab ha _) gn u (h.u t);have hC:=λh1=>h.agY.cell h1;have hn:=h.agY.1;have c9:=h.small;have ao:d.ids.length=d.ln:=oe
 have b6:d.ids=d.agY.map (·.id):=rfl;have bb:d.Ok->_:=λo=>o.good;have bd:d.Ok->_:=λo=>o.ag0;have be:d.Ok->_:=λo=>o.clone;have bf:d.Ok->_:=λo=>o.free;have bh:d.Ok->_:=λo=>o.depth;have bj:_->_->_->_->_->d.Ok:=λa b c e f=>⟨a,b,c,e,f⟩;clear h ht;generalize d.Ok=bS,d.ids=U at *;obtain⟨sA,sn,sc,ag2,P,next,lA,s,R,agY⟩:=d;simp only [df.v,bI.v]at *;obtain⟨W,hW⟩:=eX ((w.alloc (cw #[ca sA sn sc,P,next,ca lA s R] 29)).alloc (cw #[(0:Int),(0:Int)] 69));have E:bH [] w W:=hW▸((tR w).a _).a _;obtain⟨q0,q1,q2,q3⟩:=GX (JK hW).1;obtain⟨z0,z1⟩:=WE (JK hW).2;have zf:∀i,W.frozen? ⟨w+1,i,ch⟩=cB:=λi=>rH
 have bX:W.heap.size=w.heap.size+2:=od
 obtain⟨bx,bo,bs,HA,bw,bm,HC,HN⟩:=lh8 b3 a2 a3 hA aM aD hC hn;obtain⟨HL,aa,K1,K2,K3,K4,K5,K6⟩:=lh8 ao b6 bb bd be bf bh bj;clear b3 a2 a3 hA aM aD hC hn ao b6 bb bd be bf bh bj ab;go_enter func21,ntmps21;go_upto_region 1 with (fail)
 rw [<-hW];clear hW;go_upto_region 4 with (go_at_call 57;refine mR (bx.o _ E) λw1 aR=>?_)
 obtain⟨p,H⟩:=bY aR;have TV:=aR.alloc (cw #[(0:Int),(0:Int)] 69);have b5:(prog.info? 51).map (·.size)=cg 31:=(cj rX).2;go_wp2_with fail
 go_loopw [4] (λs4 wr=>∃k:Nat,k<=s/\s4=k/\(∀j (l:bI),j<k->agY[j]?=cg l->l.good=cD)/\bH [] W wr) (λs4 _=>s-(cF s4).toNat);case atStart=>exact⟨0,gn,rfl,λ_ _ h=>absurd h (aU _),TV⟩
 obtain⟨k,hk,rfl,O,m⟩:=hrel;have av:=lh O;clear O;by_cases aq:k<s
 .obtain⟨g,o,rfl,G⟩:=HC.o gn;have b9:k<agY.length:=by have:=HN.o;omega
  obtain⟨l,A⟩:∃l,agY[k]?=cg l:=⟨agY[k],nv⟩;have a0:l∈agY:=aH A;have S:=lh λw' T=>G w' T k l A;have af:=lh A;have a7:Hid (∀w',bH [] w w'->w'.cell? ⟨g,o+k*31,ch⟩=cg (cb .i64 l.id)):=lh λw' T=>by simpa using (G w' T k l A).2 0 _ rfl
  have b0:(0:Int)<=(k:Int):=gn
  have b1:(k:Int)<(s:Int):=gn
  clear G A;obtain⟨q,L⟩:∃q,l.good=q:=⟨_,rfl⟩;have Q:=lh L;have a2:=λu hu=>bo.o l u hu a0;rw [L]at a2;have HF:=lh a2;clear L a2 a0 b9;obtain⟨p,H⟩:=bY m;go_upto_region 7 with (fail)
  clear p H;have Z:=E.t m;have a5:Hid (∀w',bH [] wr w'->(Instr.loadAt 51 (cf (cg ⟨g,o+k*31,ch⟩))).run cy w'=.ok (cd ⟨l.row⟩) w'):=lh λw' T=>cl w' _ _ 51 _ _ (S.o _ (Z.t T)).2 cx rfl b5;have X:Hid (∀w',bH [] wr w'->w'.cell? ⟨w,0,ch⟩=cg (ca sA sn sc)):=lh λw' T=>sk
  have D1:Hid (∀w',bH [] wr w'->w'.cell? ⟨w,1,ch⟩=cg (cb .i64 P)):=lh λw' T=>pj
  have D2:Hid (∀w',bH [] wr w'->w'.cell? ⟨w,2,ch⟩=cg (cb .i64 next)):=lh λw' T=>pi
  have N:Hid (∀w',bH [] wr w'->w'.cell? ⟨w,3,ch⟩=cg (ca (cg ⟨g,o,ch⟩) s R)):=lh λw' T=>ph
  have aL:=lh λu (T:bH [] wr u)=>HF.o u (S.o _ (Z.t T)).1;have C:=tR wr;unfold bI.v at aL;generalize l.row=ar at *;refine cu.start (λw'=>bH [] wr w') 7 lB ?_;have C:=C.drawn 1;change bH [] wr wr.drew at C;generalize wr.drew=Y at *;refine fE 0 (cd #[ca sA sn sc,P,next,ca (cg ⟨g,o,ch⟩) s R]) ?_ (j:=λw' z=>nh);refine fK 1 ?_;refine Xy 2 (ca (cg ⟨g,o,ch⟩) s R) (λw' z=>N.out _ z) ?_;refine fE 3 k ?_;refine fK 4 ?_;refine Xz 5 (cd ⟨ar⟩) (λw' z=>a5.o w' z) ?_;refine PR 6 (aL.o _ C) λw5 C _=>?_
  refine Yo ?_
  have B:=m.t C;obtain⟨p,H⟩:=bY B;clear a5 X D1 D2 N aL;have ap:=a7.o _ (E.t B);cases q with
  |true=>
   go_wp2;go_roundw;case rel=>exact⟨k+1,gn,by go_num,λj V F n=>by
    by_cases h:j<k
    .exact av.o j V h n
    obtain rfl:j=k:=gn;have n:=af.o.symm.t n;injection n with n;subst n;exact Q.o,B⟩
   simp [cF];omega
  |false=>
   (go_wp2_with fail);have J:_:=(p _ _ (by omega:w.heap.size+1<W.heap.size)).t z0;have K:_:=(p _ _ (by omega:w.heap.size+1<W.heap.size)).t z1;refine ag (v:=cd #[(1:Int),l.id]) mC rfl ⟨.mk _ _ ⟨λe=>?_,λh=>?_⟩,?_⟩
   .cases e
   .have:=K1.out h k l af.o;rw [Q.o]at this;cases this
   exact ((E.t B).sc).sc
 obtain rfl:s=k:=gn
 obtain⟨p,H⟩:=bY m;go_wp2_with fail
 go_loopw [6] (λs6 wr=>∃k:Nat,k<=s/\s6=k/\(∀j (l:bI),j<k->agY[j]?=cg l->pM agY P l=cD)/\bH [] W wr) (λs6 _=>s-(cF s6).toNat);case atStart=>exact⟨0,gn,rfl,λ_ _ h=>absurd h (aU _),m⟩
 obtain⟨k,hk,rfl,O,m⟩:=hrel;have aw:=lh O;clear O;by_cases aq:k<s
 .obtain⟨g,o,rfl,G⟩:=HC.o gn;have b9:k<agY.length:=by have:=HN.o;omega
  obtain⟨l,A⟩:∃l,agY[k]?=cg l:=⟨agY[k],nv⟩;have a0:l∈agY:=aH A;have S:=lh λw' T=>G w' T k l A;have af:=lh A;have a7:Hid (∀w',bH [] w w'->w'.cell? ⟨g,o+k*31,ch⟩=cg (cb .i64 l.id)):=lh λw' T=>by simpa using (G w' T k l A).2 0 _ rfl
  have b0:(0:Int)<=(k:Int):=gn
  have b1:(k:Int)<(s:Int):=gn
  clear G A;obtain⟨q,L⟩:∃q,pM agY P l=q:=⟨_,rfl⟩;have Q:=lh L;have a3:=λu (t:bH [] w u) (hu:l.At u)=>bs.o l u t hu;rw [L]at a3;have HF:=lh a3;clear L a3 a0 b9;obtain⟨p,H⟩:=bY m;go_upto_region 13 with (fail)
  clear p H;have Z:=E.t m;have a5:Hid (∀w',bH [] wr w'->(Instr.loadAt 51 (cf (cg ⟨g,o+k*31,ch⟩))).run cy w'=.ok (cd ⟨l.row⟩) w'):=lh λw' T=>cl w' _ _ 51 _ _ (S.o _ (Z.t T)).2 cx rfl b5;have X:Hid (∀w',bH [] wr w'->w'.cell? ⟨w,0,ch⟩=cg (ca sA sn sc)):=lh λw' T=>sk
  have D1:Hid (∀w',bH [] wr w'->w'.cell? ⟨w,1,ch⟩=cg (cb .i64 P)):=lh λw' T=>pj
  have D2:Hid (∀w',bH [] wr w'->w'.cell? ⟨w,2,ch⟩=cg (cb .i64 next)):=lh λw' T=>pi
  have N:Hid (∀w',bH [] wr w'->w'.cell? ⟨w,3,ch⟩=cg (ca (cg ⟨g,o,ch⟩) s R)):=lh λw' T=>ph
  have aL:=lh λu (T:bH [] wr u)=>HF.o u (Z.t T) (S.o _ (Z.t T)).1;have C:=tR wr;unfold bI.v at aL;generalize l.row=ar at *;refine cu.start (λw'=>bH [] wr w') 7 lB ?_;have C:=C.drawn 1;change bH [] wr wr.drew at C;generalize wr.drew=Y at *;refine fE 0 (cd #[ca sA sn sc,P,next,ca (cg ⟨g,o,ch⟩) s R]) ?_ (j:=λw' z=>nh);refine fK 1 ?_;refine Xy 2 (ca (cg ⟨g,o,ch⟩) s R) (λw' z=>N.out _ z) ?_;refine fE 3 k ?_;refine fK 4 ?_;refine Xz 5 (cd ⟨ar⟩) (λw' z=>a5.o w' z) ?_;refine PR 6 (aL.o _ C) λw5 C _=>?_
  refine Yo ?_
  have B:=m.t C;obtain⟨p,H⟩:=bY B;clear a5 X D1 D2 N aL;have ap:=a7.o _ (E.t B);cases q with
  |true=>
   go_wp2;go_roundw;case rel=>exact⟨k+1,gn,by go_num,λj V F n=>by
    by_cases h:j<k
    .exact aw.o j V h n
    obtain rfl:j=k:=gn;have n:=af.o.symm.t n;injection n with n;subst n;exact Q.o,B⟩
   simp [cF];omega
  |false=>
   (go_wp2_with fail);have J:_:=(p _ _ (by omega:w.heap.size+1<W.heap.size)).t z0;have K:_:=(p _ _ (by omega:w.heap.size+1<W.heap.size)).t z1;refine ag (v:=cd #[(40:Int),l.id]) mC rfl ⟨.mk _ _ ⟨λe=>?_,λh=>?_⟩,?_⟩
   .cases e
   .have:=K2.out h k l af.o;rw [Q.o]at this;cases this
   exact ((E.t B).sc).sc
 obtain rfl:s=k:=gn
 obtain⟨p,H⟩:=bY m;go_wp2_with fail
 go_loopw [7] (λs7 wr=>∃k:Nat,k<=s/\s7=k/\(∀j (l:bI),j<k->agY[j]?=cg l->tK agY l)/\bH [] W wr) (λs7 _=>s-(cF s7).toNat);case atStart=>exact⟨0,gn,rfl,λ_ _ h=>absurd h (aU _),m⟩
 obtain⟨k,hk,rfl,O,m⟩:=hrel;have ac:=lh O;clear O;by_cases aq:k<s
 .obtain⟨g,o,rfl,G⟩:=HC.o gn;have b9:k<agY.length:=by have:=HN.o;omega
  obtain⟨l,A⟩:∃l,agY[k]?=cg l:=⟨agY[k],nv⟩;have a0:l∈agY:=aH A;have S:=lh λw' T=>G w' T k l A;have af:=lh A;have a7:Hid (∀w',bH [] w w'->w'.cell? ⟨g,o+k*31,ch⟩=cg (cb .i64 l.id)):=lh λw' T=>by simpa using (G w' T k l A).2 0 _ rfl
  have b0:(0:Int)<=(k:Int):=gn
  have b1:(k:Int)<(s:Int):=gn
  clear G A;have bp:Hid (∀w',bH [] w w'->w'.cell? ⟨g,o+k*31+1,ch⟩=cg (cb .i64 l.ag1)):=lh λw' T=>(S.o w' T).2 1 _ rfl;have bq:Hid (∀w',bH [] w w'->w'.cell? ⟨g,o+k*31+16,ch⟩=cg (cb .i64 l.of)):=lh λw' T=>(S.o w' T).2 16 _ rfl;have bB:=bp.o _ (E.t m);clear a0 b9;by_cases a8:l.ag1=4
  .have ay:=lh a8;rw [a8]at bB;clear a8;obtain⟨p,H⟩:=bY m;(go_upto_region 19 with (fail));clear p H;have Z:=E.t m;have X:Hid (∀w',bH [] wr w'->w'.cell? ⟨w,0,ch⟩=cg (ca sA sn sc)):=lh λw' T=>by rw [(bY (m.t T)).1 _ _ (ai q0)];exact q0
   have D1:Hid (∀w',bH [] wr w'->w'.cell? ⟨w,1,ch⟩=cg (cb .i64 P)):=lh λw' T=>pj
   have D2:Hid (∀w',bH [] wr w'->w'.cell? ⟨w,2,ch⟩=cg (cb .i64 next)):=lh λw' T=>pi
   have N:Hid (∀w',bH [] wr w'->w'.cell? ⟨w,3,ch⟩=cg (ca (cg ⟨g,o,ch⟩) s R)):=lh λw' T=>ph
   have D4:Hid (∀w',bH [] wr w'->w'.cell? ⟨g,o+k*31+16,ch⟩=cg (cb .i64 l.of)):=lh λw' T=>bq.o _ (Z.t T);have bR:Hid (∃a,sQ U l.of=a):=lh ⟨_,rfl⟩;have aL:=lh λu (T:bH [] wr u)=>HA.o l.of u (Z.t T);have br:Hid (∀r,mW U l.of=cg r->r<s):=lh λr M=>by have:=(bi.1 M).1;have:=HL.o;omega
   have bv:Hid (mW U l.of=ch->¬tK agY l):=lh λM an=>by obtain⟨x,hx,_⟩:=an ay.o;unfold dh at hx;rw [<-aa.o,M]at hx;cases hx
   have bz:Hid (∀r I,mW U l.of=cg r->agY[r]?=cg I->(tK agY l↔I.ag1≠3)):=lh λr I M a9=>by
    have b7:dh agY l.of=cg I:=(by unfold dh;rw [<-aa.o,M];exact a9);constructor
    .intro an;obtain⟨x,hx,bM⟩:=an ay.o;rw [b7]at hx;injection hx with hx;subst hx;exact bM
    exact λh _=>⟨I,b7,h⟩
   have C:=tR wr;refine cu.start (λw'=>bH [] wr w') 8 lB ?_;have C:=C.drawn 1;change bH [] wr wr.drew at C;generalize wr.drew=Y at *;refine fE 0 (cd #[ca sA sn sc,P,next,ca (cg ⟨g,o,ch⟩) s R]) ?_ (j:=λw' z=>nh);refine fK 1 ?_;refine Xy 2 (ca (cg ⟨g,o,ch⟩) s R) (λw' z=>N.out _ z) ?_;refine fE 3 k ?_;refine fK 4 ?_;refine fK 5 ?_;refine Xy 6 l.of (λw' z=>D4.out _ z) ?_;refine PR 7 (aL.o _ C) λw5 C _=>?_;refine Yo ?_;have B:=m.t C;obtain⟨p,H⟩:=bY B;clear X D1 D2 N D4 aL;have ap:=a7.o _ (E.t B);cases a1:mW U l.of with
   |none=>
    have a6:sQ U l.of=-1:=(by unfold sQ;rw [a1]);have HB:=lh (bv.o a1);rw [a6];clear a6 a1;(go_wp2_with fail);have J:_:=(p _ _ (by omega:w.heap.size+1<W.heap.size)).t z0;have K:_:=(p _ _ (by omega:w.heap.size+1<W.heap.size)).t z1;refine ag (v:=cd #[(40:Int),l.id]) mC rfl ⟨.mk _ _ ⟨λe=>?_,λh=>?_⟩,?_⟩
    .cases e
    .exact (HB.o (K3.out h k l af.o)).elim
    exact ((E.t B).sc).sc
   |some r=>
    have a6:sQ U l.of=(r:Int):=(by unfold sQ;rw [a1]);have c8:=br.o r a1;have ba:r<agY.length:=nk;obtain⟨I,a9⟩:∃I,agY[r]?=cg I:=⟨agY[r],by simp [ba]⟩;have HB:=lh (bz.o r I a1 a9);obtain⟨g',o',e',aE⟩:=HC.o gn;injection e' with e';injection e' with e1 e2 e3;subst e1;subst e2;clear e3;have bF:w5.cell? ⟨g,o+r*31+1,ch⟩=cg (cb .i64 I.ag1):=(aE _ (E.t B) r I a9).2 1 _ rfl;rw [a6];have c0:(0:Int)<=(r:Int):=gn;have c1:(r:Int)<(s:Int):=gn;clear a6 a1 aE a9 ba;by_cases h3:I.ag1=3
    .rw [h3]at bF;(go_wp2_with fail);have J:_:=(p _ _ (by omega:w.heap.size+1<W.heap.size)).t z0;have K:_:=(p _ _ (by omega:w.heap.size+1<W.heap.size)).t z1;refine ag (v:=cd #[(40:Int),l.id]) mC rfl ⟨.mk _ _ ⟨λe=>?_,λh=>?_⟩,?_⟩
     .cases e
     .exact ((HB.o.1 (K3.out h k l af.o)) h3).elim
     exact ((E.t B).sc).sc
    have bT:(I.ag1==3)=cB:=qm;go_wp2;go_roundw;case rel=>exact⟨k+1,gn,by go_num,λj V F n=>by
     by_cases h:j<k
     .exact ac.o j V h n
     obtain rfl:j=k:=gn;have n:=af.o.symm.t n;injection n with n;subst n;exact HB.o.2 h3,B⟩
    simp [cF];omega
  have c6:(l.ag1==4)=cB:=by simpa using a8
  obtain⟨p,H⟩:=bY m;go_wp2;go_roundw;case rel=>exact⟨k+1,gn,by go_num,λj V F n=>by
   by_cases h:j<k
   .exact ac.o j V h n
   obtain rfl:j=k:=gn;have n:=af.o.symm.t n;injection n with n;subst n;exact λe=>absurd e a8,m⟩
  simp [cF];omega
 obtain rfl:s=k:=gn
 obtain⟨p,H⟩:=bY m;go_wp2_with fail
 go_loopw [9] (λs9 wr=>∃k:Nat,k<=s/\s9=k/\(∀j (y:Int),j<k->U[j]?=cg y->¬iY agY y y)/\bH [] W wr) (λs9 _=>s-(cF s9).toNat);case atStart=>exact⟨0,gn,rfl,λ_ _ h=>absurd h (aU _),m⟩
 obtain⟨k,hk,rfl,O,m⟩:=hrel;have ax:=lh O;clear O;by_cases aq:k<s
 .obtain⟨g,o,rfl,G⟩:=HC.o gn;have b9:k<agY.length:=by have:=HN.o;omega
  obtain⟨l,A⟩:∃l,agY[k]?=cg l:=⟨agY[k],nv⟩;have a0:l∈agY:=aH A;have S:=lh λw' T=>G w' T k l A;have af:=lh A;have a7:Hid (∀w',bH [] w w'->w'.cell? ⟨g,o+k*31,ch⟩=cg (cb .i64 l.id)):=lh λw' T=>by simpa using (G w' T k l A).2 0 _ rfl
  have b0:(0:Int)<=(k:Int):=gn
  have b1:(k:Int)<(s:Int):=gn
  clear G A;have ap:=a7.o _ (E.t m);have HY:Hid (U[k]?=cg l.id):=lh (by rw [aa.o,aP,af.o];rfl);clear a0 b9;generalize l.id=y at *;obtain⟨p,H⟩:=bY m;go_upto_region 26 with (fail)
  go_wp2_with (first
   |(go_at_call 62;refine (bw.o _ _ (E.t m)).mono ?_;rintro e w1 ⟨v1,xs,rfl,b2,b8,ao,aR⟩;obtain⟨A7,n7,c7,rfl,ad⟩:=b2.ints;have B:=m.t aR;obtain⟨bc,bA⟩:=bY B;have bE:=lh ad.1;have hI:=lh ad;clear ad;have HM:=lh b8;clear b8;have bt:=lh ao;clear ao b2)
   |(go_at_call 61;refine (KG xs y A7 n7 c7 (by have:=bE.out;have:=bt.o;omega) w1 hI.out).mono ?_;rintro e w2 ⟨rfl,z⟩;rw [z];clear z;have Q:=lh (HM.o y);generalize L:decide (y∈xs)=q;have a4:=lh L;clear L;cases q))
  .go_roundw;case rel=>exact⟨k+1,gn,by go_num,λj V F n=>by
    by_cases h:j<k
    .exact ax.o j V h n
    obtain rfl:j=k:=gn;have n:=HY.o.symm.t n;injection n with n;subst n;exact λM=>absurd (Q.o.2 M) (of_decide_eq_false a4.o),B⟩
   simp [cF];omega
  have p:=bc;have J:_:=(p _ _ (by omega:w.heap.size+1<W.heap.size)).t z0;have K:_:=(p _ _ (by omega:w.heap.size+1<W.heap.size)).t z1;refine ag (v:=cd #[(42:Int),y]) mC rfl ⟨.mk _ _ ⟨λe=>?_,λh=>?_⟩,?_⟩
  .cases e
  .exact (K4.out h k y HY.o (Q.o.1 (of_decide_eq_true a4.o))).elim
  exact ((E.t B).sc).sc
 obtain rfl:s=k:=gn
 obtain⟨p,H⟩:=bY m;go_wp2_with fail
 have am:∀x,¬iY agY x x:=λx M=>by obtain⟨j,F⟩:=zL M;rw [<-aa.o]at F;exact ax.o j x (by have:=(ah.1 F).1;have:=HL.o;omega) F M
 have hD:=λu (T:bH [] W u)=>bm.o am u (E.t T);generalize b4:dP agY 2501 P=D at *;obtain⟨bP,bk,bl⟩:=lh3 b4 am hD;clear b4 am hD;go_wp2_with (go_at_call 63;refine mR (bl.o _ m) λw2 bL=>?_;have B:=m.t bL;obtain⟨bc,bA⟩:=bY B;have Q:Hid (∃q,decide (6<D)=q):=lh ⟨_,rfl⟩;obtain⟨q,L⟩:=Q.o;have a4:=lh L;cases q)
 .have p:=bc;have J:_:=(p _ _ (by omega:w.heap.size+1<W.heap.size)).t z0;have K:_:=(p _ _ (by omega:w.heap.size+1<W.heap.size)).t z1;refine ag (v:=cd #[(0:Int),(0:Int)]) mC rfl ⟨.mk _ _ ⟨λe=>?_,λh=>?_⟩,?_⟩
  .exact K6.out (λj l F=>av.o j l pQ F) (λj l F=>aw.o j l pQ F) (λj l F=>ac.o j l pQ F) (λj y F M=>bk.o y M) (by have:=of_decide_eq_false a4.o;omega)
  .rfl
  exact ((E.t B).sc).sc
 have p:=bc;have J:_:=(p _ _ (by omega:w.heap.size+1<W.heap.size)).t z0;have K:_:=(p _ _ (by omega:w.heap.size+1<W.heap.size)).t z1;refine ag (v:=cd #[(43:Int),P]) mC rfl ⟨.mk _ _ ⟨λe=>?_,λh=>?_⟩,?_⟩
 .cases e
 .have:=K5.out h;have:=of_decide_eq_true a4.o;omega
 exact ((E.t B).sc).sc
def bI.nd(l:bI)(r:Rc): Rc:=l.Xg.area (jC l.Xg l.ks l.cs) r (-1)
def bI.wide(l:bI)(r:Rc): Rc:=(r.join (l.nd r)).can
theorem bI.wide_in(l:bI){r:Rc}(h:r.InC): (l.wide r).InC:=Rc.can_join h
def bI.step(l:bI)(r:Rc): Rc:=if l.ag3=cB/\l.ag1=3 then l.wide r else r
def Zh(ks:List bI)(r:Rc): Rc:=ks.foldr bI.step r
theorem aaN(ks:List bI){r:Rc}(h:r.InC): (Zh ks r).InC:=by
 induction ks with
 |nil=>exact h
 |cons l ks ih=>
  show (l.step (Zh ks r)).InC;unfold bI.step;split
  .exact l.wide_in ih
  exact ih
structure ug where
 layer:Int
 below:Bool
 r:Rc
def ug.row(x:ug): List ck:=[x.layer,ce x.below,x.r.x0,x.r.y0,x.r.x1,x.r.y1]
def ug.v(x:ug): ck:=cd ⟨x.row⟩
def abw(a:List ug)(x:ug): List ug:=if x.r.empty=cD then a else a++[x]
def Ye(ks:List bI)(r:Rc): List (bI×Rc):=match ks with
 | []=>[]
 |l::ks=>if l.ag3=cD then Ye ks r else (l,Zh ks r)::Ye ks r
def afF(ks:List bI)(r:Rc): List ug:=((Ye ks r).filter (λx=>x.1.ag1≠3)).map λx=>⟨x.1.id,cB,x.2⟩
theorem aai(ks:List bI)(r:Rc): (Ye ks r).length<=ks.length:=by
 induction ks with
 |nil=>exact aQ _
 |cons l ks ih=>
  unfold Ye;split
  .simp;omega
  simp;exact ih
theorem adz(ks:List bI){r:Rc}(h:r.InC): ∀x∈Ye ks r,x.2.InC:=by
 induction ks with
 |nil=>intro x a;simp [Ye]at a
 |cons l ks ih=>
  intro x a;unfold Ye at a;split at a
  .exact ih x a
  rcases aS.1 a with rfl|a
  .exact aaN ks h
  exact ih x a
def aa4(ls:List bI)(l:bI)(id:Int)(r:Rc): List ug:=
 if l.ag1=4 then abw [] ⟨l.of,cB,(l.agZ.need r).can⟩
 else if l.ag1=2 then afF (l.ag0.filterMap (dh ls)) r
 else if l.ag1=3 then abw [] ⟨id,cD,(l.nd r).can⟩ else []
theorem iD{ls:List bI}{id:Int}{l:bI}(h:dh ls id=cg l): ∃k:Nat,sQ (ls.map (·.id)) id=(k:Int)/\ls[k]?=cg l/\l.id=id:=by
 unfold dh at h;unfold sQ;cases C:mW (ls.map (·.id)) id with
 |none=>rw [C]at h;cases h
 |some k=>
  rw [C]at h;have h:ls[k]?=cg l:=h;refine⟨k,rfl,h,?_⟩;unfold mW at C;rw [bi]at C;obtain⟨e,f,_⟩:=C;obtain⟨g,a⟩:=ah.1 h;rw [List.getElem_map,a]at f;simpa using f
theorem zq(d:df)(id:Int)(l:bI)(A:dh d.agY id=cg l)(w:ci)(h:d.At w): CR 40 #[d.v,id] w l.v:=by
 obtain⟨k,z,U,_⟩:=iD A;have s:=λu (t:bH [] w u)=>uD d id u (h.u t);rw [show d.ids=d.agY.map (·.id) from rfl,z]at s;have b9:k<d.agY.length:=(ah.1 U).1;have a1:k<d.ln:=by rw [h.agY.1];exact b9
 obtain⟨g,n,L,B⟩:=h.agY.cell gn;have aE:=λu (t:bH [] w u)=>(B u t k l U).2;clear B;have a2:=h.small;clear U b9 h A z;obtain⟨F,H,G,ag2,E,next,lA,j,x,agY⟩:=d;simp only [df.v]at *;subst L;have I:=lh s;have J:=lh aE;clear s aE;obtain⟨W,m⟩:=eX ((w.alloc (cw #[ca F H G,E,next,ca (cg ⟨g,n,ch⟩) j x] 29)).alloc (cw ⟨dF.row⟩ 51));have q:bH [] w W:=m▸((tR w).a _).a _;have a0:w.heap.size+2<=W.heap.size:=mq
 have e:=fU m;have f:=ZH m;have X:=cP 0 _ e;have N:=cP 1 _ e;have O:=cP 2 _ e;have D:=cP 3 _ e;have a6:=lh f;have y:=lh gI;clear e f;go_enter func40,ntmps40;go_upto_region 1 with (refine bQ rfl (di (t:=51) rfl (y.o _)) ?_;try go_frame)
 rw [<-m];clear m y;have Q:(0:Int)<=(k:Int):=gn
 have R:(k:Int)<(j:Int):=gn
 refine sN 7 (tR W) λV i=>?_;refine fK 0 ?_;refine Xy 1 (ca (cg ⟨g,n,ch⟩) j x) (λw' c=>tc c D) ?_;refine fE 2 (cd #[ca F H G,E,next,ca (cg ⟨g,n,ch⟩) j x]) ?_ (j:=λw' c=>by have S:=tc c X;have T:=tc c N;have Y:=tc c O;have Z:=tc c D;go_simp);refine fE 3 id ?_;refine eH 4 λK b=>?_;go_simp;refine mR (I.o _ (q.t i)) λwy C=>?_;have i:=i.t C;clear C;refine gK b i ?_;clear b K
 refine fK 5 ?_;refine Xz 6 (cd ⟨l.row⟩) (λw' c=>cl _ g (n+k*31) 51 l.row _ (J.o _ (q.t c)) cx rfl (cj dS).2) ?_;have f:=(i.old (w.heap.size+1) gn lz).t a6.o;have a8:=dQ (o:=0) (ty:=51) (p:=l.row) (L':=l.row) f (cj dS).2 lK (row_one _) lK;have M:=co (P:=cy) _ (w.heap.size+1) 51 51 ⟨l.row⟩ (0,0) _ (eQ (L':=l.row) f) cx rfl (cj dS).2;refine iZ λK b=>?_;refine fO (d:=ch) rfl 51 (.tmp 4) (.tmp 11) rfl rfl rfl a8 ?_;refine b _ _ ?_;clear b K;try go_frame
 go_wp2_with fail
 exact ag (v:=l.v) (by simp [results,results40,ct,M];rfl) rfl ⟨rfl,(q.t i).setRow _ (.inr gn)⟩
theorem Px{ls:List bI}{id:Int}(n:dh ls id=ch): sQ (ls.map (·.id)) id=-1:=by
 unfold dh at n;unfold sQ;cases C:mW (ls.map (·.id)) id with
 |none=>rfl
 |some k=>
  rw [C]at n;have n:ls[k]?=ch:=n;unfold mW at C;rw [bi]at C;obtain⟨e,_⟩:=C;rw [bn]at n;simp at e;omega
def Fq(b:List Nat)(ls:List bI)(id:Int)(w':ci)(e:cv): Prop:=match dh ls id with
 |some l=>∃m,l.Like m/\gG b w' (λu=>m.At u)/\e=cE (.tuple #[m.v,ce cD])
 |none=>e=cE (.tuple #[dF.v,ce cB])
def rW(b:List Nat)(ls:List bI)(id:Int)(w':ci)(e:cv): Prop:=match dh ls id with
 |some l=>∃m,l.Like m/\gG b w' (λu=>m.At u)/\m.Xh<=m.Xj/\e=cE (.tuple #[m.v,ce cD])
 |none=>e=cE (.tuple #[dF.v,ce cB])
theorem Bh(d:df)(id:Int)(w:ci)(j:List Nat)(aw:∀b∈j,b<w.heap.size)(C:gG j w λu=>d.At u)(a5:∀l∈d.agY,l.Thin): cq cy 76 #[d.v,id] w λe w'=>rW j d.agY id w' e/\bH [] w w':=by
 have h:=C.now;have D:=λu (t:bH [] w u) pb (hp:u.cell? ⟨pb,0,ch⟩=cg (cb .i64 id))=>MH d.ids d.agY rfl d.lA d.ln d.lc h.small id pb u (h.u t).agY hp;have ap:=h.small;have T:=h.agY.1;have S:=h.agY;have M:gG j w λu=>kG u d.lA d.ln d.agY:=C.imp λu F=>F.agY;have Q:d.ids=d.agY.map (·.id):=rfl;clear h C;obtain⟨sA,sn,sc,ag2,am,next,lA,G,lc,agY⟩:=d;simp only [df.v]at *;rw [Q]at D;clear Q;have IX:∀(K:Fn) (first J:Array ck) (w:ci),(Instr.makeFunc K first J).run cy w=.ok (.func K first J) w:=λ_ _ _ _=>rfl;obtain⟨W,i⟩:=eX (((w.alloc (cw #[ca sA sn sc,am,next,ca lA G lc] 29)).alloc (cw #[id] 3)).alloc (cw ⟨dF.row⟩ 51));have y:bH [] w W:=i▸(((tR w).a _).a _).a _;have an:w.heap.size+3<=W.heap.size:=by rw [i];simp
 have X:=dJ i;have Y:=Z5 i;have H:=iR i;have B:=cP 3 _ X;have Z:=D W y (w.heap.size+1) (bJ Y rfl);obtain⟨s,x,I,HL,a4,a0,a7,a3⟩:=lh8 gI Z H S M aw a5 T;clear X Y H Z D S a5 T M aw;cases a1:dh agY id with
 |none=>
  have N:sQ (agY.map (·.id)) id=-1:=Px a1;have bt:=lh a1;rw [N]at x;clear N a1;go_enter func76,ntmps76;go_upto_region 1 with (refine bQ rfl (di (t:=51) rfl (s.o _)) ?_;try go_frame)
  rw [<-i];clear i s;simp only [aI];go_upto_region 3 with (go_at_call 134;refine mR x.o λn f=>?_)
  have H:=(f.old (w.heap.size+2) gn lz).t I.o;have a8:=dQ (o:=0) (ty:=51) (p:=dF.row) (L':=dF.row) H (cj dS).2 lK (row_one _) lK;have E:=co (P:=cy) _ (w.heap.size+2) 51 51 ⟨dF.row⟩ (0,0) _ (eQ (L':=dF.row) H) cx rfl (cj dS).2;have aa:∀u,(Instr.build 51 #[]).run cy u=.ok (cd ⟨dF.row⟩) u:=λu=>lB
  have TT:=lh ((y.t f).setRow (g:=w.heap.size+2) ⟨dF.row⟩ (.inr gn));clear H f B;go_wp2_with (first
   |(refine bQ rfl (iU (vs:=#[]) rfl rfl (aa _)) ?_;try go_frame)
   |(refine sR a8 ?_))
  refine ag (v:=.tuple #[dF.v,ce cB]) ?_ rfl ⟨?_,TT.out⟩
  .simp [results,results76,ct,E];rfl
  unfold rW;rw [bt.o]
 |some l=>
  obtain⟨k,R,U,_⟩:=iD a1;rw [R]at x;have bt:=lh a1;have b9:k<agY.length:=(ah.1 U).1;have ao:k<G:=by rw [a3.o];exact b9
  obtain⟨gl,ol,rfl,L⟩:=HL.o.cell gn;have b0:(0:Int)<=(k:Int):=gn
  have b1:(k:Int)<(G:Int):=gn
  have HR:=lh (λu t=>L u t k l U);have ad:=a7.o l (aH U);have a2:=lh U;clear R U b9 a1 L;go_enter func76,ntmps76;go_upto_region 1 with (refine bQ rfl (di (t:=51) rfl (s.o _)) ?_;try go_frame)
  rw [<-i];clear i s;simp only [aI];go_upto_region 4 with (go_at_call 134;refine mR x.o λn f=>?_;have B:=(show n.cell? ⟨w,3,ch⟩=_ from ((bY f).1 _ _ (ai B)).t B))
  have z:=y.t f;have ac:=cl n gl (ol+k*31) 51 l.row _ (HR.o _ z).2 cx rfl (cj dS).2;have af:gG ((w.heap.size+2)::j) n λu=>l.At u:=(a4.o.new z (λb c O=>by rcases aS.1 c with rfl|c;omega;exact c)).imp λu F=>(F.2 k l a2.o).1;have V:=IM l n ((w.heap.size+2)::j) (λb c=>by have:=f.size;rcases aS.1 c with rfl|c;omega;have:=a0.o b c;omega) af ad;obtain⟨a6,a9,HO⟩:=lh3 z ((f.old (w.heap.size+2) gn lz).t I.o) V;have ar:w.heap.size+2<n.heap.size:=by have:=f.size;omega
  clear z f V y af;go_wp2_with (first
   |(refine bQ rfl (dw rfl rfl ac) ?_;try go_frame)
   |(go_at_call 136;refine HO.o.mono ?_;rintro e w2 ⟨⟨m,c,A,ab,rfl⟩,q⟩;have H:=(q.old (w.heap.size+2) ar lz).t a9.o;have a8:=dQ (o:=0) (ty:=51) (p:=m.row) (L':=m.row) H (cj dS).2 lK (row_one _) lK;have E:=co (P:=cy) _ (w.heap.size+2) 51 51 ⟨m.row⟩ (0,0) _ (eQ (L':=m.row) H) cx rfl (cj dS).2;have HM:=lh (bg c (bg A q));clear H c A q)
   |(refine sR a8 ?_))
  obtain⟨c,A,q⟩:=HM.o;refine ag (v:=.tuple #[m.v,ce cD]) ?_ rfl ⟨?_,(a6.o.t q).setRow _ (.inr gn)⟩
  .simp [results,results76,ct,E];rfl
  unfold rW;rw [bt.o];exact⟨m,c,(A.setRow lz).mono (λb O=>by simp [O]),ab,rfl⟩
theorem LV(d:df)(id:Int)(w:ci)(c:List Nat)(aw:∀b∈c,b<w.heap.size)(f:gG c w λu=>d.At u)(a5:∀l∈d.agY,l.Thin): cq cy 76 #[d.v,id] w λe w'=>Fq c d.agY id w' e/\bH [] w w':=(Bh d id w c aw f a5).mono λe w' g=>by
 refine⟨?_,g.2⟩;have a:=g.1;unfold rW at a;unfold Fq;cases i:dh d.agY id with
 |none=>rw [i]at a;exact a
 |some l=>
  rw [i]at a;obtain⟨m,h,j,_,k⟩:=a;exact⟨m,h,j,k⟩
