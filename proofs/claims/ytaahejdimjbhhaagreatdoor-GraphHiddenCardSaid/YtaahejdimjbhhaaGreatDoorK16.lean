import Derived.Lib.VarintMem
import Derived.Lib.Walk
import Derived.OwnWalk
import Derived.Laws.IdiomStrings
import Derived.Test.YtaahejdimjbhhaaGreatDoorK08
set_option maxRecDepth 100000
set_option maxHeartbeats 0
set_option linter.all false
namespace Go.Proofs.YtaahejdimjbhhaaGreatDoor
open Tryz Go.RowKit Go.Den
open Go.Value renaming string->an,slice->ap,int->aq
open Go.Obj renaming cells->av
open Option renaming some->aw,none->ay
open Go renaming World->aE,heap_alloc_new->aL,Value->aM
open Go.Proofs.Tryz renaming underlying154->ba,prog->bb,underlying5->bc,underlying9->bd
theorem VG:(prog.info? 5).map (λi=>(i.zero,i.size,i.bytes))=aw (aw (aq .u8 0),1,1):=lB
theorem bH.of_below{w w':aE}(h:Below w.heap.size w w'): bH [] w w':=⟨h.size,λj k _=>h.block j k,h.os,h.tape,h.output⟩
def Ii(n:Int): Nat:=(n.emod 18446744073709551616).toNat
def Qz(n:Int): List UInt8:=Lib.uvarint (Ii n)
def MZ(n:Int): BAr:=⟨(Qz n).toArray⟩
theorem AZ(n:Int): Ii n<18446744073709551616:=by have h:=Int.emod_lt_of_pos n (show (0:Int)<18446744073709551616 by decide);have e:=Int.emod_nonneg n (show (18446744073709551616:Int)≠0 by decide);show (n%18446744073709551616).toNat < _;omega
theorem Ju(n:Int): IntKind.u64.wrap n=(Ii n:Int):=by
 have a:=Int.emod_nonneg n (show (18446744073709551616:Int)≠0 by decide);have e:(Ii n:Int)=n%18446744073709551616:=by show (((n%18446744073709551616).toNat:Nat):Int)=_;omega
 rw [e];simp [IntKind.wrap,IntKind.bits,IntKind.signed]
theorem ET(l:List UInt8){j:Nat}(k:j<l.length): (Lib.byteCells l)[j]?=aw (aq .u8 (l[j].toNat:Int)):=by unfold Lib.byteCells;rw [aP,aB k];rfl
theorem NL(n:Int)(w:aE): CR 33 #[n] w (an (MZ n)):=by
 obtain⟨C,v,B,L,aD⟩:=info_parts VG;have N:=AZ n;have z:∀(l:List UInt8),Qz n=l->(Value.string ⟨l.toArray⟩:aM)=an (MZ n):=λl h=>by rw [<-h];rfl
 unfold Qz at z;have M:=Ju n;generalize Ii n=x at *;have E:=lh z;clear z;go_enter func33,ntmps33;go_wp2;go_loopw [3,4] (λQ A wr=>∃(y:Nat) (pre:List UInt8),A=aq .u64 y/\y<=x/\Lib.uvarint x=pre++Lib.uvarint y/\wr.ownsRow w.heap.size 5 1 Q pre.length (Lib.byteCells pre)/\Below w.heap.size w wr)
  (λ_ A _=>(intOf A).toNat)
 case atStart=>exact⟨x,[],by first|rfl|(rw [M]),aQ _,rfl,⟨by simp [Lib.byteCells],.inl ⟨rfl,rfl⟩⟩,Below.refl _ _⟩
 obtain⟨y,pre,rfl,U,s,p,V⟩:=hrel;have ao:=Lib.uvarint_length64 N;have S:pre.length+(Lib.uvarint y).length<=10:=by have F:=congrArg List.length s;rw [aO]at F;omega
 have X:=Lib.uvarint_pos y;by_cases H:128<=y
 .have T:bits .or .u8 ((y:Int)%256) 128=((y%128+128:Nat):Int):=by rw [Lib.u8_or128_any _ gn gn];omega
  go_wp2_with (at_builtin;refine wpList_append_own _ rfl _ _ 154 rfl w.heap.size 5 C (aq .u8 0) 1 1 ba v B L aD rfl lG _ _ _ rfl (p.alloc _) ⟨wr,0,ay⟩ 1 1 [Value.int .u8 ((y%128+128:Nat):Int)] rfl rfl ?c1 ?c2 ?c3 ?c4 ?c5 ?_)
  case c1=>
   intro j u a;match j,a with
   |0,a=>simp at a;subst a;simp [Addr.add]
  case c2=>intro u c;simp at c;subst c;rfl
  case c3=>unfold maxLen;omega
  case c4=>omega
  case c5=>have:=V.size;simp;omega
  intro D f d q _;have t:Below w.heap.size w f:=(V.alloc qw _).grown q pw (λk m=>(p.lt k m).1);go_wp2;go_roundw;case rel=>
   refine⟨y/128,pre++[(y%128+128).toUInt8],by go_num,by omega,by rw [s,Lib.uvarint_big H];simp,?_,t⟩;have G:((y%128+128:Nat):Int)=(y:Int)%128+128:=gn;rw [Lib.byteCells_snoc pre gn,aO,List.length_singleton,G];exact d
  simp [intOf];omega
 have K:Lib.uvarint y=[y.toUInt8]:=Lib.uvarint_small gn;have af:=E.o (pre++[y.toUInt8]) (by rw [s,K]);go_wp2_with (at_builtin;refine wpList_append_own _ rfl _ _ 154 rfl w.heap.size 5 C (aq .u8 0) 1 1 ba v B L aD rfl lG _ _ _ rfl (p.alloc _) ⟨wr,0,ay⟩ 1 1 [Value.int .u8 (y:Int)] rfl rfl ?c1 ?c2 ?c3 ?c4 ?c5 ?_)
 case c1=>
  intro j u a;match j,a with
  |0,a=>simp at a;subst a;simp [Addr.add]
 case c2=>intro u c;simp at c;subst c;rfl
 case c3=>unfold maxLen;omega
 case c4=>omega
 case c5=>have:=V.size;simp;omega
 intro D f d q _;have t:Below w.heap.size w f:=(V.alloc qw _).grown q pw (λk m=>(p.lt k m).1);have a8:=Lib.byteCells_snoc pre (show y<256 by omega);rw [<-a8]at d;obtain⟨g,b,i,rfl,R⟩:∃g b i,D=ap (aw ⟨g,0,ay⟩) (pre++[y.toUInt8]).length b/\f.heap[g]?=aw (av i 5 (0,0)):=by
  rcases d.2 with ⟨_,O⟩|⟨g,b,i,e,_,J,_⟩
  .omega
  exact⟨g,b,i,by rw [e];simp,J⟩
 have I:=run_convert_bytes_back (P:=bb) f 154 9 5 ⟨g,0,ay⟩ b (pre++[y.toUInt8]) ba bc bd (λj a=>d.cells rfl j _ (ET _ a));rw [af,aO,List.length_singleton]at I;rw [aO,List.length_singleton];go_wp2;go_ret;exact⟨rfl,bH.of_below t⟩
def H6(l:List Int): List UInt8:=l.flatMap Qz
def lu(l:List Int): BAr:=⟨(H6 l).toArray⟩
theorem OC(a b:List UInt8): (⟨a.toArray⟩:BAr)++⟨b.toArray⟩=⟨(a++b).toArray⟩:=pm
theorem aaq:lu []=⟨#[]⟩:=rfl
theorem JE(l:List Int)(z:Int): lu l++MZ z=lu (l++[z]):=by unfold lu MZ;rw [OC];simp [H6]
theorem Oa(z:Int): (MZ z).size<=10:=Lib.uvarint_length64 (AZ z)
theorem Dn:∀l:List Int,(H6 l).length<=l.length*10
 | []=>by simp [H6]
 |z::l=>by have h:=Dn l;have f:(Qz z).length<=10:=Lib.uvarint_length64 (AZ z);unfold H6 at *;rw [List.flatMap_cons,aO,List.length_cons];omega
theorem nT(l:List Int): (lu l).size<=l.length*10:=Dn l
theorem NQ{l:List Int}{k:Nat}(h:k<l.length): l.take k++[l.getD k 0]=l.take (k+1):=uz
theorem mP(l:List Int)(A:Option Addr)(n cap:Nat)(i:n<=100000)(w:aE)(h:dn w A n l):
  CR 220 #[ap A n cap] w (an (lu l)):=by
 obtain⟨G,j⟩:=h;have y:=lh j;have q:=lh G;clear j G;go_enter func220,ntmps220;go_wp2_with fail
 go_loopw [3,8] (λs3 s8 wr=>∃k:Nat,k<=n/\s3=an (lu (l.take k))/\s8=k/\bH [] w wr) (λ_ s8 _=>n-(intOf s8).toNat);case atStart=>exact⟨0,gn,rfl,rfl,bH.refl _ _⟩
 obtain⟨k,d,rfl,rfl,T⟩:=hrel;by_cases a5:k<n
 .obtain⟨g,o,rfl,b⟩:=y.o k a5;have ax:wr.cell? ⟨g,o+k,ay⟩=aw (aq .i64 (l.getD k 0)):=((bY T).1 g _ (ai b)).t b;have a:=JE (l.take k) (l.getD k 0);rw [NQ qe]at a;have D:=lh a;have ar:¬9223372036854775807<(lu (l.take k)).size+(MZ (l.getD k 0)).size:=by have e:=nT (l.take k);have f:=Oa (l.getD k 0);rw [List.length_take]at e;omega
  clear a b;generalize l.getD k 0=z at *;have c:=lh (λu=>NL z u);have H:=lh T;clear T;go_wp2_with (go_at_call 33;refine mR (c.o _) λm aR=>?_)
  go_roundw;case rel=>exact⟨k+1,gn,by rw [<-D.o],by go_num,H.o.t aR⟩
  simp [intOf];omega
 obtain rfl:k=n:=gn
 have H:=lh T;clear T;go_wp2;go_ret;exact⟨qt,H.o⟩
def U8(f:Fv)(ks cs:List Int): BAr:=lu [f.ag1,f.Xf,(f.kn:Int)]++lu ks++lu [f.div,f.value,(f.cn:Int)]++lu cs
theorem kY{P:Program}{o:Oper}{a:Act}{w w':aE}{t:TypeId}{x0 x1 x2:Operand}{y0 y1 y2 v:aM}(c:o.op=.buildSlice t 3 #[(0,x0),(1,x1),(2,x2)])(e:a.eval x0=y0)(b:a.eval x1=y1)(f:a.eval x2=y2)
  (C:(Instr.buildSlice t 3 #[(0,y0),(1,y1),(2,y2)]).run P w=.ok v w'):(execOp a.eval o).run P w=.ok (.value v) w':=
 gm c (by simp [e,b,f]) C
theorem xH(a b c:Int)(V:aE): (Instr.buildSlice 22 3 #[(0,a),(1,b),(2,c)]).run bb V=.ok (ap (aw ⟨V,0,ay⟩) 3 3) (V.alloc (av #[a,b,c] 3)):=lB
theorem mZ(a b c:Int)(V:aE): dn (V.alloc (av #[a,b,c] 3)) (aw ⟨V,0,ay⟩) 3 [a,b,c]:=by
 refine⟨rfl,λj k=>⟨_,_,rfl,?_⟩⟩;rw [aA _ _ _ #[a,b,c] 3 (0,0) (aL V _),Nat.zero_add];match j,k with
 |0,_=>rfl
 |1,_=>rfl
 |2,_=>rfl
theorem JB(f:Fv)(ks cs:List Int)(w:aE)(Y:dn w f.kA f.kn ks)(X:dn w f.cA f.cn cs)(a7:f.kn<=100000)(a5:f.cn<=100000):
  CR 146 #[f.v] w (an (U8 f ks cs)):=by
 unfold U8;obtain⟨ag1,Xf,R,n,S,k,e,cA,b,P⟩:=f;simp only [Fv.v]at *;have c:=λu (t:bH [] w u)=>mP ks R n S a7 u (Y.u t);have hC:=λu (t:bH [] w u)=>mP cs cA b P a5 u (X.u t);have h1:=λ(A:Option Addr) u (h:dn u A 3 [ag1,Xf,(n:Int)])=>mP [ag1,Xf,(n:Int)] A 3 3 lG u h;have h2:=λ(A:Option Addr) u (h:dn u A 3 [k,e,(b:Int)])=>mP [k,e,(b:Int)] A 3 3 lG u h;have zK:(lu ks).size<=1000000:=aK (nT _) (by have:=Y.1;omega);have zC:(lu cs).size<=1000000:=aK (nT _) (by have:=X.1;omega);have z1:(lu [ag1,Xf,(n:Int)]).size<=30:=nT _;have z2:(lu [k,e,(b:Int)]).size<=30:=nT _;generalize lu ks=j,lu cs=I,lu [ag1,Xf,(n:Int)]=s1,lu [k,e,(b:Int)]=s2 at *;have n1:¬9223372036854775807<s1.size+j.size:=gn
 have n2:¬9223372036854775807<s1.size+j.size+s2.size:=gn
 have n3:¬9223372036854775807<s1.size+j.size+s2.size+I.size:=gn
 obtain⟨O,N,T,M⟩:=lh4 c hC h1 h2;clear c hC h1 h2 Y X zK zC z1 z2;obtain⟨W,F⟩:=eX (w.alloc (av #[ag1,Xf,ap R n S,k,e,ap cA b P] 43));have m:bH [] w W:=F▸(tR w).a _;have am:w.heap.size+1<=W.heap.size:=sG
 obtain⟨ab,ac,a6,ad,af,a9⟩:=WY (Rf F);have zf:∀i,W.frozen? ⟨w,i,ay⟩=false:=λi=>by rw [F];simp [go_sem]
 clear zf;go_enter func146,ntmps146;go_upto_region 1 with (fail)
 rw [<-F];clear F;refine sN 27 (tR W) λV l=>?_;refine fK 0 ?_;refine Xy 1 ag1 (λw' g=>tc g ab) ?_;refine fK 2 ?_;refine Xy 3 Xf (λw' g=>tc g ac) ?_;refine fK 4 ?_;refine Xy 5 (ap R n S) (λw' g=>tc g a6) ?_;refine fE 6 n ?_;refine fK 9 ?_;refine Xy 10 (ap R n S) (λw' g=>tc g a6) ?_;refine fK 13 ?_;refine Xy 14 k (λw' g=>tc g ad) ?_;refine fK 15 ?_;refine Xy 16 e (λw' g=>tc g af) ?_;refine fK 17 ?_;refine Xy 18 (ap cA b P) (λw' g=>tc g a9) ?_;refine fE 19 b ?_;refine fK 23 ?_;refine Xy 24 (ap cA b P) (λw' g=>tc g a9) ?_;refine tj 7 20 (λK c=>?_) (λK c=>?_)
 .refine bZ (d:=aw 10) rfl (kY (x0:=.tmp 4) (x1:=.tmp 6) (x2:=.tmp 9) rfl rfl rfl rfl (xH ag1 Xf (n:Int) V)) ?_;have Q:=mZ ag1 Xf (n:Int) V;have J:=l.alloc (av #[ag1,Xf,(n:Int)] 3);generalize V.alloc (av #[ag1,Xf,(n:Int)] 3)=E,V.heap.size=a4 at *;refine gK c J ?_;clear c K
  refine tj 8 20 (λK c=>?_) (λK c=>?_)
  .go_simp;refine mR (T.o _ _ Q) λG L=>?_;have z:=J.t L;refine gK c z ?_;clear c K;refine tj 11 20 (λK c=>?_) (λK c=>?_)
   .go_simp;refine mR (O.o _ (m.t z)) λD C=>?_;have s:=z.t C;refine gK c s ?_;clear c K;have l:=s;refine fE 12 (an (s1++j)) ?_;refine ty 20 rfl (kY (x0:=.tmp 17) (x1:=.tmp 19) (x2:=.tmp 22) rfl rfl rfl rfl (xH k e (b:Int) D)) λK c=>?_;have B:=mZ k e (b:Int) D;have x:=s.alloc (av #[k,e,(b:Int)] 3);generalize D.alloc (av #[k,e,(b:Int)] 3)=y,D.heap.size=U at *;refine gK c x ?_;clear c K;refine PR 21 (M.o _ _ B) λa2 p a0=>?_;have l:=p;refine fE 22 (an (s1++j++s2)) ?_;refine PR 25 (N.o _ (m.t p)) λa3 q a1=>?_;have l:=q;refine fE 26 (an (s1++j++s2++I)) ?_;refine Yo ?_;go_wp2;go_ret;exact⟨rfl,m.t q⟩
   refine bZ (d:=aw 23) rfl (kY (x0:=.tmp 17) (x1:=.tmp 19) (x2:=.tmp 22) rfl rfl rfl rfl (xH k e (b:Int) G)) ?_;have B:=mZ k e (b:Int) G;have x:=z.alloc (av #[k,e,(b:Int)] 3);generalize G.alloc (av #[k,e,(b:Int)] 3)=y,G.heap.size=U at *;refine gK c x ?_;clear c K;refine PR 11 (O.o _ (m.t x)) λD s C=>?_;have H:=B.u C;have l:=s;refine fE 12 (an (s1++j)) ?_;refine PR 21 (M.o _ _ H) λa2 p a0=>?_;have l:=p;refine fE 22 (an (s1++j++s2)) ?_;refine PR 25 (N.o _ (m.t p)) λa3 q a1=>?_;have l:=q;refine fE 26 (an (s1++j++s2++I)) ?_;refine Yo ?_;go_wp2;go_ret;exact⟨rfl,m.t q⟩
  refine bZ (d:=aw 23) rfl (kY (x0:=.tmp 17) (x1:=.tmp 19) (x2:=.tmp 22) rfl rfl rfl rfl (xH k e (b:Int) E)) ?_;have B:=mZ k e (b:Int) E;have a8:=Q.u ((tR E).alloc (av #[k,e,(b:Int)] 3));have x:=J.alloc (av #[k,e,(b:Int)] 3);generalize E.alloc (av #[k,e,(b:Int)] 3)=y,E.heap.size=U at *;refine gK c x ?_;clear c K
  refine PR 8 (T.o _ _ a8) λG z L=>?_
  have Z:=B.u L;refine PR 11 (O.o _ (m.t z)) λD s C=>?_
  have H:=Z.u C;have l:=s;refine fE 12 (an (s1++j)) ?_;refine PR 21 (M.o _ _ H) λa2 p a0=>?_
  have l:=p;refine fE 22 (an (s1++j++s2)) ?_;refine PR 25 (N.o _ (m.t p)) λa3 q a1=>?_
  have l:=q;refine fE 26 (an (s1++j++s2++I)) ?_;refine Yo ?_
  go_wp2;go_ret;exact⟨rfl,m.t q⟩
 refine bZ (d:=aw 23) rfl (kY (x0:=.tmp 17) (x1:=.tmp 19) (x2:=.tmp 22) rfl rfl rfl rfl (xH k e (b:Int) V)) ?_;have B:=mZ k e (b:Int) V;have x:=l.alloc (av #[k,e,(b:Int)] 3);generalize V.alloc (av #[k,e,(b:Int)] 3)=y,V.heap.size=U at *;refine gK c x ?_;clear c K
 refine ty 7 rfl (kY (x0:=.tmp 4) (x1:=.tmp 6) (x2:=.tmp 9) rfl rfl rfl rfl (xH ag1 Xf (n:Int) y)) λK c=>?_;have Q:=mZ ag1 Xf (n:Int) y;have aa:=B.u ((tR y).alloc (av #[ag1,Xf,(n:Int)] 3));have J:=x.alloc (av #[ag1,Xf,(n:Int)] 3);generalize y.alloc (av #[ag1,Xf,(n:Int)] 3)=E,y.heap.size=a4 at *;refine gK c J ?_;clear c K
 refine PR 8 (T.o _ _ Q) λG z L=>?_
 have Z:=aa.u L;refine PR 11 (O.o _ (m.t z)) λD s C=>?_
 have H:=Z.u C;have l:=s;refine fE 12 (an (s1++j)) ?_;refine PR 21 (M.o _ _ H) λa2 p a0=>?_
 have l:=p;refine fE 22 (an (s1++j++s2)) ?_;refine PR 25 (N.o _ (m.t p)) λa3 q a1=>?_
 have l:=q;refine fE 26 (an (s1++j++s2++I)) ?_;refine Yo ?_
 go_wp2;go_ret;exact⟨rfl,m.t q⟩
theorem ae4{α:Type}{A B:List α}(j:Nat)(x:α)(a:A[j]?=aw x)(i:A.length=B.length): (A.take j++B.drop j).set j x=A.take (j+1)++B.drop (j+1):=by obtain⟨k,rfl⟩:=ah.1 a;rw [List.set_append_right _ _ lO,List.length_take,Nat.min_eq_left gn,Nat.sub_self,List.drop_eq_getElem_cons gn,List.set_cons_zero,aT k,List.append_assoc];rfl
theorem acU(n:Nat)(h:n<=8)(w:aE): Calls bb 138 #[n] w λe w'=>e=.returned n/\w=w':=by
 have a:min (n:Int) 8=n:=gn
 have b:max 0 (n:Int)=n:=gn
 go_enter func138,ntmps138;go_wp2;go_ret;exact⟨rfl,rfl⟩
def Z8:Array aM:=#[aq .u8 0,aq .u8 0,aq .u8 0,aq .u8 0,aq .u8 0,aq .u8 0,aq .u8 0,aq .u8 0]
theorem agb:(prog.info? 214).map (λi=>(i.zero,i.size))=aw (aw (.agg Z8),8):=lB
theorem afO: AL 214 Z8:=λu=>by unfold Instr.alloc;rw [Sem.run_bind,(zero_of_info agb).1];rfl
structure ig(w wr:aE)(M:List UInt8): Prop where
 t:bH [] w wr
 h:wr.heap[w.heap.size]?=aw (av ⟨Lib.byteCells M⟩ 214 (0,0))
theorem ig.set{w wr:aE}{M:List UInt8}(P:ig w wr M)(j:Nat)(x:UInt8): ig w (wr.setCell ⟨w,j,ay⟩ (aq .u8 x.toNat)) (M.set j x):=nY
theorem ig.u{w wr u:aE}{M:List UInt8}(P:ig w wr M)(T:bH [] wr u): ig w u M:=⟨P.t.t T,T.ox P.h⟩
theorem afs(n j:Nat)(k:j<8): (n:Int)/2 ^ (56-8*j)%256=(((n/256 ^ (7-j)).toUInt8).toNat:Int):=by
 have e:(2:Nat) ^ (56-8*j)=256 ^ (7-j):=by rw [show (256:Nat)=2 ^ 8 by decide,<-Nat.pow_mul];congr 1;omega
 have z:(n:Int)/2 ^ (56-8*j)=((n/256 ^ (7-j):Nat):Int):=by rw [<-e];simp
 rw [z];simp
theorem aaA(n b:Nat)(R:n<9223372036854775808)(x:b<=8)(Q:0<b)(w:aE): CR 78 #[n,b] w (an ⟨(XA n b).toArray⟩):=by
 have C:=lh afO;have F:=lh (acU b x);obtain⟨A,f⟩:=eX (XA n 8);obtain⟨B,g⟩:∃B:List UInt8,B=List.replicate 8 0:=⟨_,rfl⟩;have k:ig w (w.alloc (av Z8 214)) (A.take 0++B.drop 0):=⟨(tR w).a _,by rw [show (⟨Lib.byteCells (A.take 0++B.drop 0)⟩:Array aM)=Z8 by rw [g];rfl];exact aL _ _⟩;have a6:=lh f;have V:A.length=8:=by rw [f,En]
 have s:B.length=8:=by rw [g];rfl
 have c:=lh (bg V s);clear f g V s;go_enter func78,ntmps78;go_upto_region 2 with ((with_reducible refine yA 5 (.pointer (aw ⟨w,0,ay⟩)) (w.alloc (av Z8 214)) ?_ ?_);(next=>exact XC (t:=214) rfl (C.o _));try go_frame)
 generalize w.alloc (av Z8 214)=W at *;go_wp2;go_loopw [7] (λs7 wr=>∃j:Nat,j<=8/\s7=j/\ig w wr (A.take j++B.drop j)) (λs7 _=>8-(intOf s7).toNat);case atStart=>exact⟨0,gn,rfl,k⟩
 clear k;obtain⟨j,p,rfl,P⟩:=hrel;by_cases a5:j<8
 .have N:IntKind.i64.wrap (8*(j:Int))=((8*j:Nat):Int):=by simp [IntKind.wrap,IntKind.bits,IntKind.signed];omega
  have O:IntKind.i64.wrap (56-((8*j:Nat):Int))=((56-8*j:Nat):Int):=lD
  have y:A[j]?=aw (n/256 ^ (7-j)).toUInt8:=by have e:=aeY n 8 j a5;rw [<-a6.o]at e;have I:=c.o.1;simp only [List.getD,aB (show j<A.length by omega),Option.getD_some]at e;rw [aB gn,e]
  have J:∃v,wr.cell? ⟨w,j,ay⟩=aw v:=by simp only [World.cell?,P.h];have I:=c.o;have:j<(Lib.byteCells (A.take j++B.drop j)).length:=(by simp [Lib.byteCells];omega);exact⟨(Lib.byteCells (A.take j++B.drop j))[j],by simp [this]⟩
  obtain⟨v,L⟩:=J;have K:wr.frozen? ⟨w,j,ay⟩=false:=re
  have z:=P.set j (n/256 ^ (7-j)).toUInt8;rw [ae4 j _ y (c.o.1.t c.o.2.symm)]at z;have i:=lh z;have Z:=lh (afs n j a5);clear P z y;go_upto_region 6 with fail
  rw [Z.o];have z:=i.o;generalize (wr.setCell ⟨w,j,ay⟩ (aq .u8 ((n/256 ^ (7-j)).toUInt8.toNat:Int)))=u2 at *;clear L K i Z N O;go_wp2;go_roundw;case rel=>exact⟨j+1,gn,by go_num,z⟩
  simp [intOf];omega
 obtain rfl:j=8:=gn
 have m:A.take 8++B.drop 8=A:=by rw [<-c.o.1,List.take_length,List.drop_eq_nil_of_le (by rw [c.o.1,c.o.2];omega),List.append_nil]
 rw [m,a6.o]at P;clear m;have H:∀d,(convert 154 9 (ap (aw ⟨w,8-b,ay⟩) b d)).run bb wr=.ok (an ⟨(XA n b).toArray⟩) wr:=λd=>by
  have h:=run_convert_bytes_back (P:=bb) wr 154 9 5 ⟨w,8-b,ay⟩ d (XA n b) ba bc bd (λj p=>by
   rw [Addr.add_lit];have E:=congrArg (λl=>l[j]?) (aej n b 8 x);simp only [List.getElem?_drop,aB p]at E;rw [aA _ _ _ _ _ _ P.h];simp [Lib.byteCells,E])
  rwa [En]at h
 have D:=lh H;have G:=lh P.t;have af:IntKind.i64.wrap (8-(b:Int))=((8-b:Nat):Int):=lD
 have S:(Instr.sliceAt 214 (.pointer (aw ⟨w,0,ay⟩)) (aw (aq .i64 ((8-b:Nat):Int))) ay ay).run bb wr=.ok (ap (aw ⟨w,8-b,ay⟩) b b) wr:=by
  have q:prog.arrayLen 214=8:=lB
  have M:∀u,(Go.sizeOf (prog.elem 214)).run bb u=.ok 1 u:=λu=>by rw [show prog.elem 214=5 by kernel_rfl];exact Tryz.sizeOf5 u
  rw [run_sliceAt_array_l wr 214 ⟨w,0,ay⟩ lB .i64 _ gn (by rw [q];omega),M,q];simp only [Result.andThen,slicedAt,Int.toNat_natCast];rw [aF gn,Addr.add_lit,show 8-(8-b)=b by omega];simp
 clear H P;go_wp2_with (go_at_call 138;refine mS (F.o _) ?_)
 rw [D.o];go_wp2;go_ret;exact⟨rfl,G.o⟩
