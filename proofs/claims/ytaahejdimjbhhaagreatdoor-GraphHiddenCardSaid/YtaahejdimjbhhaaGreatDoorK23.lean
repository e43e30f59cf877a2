import Derived.Test.YtaahejdimjbhhaaGreatDoorK22
set_option maxRecDepth 100000
set_option maxHeartbeats 0
set_option linter.all false
namespace Go.Proofs.YtaahejdimjbhhaaGreatDoor
open Tryz Go.RowKit Go.Den
open Go.Value renaming slice->bh,agg->bj,pointer->bl,int->bm
open Option renaming none->bo,some->bq
open Go.Obj renaming cells->br
open Go renaming World->bs,Value->bt,zero_of_info->bv,run_loadAt_mid->bw,Addr->bx,run_storeAt_new->bz,TypeId->bA,Calls->bB,all_oneCell_toArray->bE
open Go.Ending renaming returned->bF
open Go.Proofs.Tryz renaming prog->bL,underlying91->bM
def mt(p:Nat): List Int:=(uQ.getD p ([],[])).1
def mf(p:Nat): List Int:=(uQ.getD p ([],[])).2
def vs(l:List Int): List bt:=l.map (Value.int .i64)
def Rl:List bt:=vs (mt 0)++vs (mt 1)++vs (mt 2)++vs (mt 3)
def Rh:List bt:=vs (mf 0)++vs (mf 1)++vs (mf 2)++vs (mf 3)
theorem RZ(p:Nat)(a:p<4): (Rl.drop (p*9)).take (vs (mt p)).length=vs (mt p):=by
 obtain rfl|rfl|rfl|rfl:p=0\/p=1\/p=2\/p=3:=gn
 all_goals rfl
theorem Ro(p:Nat)(a:p<4): (Rh.drop (p*9)).take (vs (mf p)).length=vs (mf p):=by
 obtain rfl|rfl|rfl|rfl:p=0\/p=1\/p=2\/p=3:=gn
 all_goals rfl
theorem uH(p:Nat)(a:p<4): (vs (mt p)).length=9:=by
 obtain rfl|rfl|rfl|rfl:p=0\/p=1\/p=2\/p=3:=gn
 all_goals rfl
theorem Az(p:Nat)(a:p<4): (vs (mf p)).length=9:=by
 obtain rfl|rfl|rfl|rfl:p=0\/p=1\/p=2\/p=3:=gn
 all_goals rfl
theorem xx(l:List Int): ∀v∈vs l,v.oneCell'=true:=λv e=>by obtain⟨x,_,rfl⟩:=List.mem_map.1 e;rfl
theorem Rx:(⟨Rl⟩:Array bt).all (·.oneCell')=true:=bE (cs:=Rl) λv e=>by simp only [Rl,aV]at e;rcases e with ((h|h)|h)|h<;>exact xx _ v h
theorem Uf:(⟨Rh⟩:Array bt).all (·.oneCell')=true:=bE (cs:=Rh) λv e=>by simp only [Rh,aV]at e;rcases e with ((h|h)|h)|h<;>exact xx _ v h
def WB:List bt:=[bh bo 0 0,bh bo 0 0,bh bo 0 0,(0:Int),(0:Int),(0:Int),(0:Int),(0:Int),(0:Int),(0:Int),(0:Int),(0:Int),(0:Int),(0:Int),(0:Int),(0:Int),(0:Int),(0:Int),(0:Int),(0:Int),(0:Int)]
theorem xy:(prog.info? 89).map (·.size)=bq 9:=lB
theorem Jt:(prog.info? 147).map (λi=>(i.zero,i.size))=bq (bq (bj ⟨List.replicate 36 (0:Int)⟩),36):=lB
theorem EZ:(prog.info? 91).map (λi=>(i.zero,i.size))=bq (bq (bj #[bh bo 0 0,bh bo 0 0,bh bo 0 0,(0:Int),(0:Int),(0:Int),(0:Int),(0:Int),(0:Int),(0:Int),(0:Int),(0:Int),(0:Int),(0:Int),(0:Int),(0:Int),(0:Int),(0:Int),(0:Int),(0:Int),(0:Int)]),21):=lB
theorem Ij: AL 147 ⟨List.replicate 36 (0:Int)⟩:=λu=>by unfold Instr.alloc;rw [Sem.run_bind,(bv Jt).1];rfl
theorem QR: AL 91 #[bh bo 0 0,bh bo 0 0,bh bo 0 0,(0:Int),(0:Int),(0:Int),(0:Int),(0:Int),(0:Int),(0:Int),(0:Int),(0:Int),(0:Int),(0:Int),(0:Int),(0:Int),(0:Int),(0:Int),(0:Int),(0:Int),(0:Int)]:=λu=>by unfold Instr.alloc;rw [Sem.run_bind,(bv EZ).1];rfl
theorem OT(u:bs): (Instr.build 147 #[(0,bj ⟨vs (mt 0)⟩),(1,bj ⟨vs (mt 1)⟩),(2,bj ⟨vs (mt 2)⟩),(3,bj ⟨vs (mt 3)⟩)]).run bL u=.ok (bj ⟨Rl⟩) u:=lB
theorem Qw(u:bs): (Instr.build 147 #[(0,bj ⟨vs (mf 0)⟩),(1,bj ⟨vs (mf 1)⟩),(2,bj ⟨vs (mf 2)⟩),(3,bj ⟨vs (mf 3)⟩)]).run bL u=.ok (bj ⟨Rh⟩) u:=lB
theorem mF{P:Program}{o:Oper}{a:Act}{w w':bs}{t:bA}{i j k l:Nat}{x y z b:Operand}{p q r s v:bt}(e:o.op=.build t #[(i,x),(j,y),(k,z),(l,b)])(d:a.eval x=p)(hy:a.eval y=q)(J:a.eval z=r)(c:a.eval b=s)(C:(Instr.build t #[(i,p),(j,q),(k,r),(l,s)]).run P w=.ok v w'): (execOp a.eval o).run P w=.ok (.value v) w':=
 iU e (by simp [d,hy,J,c]) C
theorem qK.form{w:bs}{base:Nat}{v:bt}(h:qK w base v): ∃A n a c,v=bh A n a/\dn w A n c/\jh c=true:=by obtain⟨c,e,f⟩:=h;obtain⟨A,n,a,rfl,g⟩:=e.ints;exact⟨A,n,a,c,rfl,g,f⟩
theorem qK.kept{w w':bs}{base b:Nat}{v:bt}(h:qK w base v)(T:bH [b] w w')(i:b<base): qK w' base v:=by obtain⟨c,e,f⟩:=h;exact⟨c,e.kept T (λg d a=>by have:=(e.lt g d).1;simp at a;omega),f⟩
theorem qK.u{w w':bs}{base:Nat}{v:bt}(h:qK w base v)(T:bH [] w w'): qK w' base v:=by obtain⟨c,e,f⟩:=h;exact⟨c,e.u T,f⟩
theorem qK.base{w:bs}{base base':Nat}{v:bt}(h:qK w base v)(g:base'<=base): qK w base' v:=by obtain⟨c,e,f⟩:=h;exact⟨c,e.base g,f⟩
structure Lh(w wr:bs)(b3 b6:Nat)(R:List bt)(k:Nat)(A0:Option bx)(n0 c0:Nat)(A1:Option bx)(n1 c1:Nat)(A2:Option bx)(n2 c2:Nat): Prop where
 t:bH [] w wr
 h0:wr.heap[w.heap.size]?=bq (br #[bh bo 0 0,bh bo 0 0,bh bo 0 0,(0:Int),(0:Int),(0:Int),(0:Int),(0:Int),(0:Int),(0:Int),(0:Int),(0:Int),(0:Int),(0:Int),(0:Int),(0:Int),(0:Int),(0:Int),(0:Int),(0:Int),(0:Int)] 91 (0,0))
 h3:wr.heap[b3]?=bq (br ⟨bh A0 n0 c0::bh A1 n1 c1::bh A2 n2 c2::R⟩ 91 (0,0))
 lt:w.heap.size<b3/\b3<b6/\b6<=wr.heap.size
 g0:1<=k->qK wr b6 (bh A0 n0 c0)
 g1:2<=k->qK wr b6 (bh A1 n1 c1)
 g2:3<=k->qK wr b6 (bh A2 n2 c2)
theorem Lh.u{w wr u:bs}{x A:Nat}{R:List bt}{k:Nat}{b:Option bx}{m B:Nat}{c:Option bx}{o c1:Nat}{d:Option bx}{I c2:Nat}(P:Lh w wr x A R k b m B c o c1 d I c2)(T:bH [] wr u): Lh w u x A R k b m B c o c1 d I c2:=by obtain⟨a,e,f⟩:=P.lt;have n:=T.size;exact⟨P.t.t T,(T.old _ gn lz).t P.h0,(T.old _ gn lz).t P.h3,⟨a,e,by omega⟩,λh=>(P.g0 h).u T,λh=>(P.g1 h).u T,λh=>(P.g2 h).u T⟩
theorem ni(u:bs)(b i:Nat)(v:bt): bH [b] u (u.setCell ⟨b,i,bo⟩ v):=(bH.refl [b] u).setCell _ (.inl lz)
theorem Lh.set0{w u:bs}{x a:Nat}{R:List bt}{f:Option bx}{m B:Nat}{b:Option bx}{o c1:Nat}{d:Option bx}{I c2:Nat}(P:Lh w u x a R 0 f m B b o c1 d I c2){A:Option bx}{n c:Nat}(g:qK u a (bh A n c)): Lh w (u.setCell ⟨x,0,bo⟩ (bh A n c)) x a R 1 A n c b o c1 d I c2:=by obtain⟨i,e,k⟩:=P.lt;exact⟨P.t.sc,(dG _ _ _ _ _ gn).t P.h0,dU P.h3 rfl,⟨i,e,by rw [World.size_setCell];exact k⟩,λ_=>g.kept (ni _ _ _ _) e,λh=>by omega,λh=>by omega⟩
theorem Lh.set1{w u:bs}{x a:Nat}{R:List bt}{d:Option bx}{m B:Nat}{f:Option bx}{o c1:Nat}{e:Option bx}{I c2:Nat}(P:Lh w u x a R 1 d m B f o c1 e I c2){A:Option bx}{n c:Nat}(g:qK u a (bh A n c)): Lh w (u.setCell ⟨x,1,bo⟩ (bh A n c)) x a R 2 d m B A n c e I c2:=by obtain⟨i,b,k⟩:=P.lt;exact⟨P.t.sc,(dG _ _ _ _ _ gn).t P.h0,dU P.h3 rfl,⟨i,b,by rw [World.size_setCell];exact k⟩,λ_=>(P.g0 gn).kept (ni _ _ _ _) b,λ_=>g.kept (ni _ _ _ _) b,λh=>by omega⟩
theorem Lh.set2{w u:bs}{x a:Nat}{R:List bt}{b:Option bx}{m B:Nat}{d:Option bx}{o c1:Nat}{e:Option bx}{g c2:Nat}(P:Lh w u x a R 2 b m B d o c1 e g c2){A:Option bx}{n c:Nat}(f:qK u a (bh A n c)): Lh w (u.setCell ⟨x,2,bo⟩ (bh A n c)) x a R 3 b m B d o c1 A n c:=by obtain⟨I,h,k⟩:=P.lt;exact⟨P.t.sc,(dG _ _ _ _ _ gn).t P.h0,dU P.h3 rfl,⟨I,h,by rw [World.size_setCell];exact k⟩,λ_=>(P.g0 gn).kept (ni _ _ _ _) h,λ_=>(P.g1 gn).kept (ni _ _ _ _) h,λ_=>f.kept (ni _ _ _ _) h⟩
theorem UN(p:Nat)(a:p<4)(x y z:bt): (kS x y z).take 3++vs (mt p)++(kS x y z).drop (3+(vs (mt p)).length)=x::y::z::(vs (mt p)++vs (mf 0)):=by rw [uH p a];rfl
theorem QX(p:Nat)(a:p<4)(x y z:bt): (x::y::z::(vs (mt p)++vs (mf 0))).take 12++vs (mf p)++(x::y::z::(vs (mt p)++vs (mf 0))).drop (12+(vs (mf p)).length)=x::y::z::(vs (mt p)++vs (mf p)):=by
 obtain rfl|rfl|rfl|rfl:p=0\/p=1\/p=2\/p=3:=gn
 all_goals rfl
theorem O6(p:Nat)(a:p<4): (mt p,mf p)∈uQ:=by
 obtain rfl|rfl|rfl|rfl:p=0\/p=1\/p=2\/p=3:=gn
 all_goals decide
structure eF.Past(s:eF)(b:Nat): Prop where
 p0:∀a,s.a0=bq a->b<=a.block
 p1:∀a,s.a1=bq a->b<=a.block
 p2:∀a,s.a2=bq a->b<=a.block
theorem zB{w:bs}{base b:Nat}{A:Option bx}{n c:Nat}{xs:List Int}(h:Il w base (bh A n c) xs)(g:b<=base): ∀a,A=bq a->b<=a.block:=λa C=>by have:=(h.lt a.block (by rw [C];simp [dI,Value.ownBlock])).1;omega
theorem JD(q:Int)(h0:0<=q)(w:bs): bB bL 30 #[q] w λe w'=>(∃s:eF,s.Good/\s.At w'/\s.Past w.heap.size/\e=bF (bj ⟨s.row⟩))/\bH [] w w':=by
 obtain⟨a,ea⟩:∃a,q.tmod 256=a:=⟨_,rfl⟩;have ha:0<=a/\a<=255:=by rw [Int.tmod_eq_emod_of_nonneg h0]at ea;omega
 have bb:(a+256).tmod 256=a:=by rw [Int.tmod_eq_emod_of_nonneg gn];omega
 obtain⟨p,j,ep⟩:∃p:Nat,p<4/\a.tmod 4=(p:Int):=⟨(a.tmod 4).toNat,by rw [Int.tmod_eq_emod_of_nonneg ha.1];omega,by rw [Int.tmod_eq_emod_of_nonneg ha.1];omega⟩;obtain⟨bk,a1,a0⟩:=lh3 I5 JR QR;obtain⟨W,Q⟩:=eX (w.alloc (br #[bh bo 0 0,bh bo 0 0,bh bo 0 0,(0:Int),(0:Int),(0:Int),(0:Int),(0:Int),(0:Int),(0:Int),(0:Int),(0:Int),(0:Int),(0:Int),(0:Int),(0:Int),(0:Int),(0:Int),(0:Int),(0:Int),(0:Int)] 91));have T0:bH [] w W:=Q▸(tR w).a _;have ba:W.heap.size=w.heap.size+1:=by rw [Q];simp
 have a9:=YE Q
 have am:∀(u:bs) A n c d i c1 f I c2,(Instr.storeAt 91 (bl (bq ⟨u,0,bo⟩)) (bj ⟨kS (bh A n c) (bh d i c1) (bh f I c2)⟩)).run bL (u.alloc (br #[bh bo 0 0,bh bo 0 0,bh bo 0 0,(0:Int),(0:Int),(0:Int),(0:Int),(0:Int),(0:Int),(0:Int),(0:Int),(0:Int),(0:Int),(0:Int),(0:Int),(0:Int),(0:Int),(0:Int),(0:Int),(0:Int),(0:Int)] 91))=.ok () (u.alloc (br ⟨kS (bh A n c) (bh d i c1) (bh f I c2)⟩ 91)):=λu A n c d i c1 f I c2=>
  bz u 91 #[bh bo 0 0,bh bo 0 0,bh bo 0 0,(0:Int),(0:Int),(0:Int),(0:Int),(0:Int),(0:Int),(0:Int),(0:Int),(0:Int),(0:Int),(0:Int),(0:Int),(0:Int),(0:Int),(0:Int),(0:Int),(0:Int),(0:Int)] ⟨kS _ _ _⟩ (bv EZ).2 rfl (by simp [kS,Value.oneCell'])
 have aE:=lh am;clear am h0;go_enter func30,ntmps30;go_upto_region 1 with (refine bQ rfl (di rfl (a0.o _)) ?_;try go_frame)
 rw [<-Q];clear Q;go_upto_region 3 with (first
  |(go_at_call 73;refine (bk.o _).mono ?_;rintro e w1 ⟨⟨A,n,C,d,i,D,f,I,E,rfl⟩,aR⟩)
  |(refine bQ rfl (di (t:=91) rfl (a0.o _)) ?_;try go_frame)
  |(refine sR (aE.o _ _ _ _ _ _ _ _ _ _) ?_))
 obtain⟨l,b7⟩:=eX (w1.alloc (br ⟨kS (bh A n C) (bh d i D) (bh f I E)⟩ 91));have T1:bH [] W l:=b7▸aR.a _;have J:=YE b7
 have bc:w1.heap.size<l.heap.size:=sd
 have b2:=aR.size;rw [<-b7];clear b7 aR aE a0 bk;generalize w1.heap.size=x at *;have aa:(Instr.loadAt 89 (bl (bq ⟨x,3,bo⟩))).run bL l=.ok (bj ⟨vs (mt 0)⟩) l:=bw l x 3 89 (vs (mt 0)) _ (gp J rfl) underlying89 rfl xy;have an:(Instr.storeAt 147 (bl (bq ⟨l,0,bo⟩)) (bj ⟨Rl⟩)).run bL (l.alloc (br ⟨List.replicate 36 (0:Int)⟩ 147))=.ok () (l.alloc (br ⟨Rl⟩ 147)):=bz l 147 _ ⟨Rl⟩ (bv Jt).2 rfl Rx;go_upto_region 4 with (first
  |(refine bQ rfl (dw rfl rfl aa) ?_;try go_frame)
  |(refine bQ rfl (mF (p:=bj ⟨vs (mt 0)⟩) (q:=bj ⟨vs (mt 1)⟩) (r:=bj ⟨vs (mt 2)⟩) (s:=bj ⟨vs (mt 3)⟩) rfl rfl rfl rfl rfl (OT _)) ?_;try go_frame)
  |(refine bQ rfl (di rfl (Ij _)) ?_;try go_frame)
  |(refine sR an ?_))
 obtain⟨m,ap⟩:=eX (l.alloc (br ⟨Rl⟩ 147));have T:bH [] l m:=ap▸(tR l).a _;have x4:=YE ap
 have bd:l.heap.size<m.heap.size:=by rw [ap];simp
 rw [<-ap];clear ap aa an;have J:=(T.old x gn lz).t J;generalize l.heap.size=b4 at *;have ab:(Instr.loadAt 89 (bl (bq ⟨x,3,bo⟩))).run bL m=.ok (bj ⟨vs (mf 0)⟩) m:=bw m x 3 89 (vs (mf 0)) _ (gp J rfl) underlying89 rfl xy;have ao:(Instr.storeAt 147 (bl (bq ⟨m,0,bo⟩)) (bj ⟨Rh⟩)).run bL (m.alloc (br ⟨List.replicate 36 (0:Int)⟩ 147))=.ok () (m.alloc (br ⟨Rh⟩ 147)):=bz m 147 _ ⟨Rh⟩ (bv Jt).2 rfl Uf;go_upto_region 5 with (first
  |(refine bQ rfl (dw rfl rfl ab) ?_;try go_frame)
  |(refine bQ rfl (mF (p:=bj ⟨vs (mf 0)⟩) (q:=bj ⟨vs (mf 1)⟩) (r:=bj ⟨vs (mf 2)⟩) (s:=bj ⟨vs (mf 3)⟩) rfl rfl rfl rfl rfl (Qw _)) ?_;try go_frame)
  |(refine bQ rfl (di rfl (Ij _)) ?_;try go_frame)
  |(refine sR ao ?_))
 obtain⟨B,b8⟩:=eX (m.alloc (br ⟨Rh⟩ 147));have S:bH [] m B:=b8▸(tR m).a _;have x5:=YE b8
 have be:m.heap.size<B.heap.size:=by rw [b8];simp
 rw [<-b8];clear b8 ab ao;have J:=(S.old x gn lz).t J;have x4:=(S.old b4 gn lz).t x4;generalize m.heap.size=b5 at *;have ac:(Instr.loadAt 89 (bl (bq ⟨b4,p*9,bo⟩))).run bL B=.ok (bj ⟨vs (mt p)⟩) B:=bw B b4 (p*9) 89 (vs (mt p)) _ (gp x4 (RZ p j)) underlying89 rfl (by rw [uH p j];exact xy);have ar:=dQ (o:=3) (ty:=89) J (by rw [uH p j];exact xy) (by rw [uH p j];show 12<=21;decide) (xx _) (UN p j _ _ _);have b0:(0:Int)<=(p:Int):=gn
 have b1:(p:Int)<4:=gn
 go_upto_region 6 with (first
  |(refine bQ rfl (dw rfl rfl ac) ?_;try go_frame)
  |(refine sR ar ?_))
 have y3:=eQ (L':=bh A n C::bh d i D::bh f I E::(vs (mt p)++vs (mf 0))) J;have y5:=(fQ B x ⟨bh A n C::bh d i D::bh f I E::(vs (mt p)++vs (mf 0))⟩ b5 gn).t x5;have TA:bH [] w (B.setRow x ⟨bh A n C::bh d i D::bh f I E::(vs (mt p)++vs (mf 0))⟩):=(T0.t (T1.t (T.t S))).setRow _ (.inr gn);have y0:=(fQ B x ⟨bh A n C::bh d i D::bh f I E::(vs (mt p)++vs (mf 0))⟩ w.heap.size gn).t (((T1.t (T.t S)).old w.heap.size gn lz).t a9);have bf:(B.setRow x ⟨bh A n C::bh d i D::bh f I E::(vs (mt p)++vs (mf 0))⟩).heap.size≥B.heap.size:=by simp [World.setRow]
 clear ac ar J x4 x5;generalize B.setRow x ⟨bh A n C::bh d i D::bh f I E::(vs (mt p)++vs (mf 0))⟩=H at *;have ad:(Instr.loadAt 89 (bl (bq ⟨b5,p*9,bo⟩))).run bL H=.ok (bj ⟨vs (mf p)⟩) H:=bw H b5 (p*9) 89 (vs (mf p)) _ (gp y5 (Ro p j)) underlying89 rfl (by rw [Az p j];exact xy);have av:=dQ (o:=12) (ty:=89) y3 (by rw [Az p j];exact xy) (by simp only [List.length_cons,aO,Az p j,uH p j];decide) (xx _) (QX p j _ _ _);go_upto_region 7 with (first
  |(refine bQ rfl (dw rfl rfl ad) ?_;try go_frame)
  |(refine sR av ?_))
 have P0:Lh w (H.setRow x ⟨bh A n C::bh d i D::bh f I E::(vs (mt p)++vs (mf p))⟩) x H.heap.size (vs (mt p)++vs (mf p)) 0 A n C d i D f I E:=
  ⟨TA.setRow _ (.inr gn),(fQ _ _ _ _ gn).t y0,eQ y3,⟨gn,gn,by simp [World.setRow]⟩,λh=>by omega,λh=>by omega,λh=>by omega⟩
 clear ad av y3 y5 y0 TA T0 T1 T S a9;generalize H.setRow x ⟨bh A n C::bh d i D::bh f I E::(vs (mt p)++vs (mf p))⟩=W5,H.heap.size=b6 at *;generalize a7:vs (mt p)++vs (mf p)=RR at *;have a2:=lh a7;clear a7;go_wp2_with fail
 go_loopw [6] (λs6 wr=>∃(k:Nat) (K:Option bx) (R N:Nat) (d:Option bx) (i c1:Nat) (f:Option bx) (I c2:Nat),k<=3/\s6=k/\Lh w wr x b6 RR k K R N d i c1 f I c2) (λs6 _=>3-(intOf s6).toNat);case atStart=>exact⟨0,_,_,_,_,_,_,_,_,_,gn,rfl,P0⟩
 clear P0;obtain⟨k,K,R,N,d,i,c1,f,I,c2,hk,rfl,P⟩:=hrel;by_cases b2:k<3
 .obtain rfl|rfl|rfl:k=0\/k=1\/k=2:=by omega
  .have F:=lh P;clear P;(go_wp2_with (go_at_call 74;refine (a1.o _ _).mono ?_;rintro e w2 ⟨⟨v,rfl,b⟩,G⟩;obtain⟨A9,n9,c9,cc,rfl,_,_⟩:=b.form;have z:=F.o.u G;have a6:=lh z;have M:=lh (b.base F.o.lt.2.2);have y:=cP 0 _ z.h3;have yf:=dD z.h3 0;clear z b G));have P3:=a6.o.set0 M.o;go_roundw;case rel=>exact⟨1,_,_,_,_,_,_,_,_,_,gn,rfl,P3⟩
   simp [intOf]
  .have F:=lh P;clear P;(go_wp2_with (go_at_call 74;refine (a1.o _ _).mono ?_;rintro e w2 ⟨⟨v,rfl,b⟩,G⟩;obtain⟨A9,n9,c9,cc,rfl,_,_⟩:=b.form;have z:=F.o.u G;have a6:=lh z;have M:=lh (b.base F.o.lt.2.2);have y:=cP 1 _ z.h3;have yf:=dD z.h3 1;clear z b G));have P3:=a6.o.set1 M.o;go_roundw;case rel=>exact⟨2,_,_,_,_,_,_,_,_,_,gn,rfl,P3⟩
   simp [intOf]
  have F:=lh P;clear P;go_wp2_with (go_at_call 74;refine (a1.o _ _).mono ?_;rintro e w2 ⟨⟨v,rfl,b⟩,G⟩;obtain⟨A9,n9,c9,cc,rfl,_,_⟩:=b.form;have z:=F.o.u G;have a6:=lh z;have M:=lh (b.base F.o.lt.2.2);have y:=cP 2 _ z.h3;have yf:=dD z.h3 2;clear z b G)
  have P3:=a6.o.set2 M.o;go_roundw;case rel=>exact⟨3,_,_,_,_,_,_,_,_,_,gn,rfl,P3⟩
  simp [intOf]
 obtain rfl:k=3:=gn
 obtain⟨k0,X,g0⟩:=P.g0 gn;obtain⟨k1,Y,g1⟩:=P.g1 gn;obtain⟨k2,Z,g2⟩:=P.g2 gn;have a8:RR.length=18:=by rw [<-a2.o,aO,uH p j,Az p j]
 obtain⟨L,O⟩:=eX (bh K R N::bh d i c1::bh f I c2::RR);have a4:L.length=21:=by rw [O];simp [a8]
 have h3:=P.h3;rw [<-O]at h3;have a3:wr.heap[w.heap.size]?=bq (br ⟨WB⟩ 91 (0,0)):=P.h0;have a5:(prog.info? 91).map (·.size)=bq L.length:=by rw [a4];exact (bv EZ).2
 have aq:∀v∈L,v.oneCell'=true:=λv b=>by
  rw [O,<-a2.o]at b;rcases aS.1 b with rfl|b
  .rfl
  rcases aS.1 b with rfl|b
  .rfl
  rcases aS.1 b with rfl|b
  .rfl
  rcases aV.1 b with b|b
  .exact xx _ v b
  exact xx _ v b
 have aM:(Instr.loadAt 91 (bl (bq ⟨x,0,bo⟩))).run bL wr=.ok (bj ⟨L⟩) wr:=bw wr x 0 91 L _ (gp h3 lz) bM rfl a5;have b9:=dQ (o:=0) (ty:=91) (L':=L) a3 a5 (by rw [a4];decide) aq (by rw [a4];simp [WB]);have af:=eQ (L':=L) a3;have aL:=run_loadVar_row (P:=bL) _ w.heap.size 91 91 ⟨L⟩ (0,0) _ af bM rfl a5;have U:bH [w.heap.size] wr (wr.setRow w ⟨L⟩):=(bH.refl [w.heap.size] wr).setRow _ (.inl lz);have V:∀{v:bt} {c:List Int},Il wr b6 v c->∀g∈dI v,g∉[w.heap.size]:=λh g hg hm=>by have:=(h.lt g hg).1;have:=P.lt;simp at hm;omega
 have aD:Hid (eF.Past ⟨K,R,N,k0,d,i,c1,k1,f,I,c2,k2,mt p,mf p⟩ w.heap.size):=lh ⟨zB X th,zB Y th,zB Z th⟩;have aw:=lh (X.kept U (V X)).ints';have bp:=lh (Y.kept U (V Y)).ints';have ax:=lh (Z.kept U (V Z)).ints';obtain⟨HT,ay,HG⟩:=lh3 (P.t.setRow (g:=w.heap.size) ⟨L⟩ (.inr (aQ _))) O (bg g0 (bg g1 g2));clear P X Y Z V U h3 a3 af aq g0 g1 g2 O a8;go_wp2_with (first
  |(refine bQ rfl (dw rfl rfl aM) ?_;try go_frame)
  |(refine sR b9 ?_))
 refine ag (v:=bj ⟨L⟩) ?_ rfl ⟨⟨⟨K,R,N,k0,d,i,c1,k1,f,I,c2,k2,mt p,mf p⟩,⟨HG.o.1,HG.o.2.1,HG.o.2.2,O6 p j⟩,⟨?_,?_,aw.o,bp.o,ax.o⟩,aD.o,?_⟩,HT.o⟩
 .simp [results,results30,asAddr,aL]
 .have:=uH p j;simpa [vs]using this
 .have:=Az p j;simpa [vs]using this
 rw [ay.o,<-a2.o];rfl
structure JV(w wr:bs)(d:df)(ty:bA)(m:bI)(q:Rc): Prop where
 t:bH [] w wr
 h0:wr.heap[w.heap.size]?=bq (br #[bh d.sA d.sn d.sc,d.root,d.next,bh d.lA d.ln d.lc] ty (0,0))
 hl:wr.heap[w.heap.size+1]?=bq (br ⟨m.row⟩ 51 (0,0))
 h1:wr.heap[w.heap.size+1+1]?=bq (br (dZ Rc.zero) 59 (0,0))
 h2:wr.heap[w.heap.size+1+1+1]?=bq (br (dZ q) 59 (0,0))
theorem JV.u{w wr u:bs}{d:df}{ty:bA}{m:bI}{q:Rc}(h:JV w wr d ty m q)(T:bH [] wr u): JV w u d ty m q:=
 ⟨h.t.t T,T.ox h.h0,T.ox h.hl,T.ox h.h1,T.ox h.h2⟩
theorem JV.set{w wr:bs}{d:df}{ty:bA}{m:bI}{q a:Rc}(h:JV w wr d ty m q): JV w ((((wr.setCell ⟨w+1+1+1,0,bo⟩ a.x0).setCell ⟨w+1+1+1,1,bo⟩ a.y0).setCell ⟨w+1+1+1,2,bo⟩ a.x1).setCell ⟨w+1+1+1,3,bo⟩ a.y1) d ty m a:=by
 have b:∀i,w.heap.size<=(Addr.mk (w.heap.size+1+1+1) i bo).block:=λi=>lE
 refine⟨(((h.t.setCell _ (.inr (b _))).setCell _ (.inr (b _))).setCell _ (.inr (b _))).setCell _ (.inr (b _)),?_,?_,?_,KY h.h2⟩
 .exact bW (bW (bW (bW h.h0 gn) gn) gn) gn
 .exact bW (bW (bW (bW h.hl gn) gn) gn) gn
 exact bW (bW (bW (bW h.h1 gn) gn) gn) gn
theorem JV.dc{w wr:bs}{d:df}{ty:bA}{m:bI}{q:Rc}(h:JV w wr d ty m q): wr.cell? ⟨w,0,bo⟩=bq (bh d.sA d.sn d.sc)/\wr.cell? ⟨w,1,bo⟩=bq (bm .i64 d.root)/\wr.cell? ⟨w,2,bo⟩=bq (bm .i64 d.next)/\wr.cell? ⟨w,3,bo⟩=bq (bh d.lA d.ln d.lc):=
 ⟨cO 0 _ h.h0,cO 1 _ h.h0,cO 2 _ h.h0,cO 3 _ h.h0⟩
theorem JV.part{w wr u:bs}{d:df}{ty:bA}{m:bI}{q:Rc}(h:JV w wr d ty m q)(T:bH [w.heap.size+1+1+1] wr u): u.heap[w.heap.size]?=bq (br #[bh d.sA d.sn d.sc,d.root,d.next,bh d.lA d.ln d.lc] ty (0,0))/\u.heap[w.heap.size+1]?=bq (br ⟨m.row⟩ 51 (0,0)):=
 ⟨(T.old _ (ae.1 h.h0).1 lO).t h.h0,(T.old _ (ae.1 h.hl).1 lz).t h.hl⟩
theorem iw{u:bs}{c:Nat}{d:df}{ty:bA}(h:u.heap[c]?=bq (br #[bh d.sA d.sn d.sc,d.root,d.next,bh d.lA d.ln d.lc] ty (0,0))): u.cell? ⟨c,0,bo⟩=bq (bh d.sA d.sn d.sc)/\u.cell? ⟨c,1,bo⟩=bq (bm .i64 d.root)/\u.cell? ⟨c,2,bo⟩=bq (bm .i64 d.next)/\u.cell? ⟨c,3,bo⟩=bq (bh d.lA d.ln d.lc):=
 ⟨cO 0 _ h,cO 1 _ h,cO 2 _ h,cO 3 _ h⟩
theorem eG{u:bs}{c:Nat}{q:Rc}(h:u.heap[c]?=bq (br (dZ q) 59 (0,0))): u.cell? ⟨c,0,bo⟩=bq (bm .i64 q.x0)/\u.cell? ⟨c,1,bo⟩=bq (bm .i64 q.y0)/\u.cell? ⟨c,2,bo⟩=bq (bm .i64 q.x1)/\u.cell? ⟨c,3,bo⟩=bq (bm .i64 q.y1):=
 ⟨cO 0 _ h,cO 1 _ h,cO 2 _ h,cO 3 _ h⟩
theorem vg{u:bs}{c:Nat}{m:bI}(h:u.heap[c]?=bq (br ⟨m.row⟩ 51 (0,0))): u.cell? ⟨c,7,bo⟩=bq (bm .i64 m.agZ.a)/\u.cell? ⟨c,8,bo⟩=bq (bm .i64 m.agZ.b)/\u.cell? ⟨c,9,bo⟩=bq (bm .i64 m.agZ.c)/\u.cell? ⟨c,10,bo⟩=bq (bm .i64 m.agZ.d)/\u.cell? ⟨c,11,bo⟩=bq (bm .i64 m.agZ.e)/\u.cell? ⟨c,12,bo⟩=bq (bm .i64 m.agZ.f)/\u.cell? ⟨c,13,bo⟩=bq (bm .i64 m.agZ.den):=
 ⟨cP 7 _ h,cP 8 _ h,cP 9 _ h,cP 10 _ h,cP 11 _ h,cP 12 _ h,cP 13 _ h⟩
theorem Vd(d:df)(m:bI)(w:bs)(S:m.ag1=1)(U:m.agZ.ok=true)(I:eu m.Xm=true)(T:m.At w):
  bB bL 64 #[d.v,m.v] w λe w'=>e=bF ((mJ m.agZ (kH m.Xm m.tn)).can).v/\bH [] w w':=by
 have F:=λu (t:bH [] w u)=>Fz m.Xm I m.tA m.tn m.tc u (T.Xm.u t);have G:=DT m.agZ U (kH m.Xm m.tn) (JH I m.tn);have H:=pz (mJ m.agZ (kH m.Xm m.tn));generalize (mJ m.agZ (kH m.Xm m.tn)).can=k at *;generalize mJ m.agZ (kH m.Xm m.tn)=q at *;generalize kH m.Xm m.tn=q0 at *;simp only [Rc.v,Af.v]at F G H;obtain⟨HB,a7,P⟩:=lh3 F G H;obtain⟨W,n⟩:=eX ((((w.alloc (br #[bh d.sA d.sn d.sc,d.root,d.next,bh d.lA d.ln d.lc] 94)).alloc (br ⟨m.row⟩ 51)).alloc (br #[(0:Int),(0:Int),(0:Int),(0:Int)] 59)).alloc (br #[(0:Int),(0:Int),(0:Int),(0:Int)] 59));have R:bH [] w W:=n▸((((tR w).a _).a _).a _).a _;have x0:=iI n;have L:=jk n;have x1:=acL n;have x2:=acI n;have s:Hid (JV w W d 94 m Rc.zero):=lh ⟨R,x0,L,x1,x2⟩;have y1:=cP 1 m.ag1 L;rw [S]at y1;clear R x0 L x1 x2 S F G H U I T;unfold df.v bI.v at *;go_enter func64,ntmps64;go_upto_region 2 with (fail)
 rw [<-n];clear n;try simp only [aI]
 go_upto_region 4 with fail
 clear y1;refine cu.start (λw'=>bH [w.heap.size+1+1+1] W w') 9 lB ?_;have g:bH [] W W.drew:=(tR W).drawn 1;generalize W.drew=Y at *;refine tk 0 (bl (bq ⟨w+1,7,bo⟩)) ?_ (b:=g.mono lz);go_frame;refine tk 1 (bj #[m.agZ.a,m.agZ.b,m.agZ.c,m.agZ.d,m.agZ.e,m.agZ.f,m.agZ.den]) ?_ (g:=by intro w' J;obtain⟨a0,a1,a2,a3,a4,a5,a6⟩:=vg (s.o.part J).2;go_simp) (b:=g.mono lz);go_frame;refine tk 2 (bl (bq ⟨w+1,28,bo⟩)) ?_ (b:=g.mono lz);go_frame;refine tk 3 (bj #[bh m.tA m.tn m.tc]) ?_ (g:=by intro w' J;have y:=cP 28 (bh m.tA m.tn m.tc) (s.o.part J).2;go_simp) (b:=g.mono lz);go_frame;refine eH 4 λK h=>?_;go_simp;refine mR (HB.o _ (s.o.t.t g)) λE p=>?_;replace g:=g.t p;refine h _ _ (λ_=>g.mono lz) ?_;clear h K;try go_frame
 clear p Y;obtain⟨Y,rfl⟩:=eX E;refine eH 5 λK h=>?_;go_simp;refine mR (a7.o _) λE p=>?_;replace g:=g.t p;refine h _ _ (λ_=>g.mono lz) ?_;clear h K;try go_frame
 clear p Y;obtain⟨Y,rfl⟩:=eX E;refine tk 6 (.tuple #[bj #[q.x0,q.y0,q.x1,q.y1],(0:Int)]) ?_ (b:=g.mono lz);go_frame;refine tk 7 (bj #[q.x0,q.y0,q.x1,q.y1]) ?_ (b:=g.mono lz);go_frame;have z:=s.o.u g;obtain⟨A,B,C,D⟩:=eG z.h2;have V:=λi=>dm z.h2 i;have x:=lh z;clear z;refine tj 8 9 (λK h=>?_) (λK h=>?_)
 .go_simp;refine h _ _ (λ_=>g.mono lz) ?_;clear h K;try go_frame
  refine Yo ?_
  clear A B C D V g;go_upto_region 13 with fail
  have l:=x.o.set (a:=q);generalize (((Y.setCell ⟨w+1+1+1,0,bo⟩ q.x0).setCell ⟨w+1+1+1,1,bo⟩ q.y0).setCell ⟨w+1+1+1,2,bo⟩ q.x1).setCell ⟨w+1+1+1,3,bo⟩ q.y1=Z at *;obtain⟨A,B,C,D⟩:=eG l.h2;have X:=lh l;clear l x;go_wp2_with (go_at_call 67;refine mR (P.o _) λw9 ch=>?_;have j:=X.o.u ch;obtain⟨M,N,Q,O⟩:=eG j.h1;have zf:=(λi=>dm j.h1 i);have b4:=lh j.t;clear j)
  exact ag (v:=bj #[k.x0,k.y0,k.x1,k.y1]) nV rfl ⟨rfl,(((b4.o.sc).sc).sc).sc⟩
 go_simp;refine gZ h ?_;clear h K
 refine eH 8 λK h=>?_;go_simp;refine h _ _ (λ_=>((((g.mono lz).setCell _ (.inl lz)).setCell _ (.inl lz)).setCell _ (.inl lz)).setCell _ (.inl lz)) ?_;clear h K;try go_frame
 refine Wy ?_;clear A B C D V g;go_upto_region 13 with fail
 have l:=x.o.set (a:=q);generalize (((Y.setCell ⟨w+1+1+1,0,bo⟩ q.x0).setCell ⟨w+1+1+1,1,bo⟩ q.y0).setCell ⟨w+1+1+1,2,bo⟩ q.x1).setCell ⟨w+1+1+1,3,bo⟩ q.y1=Z at *;obtain⟨A,B,C,D⟩:=eG l.h2;have X:=lh l;clear l x;go_wp2_with (go_at_call 67;refine mR (P.o _) λw9 ch=>?_;have j:=X.o.u ch;obtain⟨M,N,Q,O⟩:=eG j.h1;have zf:=(λi=>dm j.h1 i);have b4:=lh j.t;clear j)
 exact ag (v:=bj #[k.x0,k.y0,k.x1,k.y1]) nV rfl ⟨rfl,(((b4.o.sc).sc).sc).sc⟩
theorem Vu(d:df)(m:bI)(w:bs)(U:m.ag1=4)(hp:m.agZ.ok=true)(a:Rc)(T:a.Z)(l2:bI)(a9:∀u,bH [] w u->bB bL 124 #[d.v,m.of] u λe w'=>(∃x,l2.Like x/\gG [] w' (λu=>x.At u)/\e=bF x.v)/\bH [] u w')(H:∀x u,l2.Like x->bH [] w u->x.At u->CR 64 #[d.v,x.v] u a.v):
  bB bL 64 #[d.v,m.v] w λe w'=>e=bF ((mJ m.agZ a).can).v/\bH [] w w':=by
 have I:=DT m.agZ hp a T;have J:=pz (mJ m.agZ a);generalize (mJ m.agZ a).can=k at *;generalize mJ m.agZ a=q at *;simp only [Rc.v,Af.v,df.v,bI.v]at I J a9 H;obtain⟨ab,a7,aa,R⟩:=lh4 a9 H I J;obtain⟨W,s⟩:=eX ((((w.alloc (br #[bh d.sA d.sn d.sc,d.root,d.next,bh d.lA d.ln d.lc] 94)).alloc (br ⟨m.row⟩ 51)).alloc (br #[(0:Int),(0:Int),(0:Int),(0:Int)] 59)).alloc (br #[(0:Int),(0:Int),(0:Int),(0:Int)] 59));have S:bH [] w W:=s▸((((tR w).a _).a _).a _).a _;have x0:=iI s;have L:=jk s;have x1:=acL s;have x2:=acI s;have n:Hid (JV w W d 94 m Rc.zero):=lh ⟨S,x0,L,x1,x2⟩;have y1:=cP 1 m.ag1 L;rw [U]at y1;clear S x0 L x1 x2 U I J hp T a9 H;unfold df.v bI.v at *;go_enter func64,ntmps64;go_upto_region 2 with (fail)
 rw [<-s];clear s;try simp only [aI]
 go_upto_region 8 with fail
 clear y1;refine cu.start (λw'=>bH [w.heap.size+1+1+1] W w') 12 lB ?_;have g:bH [] W W.drew:=(tR W).drawn 1;generalize W.drew=Y at *;refine tk 0 (bl (bq ⟨w+1,7,bo⟩)) ?_ (b:=g.mono lz);go_frame;refine tk 1 (bj #[m.agZ.a,m.agZ.b,m.agZ.c,m.agZ.d,m.agZ.e,m.agZ.f,m.agZ.den]) ?_ (g:=by intro w' z;obtain⟨a0,a1,a2,a3,a4,a5,a6⟩:=vg (n.o.part z).2;go_simp) (b:=g.mono lz);go_frame;refine tk 2 (bj #[bh d.sA d.sn d.sc,d.root,d.next,bh d.lA d.ln d.lc]) ?_ (g:=by intro w' z;obtain⟨d0,d1,d2,d3⟩:=iw (n.o.part z).1;go_simp) (b:=g.mono lz);go_frame;refine tk 3 (bj #[bh d.sA d.sn d.sc,d.root,d.next,bh d.lA d.ln d.lc]) ?_ (g:=by intro w' z;obtain⟨d0,d1,d2,d3⟩:=iw (n.o.part z).1;go_simp) (b:=g.mono lz);go_frame;refine tk 4 (bl (bq ⟨w+1,16,bo⟩)) ?_ (b:=g.mono lz);go_frame;refine tk 5 m.of ?_ (g:=by intro w' z;have y:=cP 16 m.of (n.o.part z).2;go_simp) (b:=g.mono lz);go_frame;refine eH 6 λK h=>?_;go_simp;(with_reducible refine (ab.o _ (n.o.t.t g)).mono ?_);rintro e A ⟨⟨x,V,a8,rfl⟩,l⟩;replace g:=g.t l;refine h _ _ (λ_=>g.mono lz) ?_;clear h K;try go_frame
 have P:=lh (bg V a8.now);clear V a8;clear l Y;obtain⟨Y,rfl⟩:=eX A;refine eH 7 λK h=>?_;go_simp;refine mR (a7.o x _ P.o.1 (n.o.t.t g) P.o.2) λA l=>?_;replace g:=g.t l;refine h _ _ (λ_=>g.mono lz) ?_;clear h K;try go_frame
 clear l;obtain⟨Y,rfl⟩:=eX A;refine eH 8 λK h=>?_;go_simp;refine mR (aa.o _) λA l=>?_;replace g:=g.t l;refine h _ _ (λ_=>g.mono lz) ?_;clear h K;try go_frame
 clear l Y;obtain⟨Y,rfl⟩:=eX A;refine tk 9 (.tuple #[bj #[q.x0,q.y0,q.x1,q.y1],(0:Int)]) ?_ (b:=g.mono lz);go_frame;refine tk 10 (bj #[q.x0,q.y0,q.x1,q.y1]) ?_ (b:=g.mono lz);go_frame;have C:=n.o.u g;obtain⟨D,E,F,G⟩:=eG C.h2;have rf:=λi=>dm C.h2 i;have B:=lh C;clear C;refine tj 11 12 (λK h=>?_) (λK h=>?_)
 .go_simp;refine h _ _ (λ_=>g.mono lz) ?_;clear h K;try go_frame
  refine Yo ?_
  clear D E F G rf g;go_upto_region 13 with fail
  have p:=B.o.set (a:=q);generalize (((Y.setCell ⟨w+1+1+1,0,bo⟩ q.x0).setCell ⟨w+1+1+1,1,bo⟩ q.y0).setCell ⟨w+1+1+1,2,bo⟩ q.x1).setCell ⟨w+1+1+1,3,bo⟩ q.y1=Z at *;obtain⟨D,E,F,G⟩:=eG p.h2;have X:=lh p;clear p B;go_wp2_with (go_at_call 67;refine mR (R.o _) λw9 ch=>?_;have j:=X.o.u ch;obtain⟨M,N,Q,O⟩:=eG j.h1;have zf:=(λi=>dm j.h1 i);have b4:=lh j.t;clear j)
  exact ag (v:=bj #[k.x0,k.y0,k.x1,k.y1]) nV rfl ⟨rfl,(((b4.o.sc).sc).sc).sc⟩
 go_simp;refine gZ h ?_;clear h K
 refine eH 11 λK h=>?_;go_simp;refine h _ _ (λ_=>((((g.mono lz).setCell _ (.inl lz)).setCell _ (.inl lz)).setCell _ (.inl lz)).setCell _ (.inl lz)) ?_;clear h K;try go_frame
 refine Wy ?_;clear D E F G rf g;go_upto_region 13 with fail
 have p:=B.o.set (a:=q);generalize (((Y.setCell ⟨w+1+1+1,0,bo⟩ q.x0).setCell ⟨w+1+1+1,1,bo⟩ q.y0).setCell ⟨w+1+1+1,2,bo⟩ q.x1).setCell ⟨w+1+1+1,3,bo⟩ q.y1=Z at *;obtain⟨D,E,F,G⟩:=eG p.h2;have X:=lh p;clear p B;go_wp2_with (go_at_call 67;refine mR (R.o _) λw9 ch=>?_;have j:=X.o.u ch;obtain⟨M,N,Q,O⟩:=eG j.h1;have zf:=(λi=>dm j.h1 i);have b4:=lh j.t;clear j)
 exact ag (v:=bj #[k.x0,k.y0,k.x1,k.y1]) nV rfl ⟨rfl,(((b4.o.sc).sc).sc).sc⟩
theorem UT(d:df)(m:bI)(w:bs)(D:m.ag1=3)(a:Rc)(C:a.Z)(B:jC m.Xg m.ks m.cs=true)(x:m.At w)(P:bs->bt->Prop)(T:∀u,bH [] w u->bB bL 127 #[d.v,m.id] u λe w'=>(∃v,P w' v/\e=bF v)/\bH [] u w')(F:∀u v,bH [] w u->P u v->CR 125 #[d.v,v] u a.v):
  bB bL 64 #[d.v,m.v] w λe w'=>e=bF ((m.spread a).can).v/\bH [] w w':=by
 have E:=λu (t:bH [] w u)=>yH m.Xg m.ks m.cs B a C.bd u (x.ks.u t) (x.cs.u t);rw [show m.Xg.area (jC m.Xg m.ks m.cs) a 1=m.spread a from rfl]at E;have s:=pz (m.spread a);generalize (m.spread a).can=k at *;generalize m.spread a=q at *;simp only [Rc.v,Fv.v,df.v]at E s T F;obtain⟨an,U,V,S⟩:=lh4 T F E s;obtain⟨W,h⟩:=eX ((((w.alloc (br #[bh d.sA d.sn d.sc,d.root,d.next,bh d.lA d.ln d.lc] 94)).alloc (br ⟨m.row⟩ 51)).alloc (br #[(0:Int),(0:Int),(0:Int),(0:Int)] 59)).alloc (br #[(0:Int),(0:Int),(0:Int),(0:Int)] 59));have A:bH [] w W:=h▸((((tR w).a _).a _).a _).a _;have N:=iI h;have L:=jk h;have O:=acL h;have Q:=acI h;have c:Hid (JV w W d 94 m Rc.zero):=lh ⟨A,N,L,O,Q⟩;have R:=cP 1 m.ag1 L;rw [D]at R;clear A N L O Q D E s C B x T F;unfold df.v bI.v at *;go_enter func64,ntmps64;go_upto_region 2 with (fail)
 rw [<-h];clear h;try simp only [aI]
 go_upto_region 12 with fail
 clear R;refine cu.start (λw'=>bH [w.heap.size+1+1+1] W w') 9 lB ?_;have b:bH [] W W.drew:=(tR W).drawn 1;generalize W.drew=Y at *;refine tk 0 (bl (bq ⟨w+1,17,bo⟩)) ?_ (b:=b.mono lz);go_frame;refine tk 1 (bj #[m.Xg.ag1,m.Xg.Xf,bh m.Xg.kA m.Xg.kn m.Xg.kc,m.Xg.div,m.Xg.value,bh m.Xg.cA m.Xg.cn m.Xg.cc]) ?_ (g:=by intro w' j;obtain⟨g0,g1,g2,g3,g4,g5⟩:=ve (c.o.part j).2;go_simp) (b:=b.mono lz);go_frame;refine tk 2 (bj #[bh d.sA d.sn d.sc,d.root,d.next,bh d.lA d.ln d.lc]) ?_ (g:=by intro w' j;obtain⟨d0,d1,d2,d3⟩:=iw (c.o.part j).1;go_simp) (b:=b.mono lz);go_frame;refine tk 3 (bj #[bh d.sA d.sn d.sc,d.root,d.next,bh d.lA d.ln d.lc]) ?_ (g:=by intro w' j;obtain⟨d0,d1,d2,d3⟩:=iw (c.o.part j).1;go_simp) (b:=b.mono lz);go_frame;refine tk 4 (bl (bq ⟨w+1,0,bo⟩)) ?_ (b:=b.mono lz);go_frame;refine tk 5 m.id ?_ (g:=by intro w' j;have y:=cP 0 m.id (c.o.part j).2;go_simp) (b:=b.mono lz);go_frame;refine eH 6 λK f=>?_;go_simp;(with_reducible refine (an.o _ (c.o.t.t b)).mono ?_);rintro e p ⟨⟨v,G,rfl⟩,g⟩;replace b:=b.t g;refine f _ _ (λ_=>b.mono lz) ?_;clear f K;try go_frame
 have HV:=lh G;clear G;clear g Y;obtain⟨Y,rfl⟩:=eX p;refine eH 7 λK f=>?_;go_simp;refine mR (U.o _ v (c.o.t.t b) HV.o) λp g=>?_;replace b:=b.t g;refine f _ _ (λ_=>b.mono lz) ?_;clear f K;try go_frame
 clear g;obtain⟨Y,rfl⟩:=eX p;refine eH 8 λK f=>?_;go_simp;refine mR (V.o _ (c.o.t.t b)) λp g=>?_;replace b:=b.t g;refine f _ _ (λ_=>b.mono lz) ?_;clear f K;try go_frame
 clear g Y;obtain⟨Y,rfl⟩:=eX p;have z:=c.o.u b;obtain⟨H,I,J,M⟩:=eG z.h2;have rf:=λi=>dm z.h2 i;have a6:=lh z;clear z;refine Yo ?_
 clear H I J M rf b;go_upto_region 13 with fail
 have n:=a6.o.set (a:=q);generalize (((Y.setCell ⟨w+1+1+1,0,bo⟩ q.x0).setCell ⟨w+1+1+1,1,bo⟩ q.y0).setCell ⟨w+1+1+1,2,bo⟩ q.x1).setCell ⟨w+1+1+1,3,bo⟩ q.y1=Z at *;obtain⟨H,I,J,M⟩:=eG n.h2;have X:=lh n;clear n a6;go_wp2_with (go_at_call 67;refine mR (S.o _) λw9 ch=>?_;have l:=X.o.u ch;obtain⟨z0,z1,z2,z3⟩:=eG l.h1;have zf:=(λi=>dm l.h1 i);have b4:=lh l.t;clear l)
 exact ag (v:=bj #[k.x0,k.y0,k.x1,k.y1]) (by simp [results,results64,go_sem,z0,z1,z2,z3]) rfl ⟨rfl,(((b4.o.sc).sc).sc).sc⟩
theorem Vp(d:df)(m:bI)(w:bs)(n:m.ag1=5)(b6:jy m.pts=true)(p:m.At w):
  bB bL 64 #[d.v,m.v] w λe w'=>e=bF (((gY m.pts).meet (gY m.pts)).can).v/\bH [] w w':=by
 have g:=λu (t:bH [] w u)=>JJ m.pts b6 m.pA m.pn m.pc u (p.pts.u t);have h:=pz ((gY m.pts).meet (gY m.pts));generalize ((gY m.pts).meet (gY m.pts)).can=j at *;generalize (gY m.pts).meet (gY m.pts)=q at *;simp only [Rc.v]at g h;have E:=lh g;have F:=lh h;obtain⟨W,b⟩:=eX ((((w.alloc (br #[bh d.sA d.sn d.sc,d.root,d.next,bh d.lA d.ln d.lc] 94)).alloc (br ⟨m.row⟩ 51)).alloc (br #[(0:Int),(0:Int),(0:Int),(0:Int)] 59)).alloc (br #[(0:Int),(0:Int),(0:Int),(0:Int)] 59));have k:bH [] w W:=b▸((((tR w).a _).a _).a _).a _;have B:=iI b;have L:=jk b;have C:=acL b;have H:=acI b;have f:Hid (JV w W d 94 m Rc.zero):=lh ⟨k,B,L,C,H⟩;have D:=cP 1 m.ag1 L;rw [n]at D;clear k B L C H n g h b6 p;unfold df.v bI.v at *;go_enter func64,ntmps64;go_upto_region 2 with (fail)
 rw [<-b];clear b;try simp only [aI]
 go_upto_region 6 with fail
 clear D;have N:=cP 27 (bh m.pA m.pn m.pc) f.o.hl;go_upto_region 13 with (go_at_call 123;refine mR (E.o _ f.o.t) λY G=>?_;have z:=f.o.u G;obtain⟨s,x,y,A⟩:=eG z.h2;have V:=(λi=>dm z.h2 i);have a6:=lh z;clear z)
 clear s x y A V;go_upto_region 13 with fail
 have l:=a6.o.set (a:=q);generalize (((Y.setCell ⟨w+1+1+1,0,bo⟩ q.x0).setCell ⟨w+1+1+1,1,bo⟩ q.y0).setCell ⟨w+1+1+1,2,bo⟩ q.x1).setCell ⟨w+1+1+1,3,bo⟩ q.y1=Z at *;obtain⟨s,x,y,A⟩:=eG l.h2;have X:=lh l;clear l a6;go_wp2_with (go_at_call 67;refine mR (F.o _) λM ch=>?_;have c:=X.o.u ch;obtain⟨I,J,Q,K⟩:=eG c.h1;have O:=(λi=>dm c.h1 i);have b4:=lh c.t;clear c)
 exact ag (v:=bj #[j.x0,j.y0,j.x1,j.y1]) (by simp [results,results64,go_sem,I,J,Q,K]) rfl ⟨rfl,(((b4.o.sc).sc).sc).sc⟩
theorem VH(d:df)(m:bI)(w:bs)(k:m.ag1=2)(q:Rc)(F:∀u,bH [] w u->CR 125 #[d.v,bh m.Xi m.Xh m.Xj] u q.v):
  bB bL 64 #[d.v,m.v] w λe w'=>e=bF (q.can).v/\bH [] w w':=by
 have g:=pz q;generalize q.can=j at *;simp only [Rc.v,df.v]at F g;have C:=lh F;have D:=lh g;obtain⟨W,b⟩:=eX ((((w.alloc (br #[bh d.sA d.sn d.sc,d.root,d.next,bh d.lA d.ln d.lc] 94)).alloc (br ⟨m.row⟩ 51)).alloc (br #[(0:Int),(0:Int),(0:Int),(0:Int)] 59)).alloc (br #[(0:Int),(0:Int),(0:Int),(0:Int)] 59));have h:bH [] w W:=b▸((((tR w).a _).a _).a _).a _;have y:=iI b;have L:=jk b;have A:=acL b;have H:=acI b;have c:Hid (JV w W d 94 m Rc.zero):=lh ⟨h,y,L,A,H⟩;have B:=cP 1 m.ag1 L;rw [k]at B;clear h y L A H k g F;unfold df.v bI.v at *;go_enter func64,ntmps64;go_upto_region 2 with (fail)
 rw [<-b];clear b;try simp only [aI]
 go_upto_region 10 with fail
 clear B;have R:=cP 15 (bh m.Xi m.Xh m.Xj) c.o.hl;obtain⟨K,M,N,O⟩:=c.o.dc;go_upto_region 13 with (go_at_call 125;refine mR (C.o _ c.o.t) λY E=>?_;have z:=c.o.u E;obtain⟨s,p,n,x⟩:=eG z.h2;have V:=(λi=>dm z.h2 i);have a6:=lh z;clear z)
 clear s p n x V;go_upto_region 13 with fail
 have l:=a6.o.set (a:=q);generalize (((Y.setCell ⟨w+1+1+1,0,bo⟩ q.x0).setCell ⟨w+1+1+1,1,bo⟩ q.y0).setCell ⟨w+1+1+1,2,bo⟩ q.x1).setCell ⟨w+1+1+1,3,bo⟩ q.y1=Z at *;obtain⟨s,p,n,x⟩:=eG l.h2;have X:=lh l;clear l a6;go_wp2_with (go_at_call 67;refine mR (D.o _) λP ch=>?_;have f:=X.o.u ch;obtain⟨G,J,Q,I⟩:=eG f.h1;have S:=(λi=>dm f.h1 i);have b4:=lh f.t;clear f)
 exact ag (v:=bj #[j.x0,j.y0,j.x1,j.y1]) (by simp [results,results64,go_sem,G,J,Q,I]) rfl ⟨rfl,(((b4.o.sc).sc).sc).sc⟩
