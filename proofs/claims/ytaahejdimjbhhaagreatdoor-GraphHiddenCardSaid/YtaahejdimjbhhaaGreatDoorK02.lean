import Derived.Deep.DeepCutAuto
import Derived.Test.YtaahejdimjbhhaaGreatDoorK01
set_option maxRecDepth 100000
set_option maxHeartbeats 0
set_option linter.all false
namespace Go.Proofs.YtaahejdimjbhhaaGreatDoor
open Tryz Go.RowKit Go.Den
open Bool renaming false->aa,true->ab
open Go.Ending renaming returned->ac
open Go.Value renaming bool->ad,agg->af,slice->am,int->an
open Go.Proofs.Tryz renaming ntmps170->ao,func170->ap,prog->aq
open Go renaming Calls->ar,World->av
open Go.Obj renaming cells->aw
def Rc.bd(r:Rc): Prop:=(-1099511627776<=r.x0/\r.x0<=1099511627776)/\(-1099511627776<=r.y0/\r.y0<=1099511627776)/\(-1099511627776<=r.x1/\r.x1<=1099511627776)/\(-1099511627776<=r.y1/\r.y1<=1099511627776)
def Rc.grow(r:Rc)(n:Int): Rc:=if r.empty then Rc.zero else (Rc.mk (r.x0-n) (r.y0-n) (r.x1+n) (r.y1+n)).norm
def Rc.move(r:Rc)(x y:Int): Rc:=if r.empty then Rc.zero else (Rc.mk (r.x0+x) (r.y0+y) (r.x1+x) (r.y1+y)).norm
def iq(a b:Int): Int:=if b==0 then 0 else if (a.tmod b != 0)&&(decide (a<0) != decide (b<0)) then a.tdiv b-1 else a.tdiv b
def qG(a b:Int): Int:=if b==0 then 0 else if (a.tmod b != 0)&&(decide (a<0)==decide (b<0)) then a.tdiv b+1 else a.tdiv b
theorem vN(a b M:Int)(e:-M<=a)(c:a<=M): -M<=a.tdiv b/\a.tdiv b<=M:=by
 have h:(a.tdiv b).natAbs<=a.natAbs:=by rw [Int.natAbs_tdiv];exact Nat.div_le_self _ _
 omega
theorem N7(r:Rc)(n:Int)(C:r.bd)(J:-1099511627776<=n)(K:n<=1099511627776)(w:av): ar aq 195 #[r.v,n] w λe w'=>e=ac (r.grow n).v/\bH [] w w':=by
 obtain⟨c,f,d,a⟩:=r;obtain⟨⟨p,s⟩,⟨u,x⟩,⟨y,z⟩,A,B⟩:=C;simp only at p s u x y z A B;have k:=iF ⟨c,f,d,a⟩;have G:=tY ⟨c-n,f-n,d+n,a+n⟩;cases g:(Rc.mk c f d a).empty with
 |true=>
  rw [g]at k;unfold Rc.grow;rw [g,aG rfl];simp only [Rc.v,Rc.zero]at *;have j:=lh k;clear k G g;have h:bH [] _ _:=((tR w).alloc (aw #[c,f,d,a] 59)).alloc (aw #[(0:Int),(0:Int),(0:Int),(0:Int)] 59);have b:=h.here;go_enter func195,ntmps195;go_wp2_with (go_at_call 68;refine b.call (j.o _) ?_;intro I b i l)
  have b:=h.t b;refine ag (v:=af #[(0:Int),(0:Int),(0:Int),(0:Int)]) tw rfl ⟨rfl,((((b.sc).sc).sc).sc)⟩
 |false=>
  rw [g]at k;unfold Rc.grow;rw [g,aF lz];simp only at G ⊢;generalize (Rc.mk (c-n) (f-n) (d+n) (a+n)).norm=m at *;obtain⟨D,E,F,H⟩:=m;simp only [Rc.v]at *;have j:=lh k;have q:=lh G;clear k G g;have h:bH [] _ _:=((tR w).alloc (aw #[c,f,d,a] 59)).alloc (aw #[(0:Int),(0:Int),(0:Int),(0:Int)] 59);have b:=h.here;go_enter func195,ntmps195;go_wp2_with (first
   |(go_at_call 68;refine b.call (j.o _) ?_;intro I b i l)
   |(go_at_call 189;refine b.call (q.o _) ?_;intro L b i l))
  have b:=h.t b;refine ag (v:=af #[D,E,F,H]) tw rfl ⟨rfl,((((b.sc).sc).sc).sc)⟩
theorem NF(r:Rc)(x y:Int)(D:r.bd)(K:-1099511627776<=x)(L:x<=1099511627776)(M:-1099511627776<=y)(N:y<=1099511627776)(w:av): ar aq 196 #[r.v,x,y] w λe w'=>e=ac (r.move x y).v/\bH [] w w':=by
 obtain⟨c,f,d,a⟩:=r;obtain⟨⟨p,s⟩,⟨u,n⟩,⟨z,A⟩,B,C⟩:=D;simp only at p s u n z A B C;have k:=iF ⟨c,f,d,a⟩;have G:=tY ⟨c+x,f+y,d+x,a+y⟩;cases g:(Rc.mk c f d a).empty with
 |true=>
  rw [g]at k;unfold Rc.move;rw [g,aG rfl];simp only [Rc.v,Rc.zero]at *;have j:=lh k;clear k G g;have h:bH [] _ _:=((tR w).alloc (aw #[c,f,d,a] 59)).alloc (aw #[(0:Int),(0:Int),(0:Int),(0:Int)] 59);have b:=h.here;go_enter func196,ntmps196;go_wp2_with (go_at_call 68;refine b.call (j.o _) ?_;intro J b i l)
  have b:=h.t b;refine ag (v:=af #[(0:Int),(0:Int),(0:Int),(0:Int)]) tp rfl ⟨rfl,((((b.sc).sc).sc).sc)⟩
 |false=>
  rw [g]at k;unfold Rc.move;rw [g,aF lz];simp only at G ⊢;generalize (Rc.mk (c+x) (f+y) (d+x) (a+y)).norm=m at *;obtain⟨E,F,H,I⟩:=m;simp only [Rc.v]at *;have j:=lh k;have q:=lh G;clear k G g;have h:bH [] _ _:=((tR w).alloc (aw #[c,f,d,a] 59)).alloc (aw #[(0:Int),(0:Int),(0:Int),(0:Int)] 59);have b:=h.here;go_enter func196,ntmps196;go_wp2_with (first
   |(go_at_call 68;refine b.call (j.o _) ?_;intro J b i l)
   |(go_at_call 189;refine b.call (q.o _) ?_;intro O b i l))
  have b:=h.t b;refine ag (v:=af #[E,F,H,I]) tp rfl ⟨rfl,((((b.sc).sc).sc).sc)⟩
theorem J3(a b:Int)(c:-4611686018427387904<=a)(d:a<=4611686018427387904)(w:av): ar aq 166 #[a,b] w λe w'=>e=ac (an .i64 (iq a b))/\w=w':=by
 obtain⟨h,F⟩:=vN a b 4611686018427387904 c d;unfold iq;by_cases g:b=0
 .subst g;go_enter func166,ntmps166;go_wp2;go_ret;exact⟨rfl,rfl⟩
 have f:(b==0)=aa:=nK
 rw [f];cases j:(a.tmod b != 0)<;>cases C:decide (a<0)<;>cases i:decide (b<0);all_goals
  go_enter func166,ntmps166;go_wp2;go_ret;exact⟨lz,rfl⟩
theorem LW(a b:Int)(c:-4611686018427387904<=a)(d:a<=4611686018427387904)(w:av): ar aq 177 #[a,b] w λe w'=>e=ac (an .i64 (qG a b))/\w=w':=by
 obtain⟨h,F⟩:=vN a b 4611686018427387904 c d;unfold qG;by_cases g:b=0
 .subst g;go_enter func177,ntmps177;go_wp2;go_ret;exact⟨rfl,rfl⟩
 have f:(b==0)=aa:=nK
 rw [f];cases j:(a.tmod b != 0)<;>cases C:decide (a<0)<;>cases i:decide (b<0);all_goals
  go_enter func177,ntmps177;go_wp2;go_ret;exact⟨lz,rfl⟩
theorem PY(r:Rc)(n:Int)(C:r.bd)(J:-1099511627776<=n)(K:n<=1099511627776)(w:av): ar aq 259 #[r.v,n] w λe w'=>e=ac (r.grow n).v/\bH [] w w':=by
 obtain⟨c,f,d,a⟩:=r;obtain⟨⟨p,s⟩,⟨u,x⟩,⟨y,z⟩,A,B⟩:=C;simp only at p s u x y z A B;have k:=iM ⟨c,f,d,a⟩;have G:=vK ⟨c-n,f-n,d+n,a+n⟩;cases g:(Rc.mk c f d a).empty with
 |true=>
  rw [g]at k;unfold Rc.grow;rw [g,aG rfl];simp only [Rc.v,Rc.zero]at *;have j:=lh k;clear k G g;have h:bH [] _ _:=((tR w).alloc (aw #[c,f,d,a] 59)).alloc (aw #[(0:Int),(0:Int),(0:Int),(0:Int)] 59);have b:=h.here;go_enter func259,ntmps259;go_wp2_with (go_at_call 111;refine b.call (j.o _) ?_;intro I b i l)
  have b:=h.t b;refine ag (v:=af #[(0:Int),(0:Int),(0:Int),(0:Int)]) tm rfl ⟨rfl,((((b.sc).sc).sc).sc)⟩
 |false=>
  rw [g]at k;unfold Rc.grow;rw [g,aF lz];simp only at G ⊢;generalize (Rc.mk (c-n) (f-n) (d+n) (a+n)).norm=m at *;obtain⟨D,E,F,H⟩:=m;simp only [Rc.v]at *;have j:=lh k;have q:=lh G;clear k G g;have h:bH [] _ _:=((tR w).alloc (aw #[c,f,d,a] 59)).alloc (aw #[(0:Int),(0:Int),(0:Int),(0:Int)] 59);have b:=h.here;go_enter func259,ntmps259;go_wp2_with (first
   |(go_at_call 111;refine b.call (j.o _) ?_;intro I b i l)
   |(go_at_call 224;refine b.call (q.o _) ?_;intro L b i l))
  have b:=h.t b;refine ag (v:=af #[D,E,F,H]) tm rfl ⟨rfl,((((b.sc).sc).sc).sc)⟩
theorem PO(r:Rc)(x y:Int)(D:r.bd)(K:-1099511627776<=x)(L:x<=1099511627776)(M:-1099511627776<=y)(N:y<=1099511627776)(w:av): ar aq 260 #[r.v,x,y] w λe w'=>e=ac (r.move x y).v/\bH [] w w':=by
 obtain⟨c,f,d,a⟩:=r;obtain⟨⟨p,s⟩,⟨u,n⟩,⟨z,A⟩,B,C⟩:=D;simp only at p s u n z A B C;have k:=iM ⟨c,f,d,a⟩;have G:=vK ⟨c+x,f+y,d+x,a+y⟩;cases g:(Rc.mk c f d a).empty with
 |true=>
  rw [g]at k;unfold Rc.move;rw [g,aG rfl];simp only [Rc.v,Rc.zero]at *;have j:=lh k;clear k G g;have h:bH [] _ _:=((tR w).alloc (aw #[c,f,d,a] 59)).alloc (aw #[(0:Int),(0:Int),(0:Int),(0:Int)] 59);have b:=h.here;go_enter func260,ntmps260;go_wp2_with (go_at_call 111;refine b.call (j.o _) ?_;intro J b i l)
  have b:=h.t b;refine ag (v:=af #[(0:Int),(0:Int),(0:Int),(0:Int)]) tl rfl ⟨rfl,((((b.sc).sc).sc).sc)⟩
 |false=>
  rw [g]at k;unfold Rc.move;rw [g,aF lz];simp only at G ⊢;generalize (Rc.mk (c+x) (f+y) (d+x) (a+y)).norm=m at *;obtain⟨E,F,H,I⟩:=m;simp only [Rc.v]at *;have j:=lh k;have q:=lh G;clear k G g;have h:bH [] _ _:=((tR w).alloc (aw #[c,f,d,a] 59)).alloc (aw #[(0:Int),(0:Int),(0:Int),(0:Int)] 59);have b:=h.here;go_enter func260,ntmps260;go_wp2_with (first
   |(go_at_call 111;refine b.call (j.o _) ?_;intro J b i l)
   |(go_at_call 224;refine b.call (q.o _) ?_;intro O b i l))
  have b:=h.t b;refine ag (v:=af #[E,F,H,I]) tl rfl ⟨rfl,((((b.sc).sc).sc).sc)⟩
theorem wY(a b:Int)(c:-4611686018427387904<=a)(d:a<=4611686018427387904)(w:av): ar aq 102 #[a,b] w λe w'=>e=ac (an .i64 (iq a b))/\w=w':=by
 obtain⟨h,F⟩:=vN a b 4611686018427387904 c d;unfold iq;by_cases g:b=0
 .subst g;go_enter func102,ntmps102;go_wp2;go_ret;exact⟨rfl,rfl⟩
 have f:(b==0)=aa:=nK
 rw [f];cases j:(a.tmod b != 0)<;>cases C:decide (a<0)<;>cases i:decide (b<0);all_goals
  go_enter func102,ntmps102;go_wp2;go_ret;exact⟨lz,rfl⟩
theorem Gi(a b:Int)(c:-4611686018427387904<=a)(d:a<=4611686018427387904)(w:av): ar aq 225 #[a,b] w λe w'=>e=ac (an .i64 (qG a b))/\w=w':=by
 obtain⟨h,F⟩:=vN a b 4611686018427387904 c d;unfold qG;by_cases g:b=0
 .subst g;go_enter func225,ntmps225;go_wp2;go_ret;exact⟨rfl,rfl⟩
 have f:(b==0)=aa:=nK
 rw [f];cases j:(a.tmod b != 0)<;>cases C:decide (a<0)<;>cases i:decide (b<0);all_goals
  go_enter func225,ntmps225;go_wp2;go_ret;exact⟨lz,rfl⟩
structure Af where
 a:Int
 b:Int
 c:Int
 d:Int
 e:Int
 f:Int
 den:Int
def Af.v(p:Af): Value:=af #[p.a,p.b,p.c,p.d,p.e,p.f,p.den]
def lm(a n:Int): Bool:=decide (-a<=n)&&decide (n<=a)
def Af.det(p:Af): Int:=p.a*p.e-p.b*p.d
def Af.small(p:Af): Bool:=lm 4096 p.a&&lm 4096 p.b&&lm 4096 p.d&&lm 4096 p.e&&lm 4096 p.den
def Af.shift(p:Af): Bool:=lm 268435456 p.c&&lm 268435456 p.f
def Af.ok(p:Af): Bool:=decide (1<=p.den)&&p.small&&p.shift&&(p.det != 0)
theorem yS{a n:Int}: lm a n=ab↔-a<=n/\n<=a:=by simp [lm]
theorem qy{x y M N:Int}(c:-M<=x)(d:x<=M)(f:-N<=y)(g:y<=N)(a:0<=M)(b:0<=N): -(M*N)<=x*y/\x*y<=M*N:=by
 have h:(x*y).natAbs<=M.natAbs*N.natAbs:=qq
 have e:((M.natAbs*N.natAbs:Nat):Int)=M*N:=by rw [Int.natCast_mul,Int.natAbs_of_nonneg a,Int.natAbs_of_nonneg b]
 omega
theorem Jz(b:Int)(m:0<=b)(p:b<=1099511627776)(a:List Int)(J:a.length<=100)(g:Nat)(w:av)(f:∀j,j<a.length->w.cell? ⟨g,j,none⟩=some (an .i64 (a.getD j 0))):
  ar aq 261 #[b,am (some ⟨g,0,none⟩) a.length a.length] w λe w'=>e=ac (ad (a.all (lm b)))/\w=w':=by
 have l:=lh f;clear f;generalize G:a.length=n at *;have q:=lh G;clear G;go_enter func261,ntmps261;go_wp2_with fail
 go_loop [9] (λs9=>∃k:Nat,k<=n/\s9=k/\(a.take k).all (lm b)=ab) (λs9=>n-(intOf s9).toNat);case atStart=>exact⟨0,gn,rfl,lz⟩
 obtain⟨k,t,rfl,d⟩:=hrel;have y:=lh d;clear d;by_cases a5:k<n
 .have ax:=l.o k a5;have h:a.take (k+1)=a.take k++[a.getD k 0]:=by have i:k<a.length:=(by rw [q.o];exact a5);rw [aT i];simp [List.getD,i]
  have I:=lh h;clear h;generalize J:a.getD k 0=z at *;have c:=lh J;clear J;by_cases C:z < -b
  .go_wp2;go_ret;refine⟨?_,rfl⟩;have:a.all (lm b)=aa:=nU;rw [this];rfl
  by_cases s:b<z
  .go_wp2;go_ret;refine⟨?_,rfl⟩;have:a.all (lm b)=aa:=nU;rw [this];rfl
  go_wp2_with fail
  go_round;case rel=>exact⟨k+1,gn,by go_num,by rw [I.o,List.all_append,y.o];simp [lm];omega⟩
  simp [intOf];omega
 obtain rfl:k=n:=gn
 go_wp2;go_ret;have:=y.o;rw [<-q.o,List.take_length]at this;exact⟨ux,rfl⟩
theorem Ru(p:Af)(n:p.small=ab)(w:av): CR 240 #[p.v] w p.det:=by
 obtain⟨a,b,c,d,e,f,q⟩:=p;simp only [Af.small,az,yS]at n;obtain⟨⟨⟨⟨⟨g,h⟩,i,s⟩,j,F⟩,k,l⟩,_,_⟩:=n;obtain⟨t,u⟩:=qy g h k l gn gn;obtain⟨m,o⟩:=qy i s j F gn gn;simp only [Int.reduceMul,Int.reduceNeg]at t u m o;simp only [Af.v,Af.det];go_enter func240,ntmps240;go_wp2;go_ret;exact⟨rfl,(bH.refl _ _).a _⟩
theorem SL(p:Af)(n:p.small=ab)(w:av): CR 169 #[p.v] w p.det:=by
 obtain⟨a,b,c,d,e,f,q⟩:=p;simp only [Af.small,az,yS]at n;obtain⟨⟨⟨⟨⟨g,h⟩,i,s⟩,j,F⟩,k,l⟩,_,_⟩:=n;obtain⟨t,u⟩:=qy g h k l gn gn;obtain⟨m,o⟩:=qy i s j F gn gn;simp only [Int.reduceMul,Int.reduceNeg]at t u m o;simp only [Af.v,Af.det];go_enter func169,ntmps169;go_wp2;go_ret;exact⟨rfl,(bH.refl _ _).a _⟩
theorem lV(n a:Int)(b:0<=a)(c:a<=1099511627776)(w:av): ar aq 168 #[n,a] w λe w'=>e=ac (ad (lm a n))/\w=w':=by
 by_cases C:-a<=n
 .by_cases g:n<=a
  .have e:lm a n=ab:=tI;rw [e];go_enter func168,ntmps168;go_wp2;go_ret;exact⟨rfl,rfl⟩
  have e:lm a n=aa:=tI
  rw [e];go_enter func168,ntmps168;go_wp2;go_ret;exact⟨rfl,rfl⟩
 have e:lm a n=aa:=tI
 rw [e];go_enter func168,ntmps168;go_wp2;go_ret;exact⟨rfl,rfl⟩
theorem qW(a:Int)(c:0<=a)(d:a<=1099511627776)(b:List Int)(J:b.length<=100)(n:Nat)(G:n=b.length)(u:av)(cs:Array Value)(f:cs=⟨b.map (Value.int .i64)⟩)(g:Nat)(h:g=u.heap.size):
  ar aq 261 #[a,am (some ⟨g,0,none⟩) n n] (u.alloc (aw cs 3)) λe w'=>e=ac (ad (b.all (lm a)))/\u.alloc (aw cs 3)=w':=by
 subst G f h;refine Jz a c d b J u.heap.size _ λj k=>?_;rw [aA _ _ _ _ 3 (0,0) (heap_alloc_new u _)];simp [List.getD,k]
def Af.cells(p:Af): Obj:=aw #[p.a,p.b,p.c,p.d,p.e,p.f,p.den] 40
theorem wX(p:Af)(w:av): CR 234 #[p.v] w (ad p.ok):=by
 have y:=λu g x=>qW 4096 gn gn [p.a,p.b,p.d,p.e,p.den] lz 5 rfl u #[p.a,p.b,p.d,p.e,p.den] rfl g x;have X:=λu g x=>qW 268435456 gn gn [p.c,p.f] lz 2 rfl u #[p.c,p.f] rfl g x;have z:[p.a,p.b,p.d,p.e,p.den].all (lm 4096)=p.small:=by simp [Af.small,Bool.and_assoc]
 have A:[p.c,p.f].all (lm 268435456)=p.shift:=by simp [Af.shift]
 rw [z]at y;rw [A]at X;clear z A;have E:=Ru p;unfold Af.ok;obtain⟨a,b,c,d,e,f,q⟩:=p;generalize F:(Af.mk a b c d e f q).small=H,D:(Af.mk a b c d e f q).shift=G,(Af.mk a b c d e f q).det=n at *;simp only [Af.v]at *;clear F D;have i:=lh y;have j:=lh X;clear y X;by_cases B:1<=q
 .have k:decide (1<=q)=ab:=by simpa using B
  rw [k];clear k;cases H with
  |false=>
   clear E;show ar _ _ _ _ λe w'=>e=ac (ad aa)/\_;go_enter func234,ntmps234;go_wp2_with (first
    |(go_at_call 261;(with_reducible refine (i.o _ _ lz).mono ?_);rintro e h ⟨rfl,rfl⟩)
    |(go_at_call 261;(with_reducible refine (j.o _ _ lz).mono ?_);rintro e h ⟨rfl,rfl⟩))
   go_ret;exact⟨rfl,((tR w).a _).a _⟩
  |true=>
   have E:=E rfl;have m:=lh E;clear E;cases G with
   |false=>
    show ar _ _ _ _ λe w'=>e=ac (ad aa)/\_;go_enter func234,ntmps234;go_wp2_with (first
     |(go_at_call 261;(with_reducible refine (i.o _ _ lz).mono ?_);rintro e h ⟨rfl,rfl⟩)
     |(go_at_call 261;(with_reducible refine (j.o _ _ lz).mono ?_);rintro e h ⟨rfl,rfl⟩)
     |(go_at_call 240;refine mR (m.o _) λh l=>?_))
    go_ret;exact⟨rfl,(((tR w).a _).a _).a _⟩
   |true=>
    by_cases C:n=0
    .have s:(n != 0)=aa:=oS;rw [s];show ar _ _ _ _ λe w'=>e=ac (ad aa)/\_;go_enter func234,ntmps234;go_wp2_with (first
      |(go_at_call 261;(with_reducible refine (i.o _ _ lz).mono ?_);rintro e h ⟨rfl,rfl⟩)
      |(go_at_call 261;(with_reducible refine (j.o _ _ lz).mono ?_);rintro e h ⟨rfl,rfl⟩)
      |(go_at_call 240;refine mR (m.o _) λh l=>?_))
     go_ret;exact⟨rfl,((((tR w).a _).a _).a _).t l⟩
    have s:(n != 0)=ab:=oS;rw [s];show ar _ _ _ _ λe w'=>e=ac (ad ab)/\_;go_enter func234,ntmps234;go_wp2_with (first
     |(go_at_call 261;(with_reducible refine (i.o _ _ lz).mono ?_);rintro e h ⟨rfl,rfl⟩)
     |(go_at_call 261;(with_reducible refine (j.o _ _ lz).mono ?_);rintro e h ⟨rfl,rfl⟩)
     |(go_at_call 240;refine mR (m.o _) λh l=>?_))
    go_ret;exact⟨rfl,((((tR w).a _).a _).a _).t l⟩
 have k:decide (1<=q)=aa:=by simpa using B
 rw [k];clear k E;show ar _ _ _ _ λe w'=>e=ac (ad aa)/\_;go_enter func234,ntmps234;go_wp2_with (first
  |(go_at_call 261;(with_reducible refine (i.o _ _ lz).mono ?_);rintro e h ⟨rfl,rfl⟩)
  |(go_at_call 261;with_reducible refine mS (j.o _ _ lz) ?_))
 go_ret;exact⟨rfl,(tR w).a _⟩
def Af.small4(p:Af): Bool:=lm 4096 p.a&&lm 4096 p.b&&lm 4096 p.d&&lm 4096 p.e
theorem Af.ok_eq(p:Af): p.ok=(decide (1<=p.den)&&decide (p.den<=4096)&&p.small4&&p.shift&&(p.det != 0)):=by
 unfold Af.ok Af.small Af.small4 lm;by_cases h:1<=p.den
 .have f:-4096<=p.den:=by omega
  simp [h,f,Bool.and_assoc,Bool.and_comm,Bool.and_left_comm]
 simp [h]
theorem xA(p:Af)(w:av): CR 114 #[p.v] w (ad p.ok):=by
 rw [Af.ok_eq];have I:=SL p;have L:decide (1<=p.den)=ab->decide (p.den<=4096)=ab->p.small4=ab->p.small=ab:=by unfold Af.small Af.small4 lm;intro z A x;simp at z A x ⊢;omega
 have D:p.small4=(lm 4096 p.a&&lm 4096 p.b&&lm 4096 p.d&&lm 4096 p.e):=rfl;have C:p.shift=(lm 268435456 p.c&&lm 268435456 p.f):=rfl;have F:=lV p.a 4096 gn gn;have G:=lV p.b 4096 gn gn;have E:=lV p.d 4096 gn gn;have J:=lV p.e 4096 gn gn;have H:=lV p.c 268435456 gn gn;have K:=lV p.f 268435456 gn gn;obtain⟨a,b,c,d,e,f,q⟩:=p;simp only [Af.v]at *;generalize (Af.mk a b c d e f q).small4=s4,(Af.mk a b c d e f q).shift=M,(Af.mk a b c d e f q).det=y at *;generalize (Af.mk a b c d e f q).small=W,lm 4096 a=O,lm 4096 b=P,lm 4096 d=R,lm 4096 e=S,lm 268435456 c=Q,lm 268435456 f=T at *;obtain⟨h,i,k,l,j,m,N,u⟩:=lh8 F G E J H K L I;have n:=lh D;have s:=lh C;clear L I D C F G E J H K;go_enter func114,ntmps114;go_upto_region 1 with (fail)
 go_cut [3] (λs3 wx=>s3=ad s4/\wx=w.alloc (aw #[a,b,c,d,e,f,q] 40));case first=>
  cases O with
  |false=>
   go_wp2_with (first
    |(go_at_call 168;(with_reducible refine (h.o _).mono ?_);rintro e g ⟨rfl,rfl⟩)
    |(go_at_call 168;(with_reducible refine (i.o _).mono ?_);rintro e g ⟨rfl,rfl⟩)
    |(go_at_call 168;(with_reducible refine (k.o _).mono ?_);rintro e g ⟨rfl,rfl⟩)
    |(go_at_call 168;(with_reducible refine (l.o _).mono ?_);rintro e g ⟨rfl,rfl⟩)
    |(go_at_call 168;(with_reducible refine (j.o _).mono ?_);rintro e g ⟨rfl,rfl⟩)
    |(go_at_call 168;(with_reducible refine (m.o _).mono ?_);rintro e g ⟨rfl,rfl⟩))
   go_meet;exact⟨ua,rfl⟩
  |true=>
   cases P with
   |false=>
    go_wp2_with (first
     |(go_at_call 168;(with_reducible refine (h.o _).mono ?_);rintro e g ⟨rfl,rfl⟩)
     |(go_at_call 168;(with_reducible refine (i.o _).mono ?_);rintro e g ⟨rfl,rfl⟩)
     |(go_at_call 168;(with_reducible refine (k.o _).mono ?_);rintro e g ⟨rfl,rfl⟩)
     |(go_at_call 168;(with_reducible refine (l.o _).mono ?_);rintro e g ⟨rfl,rfl⟩)
     |(go_at_call 168;(with_reducible refine (j.o _).mono ?_);rintro e g ⟨rfl,rfl⟩)
     |(go_at_call 168;(with_reducible refine (m.o _).mono ?_);rintro e g ⟨rfl,rfl⟩))
    go_meet;exact⟨ua,rfl⟩
   |true=>
    cases R with
    |false=>
     go_wp2_with (first
      |(go_at_call 168;(with_reducible refine (h.o _).mono ?_);rintro e g ⟨rfl,rfl⟩)
      |(go_at_call 168;(with_reducible refine (i.o _).mono ?_);rintro e g ⟨rfl,rfl⟩)
      |(go_at_call 168;(with_reducible refine (k.o _).mono ?_);rintro e g ⟨rfl,rfl⟩)
      |(go_at_call 168;(with_reducible refine (l.o _).mono ?_);rintro e g ⟨rfl,rfl⟩)
      |(go_at_call 168;(with_reducible refine (j.o _).mono ?_);rintro e g ⟨rfl,rfl⟩)
      |(go_at_call 168;(with_reducible refine (m.o _).mono ?_);rintro e g ⟨rfl,rfl⟩))
     go_meet;exact⟨ua,rfl⟩
    |true=>
     cases S with
     |false=>
      go_wp2_with (first
       |(go_at_call 168;(with_reducible refine (h.o _).mono ?_);rintro e g ⟨rfl,rfl⟩)
       |(go_at_call 168;(with_reducible refine (i.o _).mono ?_);rintro e g ⟨rfl,rfl⟩)
       |(go_at_call 168;(with_reducible refine (k.o _).mono ?_);rintro e g ⟨rfl,rfl⟩)
       |(go_at_call 168;(with_reducible refine (l.o _).mono ?_);rintro e g ⟨rfl,rfl⟩)
       |(go_at_call 168;(with_reducible refine (j.o _).mono ?_);rintro e g ⟨rfl,rfl⟩)
       |(go_at_call 168;(with_reducible refine (m.o _).mono ?_);rintro e g ⟨rfl,rfl⟩))
      go_meet;exact⟨ua,rfl⟩
     |true=>
      go_wp2_with (first
       |(go_at_call 168;(with_reducible refine (h.o _).mono ?_);rintro e g ⟨rfl,rfl⟩)
       |(go_at_call 168;(with_reducible refine (i.o _).mono ?_);rintro e g ⟨rfl,rfl⟩)
       |(go_at_call 168;(with_reducible refine (k.o _).mono ?_);rintro e g ⟨rfl,rfl⟩)
       |(go_at_call 168;(with_reducible refine (l.o _).mono ?_);rintro e g ⟨rfl,rfl⟩)
       |(go_at_call 168;(with_reducible refine (j.o _).mono ?_);rintro e g ⟨rfl,rfl⟩)
       |(go_at_call 168;(with_reducible refine (m.o _).mono ?_);rintro e g ⟨rfl,rfl⟩))
      go_meet;exact⟨ua,rfl⟩
 obtain⟨rfl,rfl⟩:=hcut;go_upto_region 2 with (fail)
 go_cut [4] (λV wx=>V=ad M/\wx=w.alloc (aw #[a,b,c,d,e,f,q] 40));case first=>
  cases Q with
  |false=>
   go_wp2_with (first
    |(go_at_call 168;(with_reducible refine (h.o _).mono ?_);rintro e g ⟨rfl,rfl⟩)
    |(go_at_call 168;(with_reducible refine (i.o _).mono ?_);rintro e g ⟨rfl,rfl⟩)
    |(go_at_call 168;(with_reducible refine (k.o _).mono ?_);rintro e g ⟨rfl,rfl⟩)
    |(go_at_call 168;(with_reducible refine (l.o _).mono ?_);rintro e g ⟨rfl,rfl⟩)
    |(go_at_call 168;(with_reducible refine (j.o _).mono ?_);rintro e g ⟨rfl,rfl⟩)
    |(go_at_call 168;(with_reducible refine (m.o _).mono ?_);rintro e g ⟨rfl,rfl⟩))
   go_meet;exact⟨by rw [s.out];rfl,rfl⟩
  |true=>
   cases T with
   |false=>
    go_wp2_with (first
     |(go_at_call 168;(with_reducible refine (h.o _).mono ?_);rintro e g ⟨rfl,rfl⟩)
     |(go_at_call 168;(with_reducible refine (i.o _).mono ?_);rintro e g ⟨rfl,rfl⟩)
     |(go_at_call 168;(with_reducible refine (k.o _).mono ?_);rintro e g ⟨rfl,rfl⟩)
     |(go_at_call 168;(with_reducible refine (l.o _).mono ?_);rintro e g ⟨rfl,rfl⟩)
     |(go_at_call 168;(with_reducible refine (j.o _).mono ?_);rintro e g ⟨rfl,rfl⟩)
     |(go_at_call 168;(with_reducible refine (m.o _).mono ?_);rintro e g ⟨rfl,rfl⟩))
    go_meet;exact⟨by rw [s.out];rfl,rfl⟩
   |true=>
    go_wp2_with (first
     |(go_at_call 168;(with_reducible refine (h.o _).mono ?_);rintro e g ⟨rfl,rfl⟩)
     |(go_at_call 168;(with_reducible refine (i.o _).mono ?_);rintro e g ⟨rfl,rfl⟩)
     |(go_at_call 168;(with_reducible refine (k.o _).mono ?_);rintro e g ⟨rfl,rfl⟩)
     |(go_at_call 168;(with_reducible refine (l.o _).mono ?_);rintro e g ⟨rfl,rfl⟩)
     |(go_at_call 168;(with_reducible refine (j.o _).mono ?_);rintro e g ⟨rfl,rfl⟩)
     |(go_at_call 168;(with_reducible refine (m.o _).mono ?_);rintro e g ⟨rfl,rfl⟩))
    go_meet;exact⟨by rw [s.out];rfl,rfl⟩
 obtain⟨rfl,rfl⟩:=hcut;clear h i k l j m n s;by_cases z:1<=q
 .by_cases A:q<=4096
  .cases s4 with
   |false=>
    go_wp2;go_ret;exact⟨mz,(tR w).a _⟩
   |true=>
    cases M with
    |false=>
     go_wp2;go_ret;exact⟨mz,(tR w).a _⟩
    |true=>
     have E:=u.o (N.o (by simpa using z) (by simpa using A) rfl);have u:=lh E;clear E;by_cases x:y=0
     .have U:(y != 0)=aa:=(by simpa using x);go_wp2_with (first
       |(go_at_call 169;refine mR (u.o _) λg B=>?_))
      go_ret;exact⟨mz,((tR w).a _).t B⟩
     have U:(y != 0)=ab:=(by simpa using x);go_wp2_with (first
      |(go_at_call 169;refine mR (u.o _) λg B=>?_))
     go_ret;exact⟨mz,((tR w).a _).t B⟩
  go_wp2;go_ret;exact⟨mz,(tR w).a _⟩
 go_wp2;go_ret;exact⟨mz,(tR w).a _⟩
structure Fv where
 ag1:Int
 Xf:Int
 kA:Option Addr
 kn:Nat
 kc:Nat
 div:Int
 value:Int
 cA:Option Addr
 cn:Nat
 cc:Nat
def Fv.v(f:Fv): Value:=af #[f.ag1,f.Xf,am f.kA f.kn f.kc,f.div,f.value,am f.cA f.cn f.cc]
def Fv.plain(f:Fv)(k v c r:Bool): Bool:=(k||(f.kn==0)&&(f.div==0))&&(v||(f.value==0))&&(c||(f.cn==0))&&(r||(f.Xf==0))
theorem UU(f:Fv)(w:av): CR 170 #[f.v,ad ab,ad aa,ad aa,ad ab] w (ad (f.plain ab aa aa ab)):=by
 obtain⟨ag1,Xf,l,n,m,k,h,cA,b,j⟩:=f;simp only [Fv.v,Fv.plain];by_cases d:h=0
 .have g:(h==0)=ab:=by simpa using d
  rw [g];clear g;subst d;by_cases c:b=0
  .have g:(b==0)=ab:=mx;rw [g];clear g;subst c;show ar _ _ _ _ λe w'=>e=ac (ad ab)/\_;go_enter ap,ao;go_wp2;go_ret;exact⟨rfl,(tR w).a _⟩
  have g:(b==0)=aa:=mx
  rw [g];have i:((b:Int)==0)=aa:=mx
  clear g;show ar _ _ _ _ λe w'=>e=ac (ad aa)/\_;go_enter ap,ao;go_wp2;go_ret;exact⟨rfl,(tR w).a _⟩
 have g:(h==0)=aa:=mH
 rw [g];have i:=g;clear g;show ar _ _ _ _ λe w'=>e=ac (ad aa)/\_;go_enter ap,ao;go_wp2;go_ret;exact⟨rfl,(tR w).a _⟩
theorem U0(f:Fv)(w:av): CR 170 #[f.v,ad aa,ad aa,ad aa,ad ab] w (ad (f.plain aa aa aa ab)):=by
 obtain⟨ag1,Xf,o,n,p,k,l,cA,b,m⟩:=f;simp only [Fv.v,Fv.plain];by_cases d:n=0
 .have g:(n==0)=ab:=by simpa using d
  rw [g];clear g;subst d;by_cases i:k=0
  .have g:(k==0)=ab:=nj;rw [g];clear g;subst i;by_cases j:l=0
   .have g:(l==0)=ab:=pu;rw [g];clear g;subst j;by_cases c:b=0
    .have g:(b==0)=ab:=mx;rw [g];clear g;subst c;show ar _ _ _ _ λe w'=>e=ac (ad ab)/\_;go_enter ap,ao;go_wp2;go_ret;exact⟨rfl,(tR w).a _⟩
    have g:(b==0)=aa:=mx;rw [g];have h:((b:Int)==0)=aa:=mx;clear g;show ar _ _ _ _ λe w'=>e=ac (ad aa)/\_;go_enter ap,ao;go_wp2;go_ret;exact⟨rfl,(tR w).a _⟩
   have g:(l==0)=aa:=pu;rw [g];have h:=g;clear g;show ar _ _ _ _ λe w'=>e=ac (ad aa)/\_;go_enter ap,ao;go_wp2;go_ret;exact⟨rfl,(tR w).a _⟩
  have g:(k==0)=aa:=nj
  rw [g];have h:=g;clear g;show ar _ _ _ _ λe w'=>e=ac (ad aa)/\_;go_enter ap,ao;go_wp2;go_ret;exact⟨rfl,(tR w).a _⟩
 have g:(n==0)=aa:=mH
 rw [g];have h:((n:Int)==0)=aa:=mH
 clear g;show ar _ _ _ _ λe w'=>e=ac (ad aa)/\_;go_enter ap,ao;go_wp2;go_ret;exact⟨rfl,(tR w).a _⟩
theorem UO(f:Fv)(w:av): CR 170 #[f.v,ad aa,ad aa,ad ab,ad aa] w (ad (f.plain aa aa ab aa)):=by
 obtain⟨ag1,Xf,o,n,p,k,j,cA,m,l⟩:=f;simp only [Fv.v,Fv.plain];by_cases d:n=0
 .have g:(n==0)=ab:=by simpa using d
  rw [g];clear g;subst d;by_cases i:k=0
  .have g:(k==0)=ab:=nj;rw [g];clear g;subst i;by_cases h:j=0
   .have g:(j==0)=ab:=om;rw [g];clear g;subst h;by_cases c:Xf=0
    .have g:(Xf==0)=ab:=mx;rw [g];clear g;subst c;show ar _ _ _ _ λe w'=>e=ac (ad ab)/\_;go_enter ap,ao;go_wp2;go_ret;exact⟨rfl,(tR w).a _⟩
    have g:(Xf==0)=aa:=mx;rw [g];have b:=g;clear g;show ar _ _ _ _ λe w'=>e=ac (ad aa)/\_;go_enter ap,ao;go_wp2;go_ret;exact⟨rfl,(tR w).a _⟩
   have g:(j==0)=aa:=om;rw [g];have b:=g;clear g;show ar _ _ _ _ λe w'=>e=ac (ad aa)/\_;go_enter ap,ao;go_wp2;go_ret;exact⟨rfl,(tR w).a _⟩
  have g:(k==0)=aa:=nj
  rw [g];have b:=g;clear g;show ar _ _ _ _ λe w'=>e=ac (ad aa)/\_;go_enter ap,ao;go_wp2;go_ret;exact⟨rfl,(tR w).a _⟩
 have g:(n==0)=aa:=mH
 rw [g];have b:((n:Int)==0)=aa:=mH
 clear g;show ar _ _ _ _ λe w'=>e=ac (ad aa)/\_;go_enter ap,ao;go_wp2;go_ret;exact⟨rfl,(tR w).a _⟩
theorem Vs(f:Fv)(w:av): CR 170 #[f.v,ad aa,ad aa,ad aa,ad aa] w (ad (f.plain aa aa aa aa)):=by
 obtain⟨ag1,Xf,p,n,q,k,m,cA,b,o⟩:=f;simp only [Fv.v,Fv.plain];by_cases h:n=0
 .have g:(n==0)=ab:=by simpa using h
  rw [g];clear g;subst h;by_cases i:k=0
  .have g:(k==0)=ab:=nj;rw [g];clear g;subst i;by_cases l:m=0
   .have g:(m==0)=ab:=uv;rw [g];clear g;subst l;by_cases d:b=0
    .have g:(b==0)=ab:=mH;rw [g];clear g;subst d;by_cases j:Xf=0
     .have g:(Xf==0)=ab:=pu;rw [g];clear g;subst j;show ar _ _ _ _ λe w'=>e=ac (ad ab)/\_;go_enter ap,ao;go_wp2;go_ret;exact⟨rfl,(tR w).a _⟩
     have g:(Xf==0)=aa:=pu;rw [g];have c:=g;clear g;show ar _ _ _ _ λe w'=>e=ac (ad aa)/\_;go_enter ap,ao;go_wp2;go_ret;exact⟨rfl,(tR w).a _⟩
    have g:(b==0)=aa:=mH;rw [g];have c:((b:Int)==0)=aa:=mH;clear g;show ar _ _ _ _ λe w'=>e=ac (ad aa)/\_;go_enter ap,ao;go_wp2;go_ret;exact⟨rfl,(tR w).a _⟩
   have g:(m==0)=aa:=uv;rw [g];have c:=g;clear g;show ar _ _ _ _ λe w'=>e=ac (ad aa)/\_;go_enter ap,ao;go_wp2;go_ret;exact⟨rfl,(tR w).a _⟩
  have g:(k==0)=aa:=nj
  rw [g];have c:=g;clear g;show ar _ _ _ _ λe w'=>e=ac (ad aa)/\_;go_enter ap,ao;go_wp2;go_ret;exact⟨rfl,(tR w).a _⟩
 have g:(n==0)=aa:=om
 rw [g];have c:((n:Int)==0)=aa:=om
 clear g;show ar _ _ _ _ λe w'=>e=ac (ad aa)/\_;go_enter ap,ao;go_wp2;go_ret;exact⟨rfl,(tR w).a _⟩
theorem Va(f:Fv)(w:av): CR 170 #[f.v,ad aa,ad ab,ad aa,ad aa] w (ad (f.plain aa ab aa aa)):=by
 obtain⟨ag1,Xf,m,n,o,k,p,cA,b,l⟩:=f;simp only [Fv.v,Fv.plain];by_cases d:n=0
 .have g:(n==0)=ab:=by simpa using d
  rw [g];clear g;subst d;by_cases i:k=0
  .have g:(k==0)=ab:=nj;rw [g];clear g;subst i;by_cases c:b=0
   .have g:(b==0)=ab:=mx;rw [g];clear g;subst c;by_cases j:Xf=0
    .have g:(Xf==0)=ab:=pu;rw [g];clear g;subst j;show ar _ _ _ _ λe w'=>e=ac (ad ab)/\_;go_enter ap,ao;go_wp2;go_ret;exact⟨rfl,(tR w).a _⟩
    have g:(Xf==0)=aa:=pu;rw [g];have h:=g;clear g;show ar _ _ _ _ λe w'=>e=ac (ad aa)/\_;go_enter ap,ao;go_wp2;go_ret;exact⟨rfl,(tR w).a _⟩
   have g:(b==0)=aa:=mx;rw [g];have h:((b:Int)==0)=aa:=mx;clear g;show ar _ _ _ _ λe w'=>e=ac (ad aa)/\_;go_enter ap,ao;go_wp2;go_ret;exact⟨rfl,(tR w).a _⟩
  have g:(k==0)=aa:=nj
  rw [g];have h:=g;clear g;show ar _ _ _ _ λe w'=>e=ac (ad aa)/\_;go_enter ap,ao;go_wp2;go_ret;exact⟨rfl,(tR w).a _⟩
 have g:(n==0)=aa:=mH
 rw [g];have h:((n:Int)==0)=aa:=mH
 clear g;show ar _ _ _ _ λe w'=>e=ac (ad aa)/\_;go_enter ap,ao;go_wp2;go_ret;exact⟨rfl,(tR w).a _⟩
theorem VB(f:Fv)(w:av): CR 170 #[f.v,ad aa,ad ab,ad aa,ad ab] w (ad (f.plain aa ab aa ab)):=by
 obtain⟨ag1,Xf,l,n,m,k,o,cA,b,j⟩:=f;simp only [Fv.v,Fv.plain];by_cases d:n=0
 .have g:(n==0)=ab:=by simpa using d
  rw [g];clear g;subst d;by_cases i:k=0
  .have g:(k==0)=ab:=nj;rw [g];clear g;subst i;by_cases c:b=0
   .have g:(b==0)=ab:=mx;rw [g];clear g;subst c;show ar _ _ _ _ λe w'=>e=ac (ad ab)/\_;go_enter ap,ao;go_wp2;go_ret;exact⟨rfl,(tR w).a _⟩
   have g:(b==0)=aa:=mx;rw [g];have h:((b:Int)==0)=aa:=mx;clear g;show ar _ _ _ _ λe w'=>e=ac (ad aa)/\_;go_enter ap,ao;go_wp2;go_ret;exact⟨rfl,(tR w).a _⟩
  have g:(k==0)=aa:=nj
  rw [g];have h:=g;clear g;show ar _ _ _ _ λe w'=>e=ac (ad aa)/\_;go_enter ap,ao;go_wp2;go_ret;exact⟨rfl,(tR w).a _⟩
 have g:(n==0)=aa:=mH
 rw [g];have h:((n:Int)==0)=aa:=mH
 clear g;show ar _ _ _ _ λe w'=>e=ac (ad aa)/\_;go_enter ap,ao;go_wp2;go_ret;exact⟨rfl,(tR w).a _⟩
def mY(c:List Int)(i:Nat): Bool:=decide (0<=c.getD i 0)&&decide (c.getD i 0<=65535)&&(i==0||decide (c.getD (i-1) 0<=c.getD i 0))
def jh(c:List Int): Bool:=decide (2<=c.length)&&decide (c.length<=257)&&(List.range c.length).all (mY c)
def dn(w:av)(A:Option Addr)(n:Nat)(c:List Int): Prop:=n=c.length/\∀j,j<n->∃g o,A=some ⟨g,o,none⟩/\w.cell? ⟨g,o+j,none⟩=some (an .i64 (c.getD j 0))
theorem AP(n:Int)(w:av): ar aq 232 #[n] w λe w'=>e=ac (ad (decide (2<=n)&&decide (n<=257)))/\w=w':=by
 by_cases a:2<=n
 .by_cases f:n<=257
  .go_enter func232,ntmps232;go_wp2;go_ret;exact⟨by simp [a,f],rfl⟩
  go_enter func232,ntmps232;go_wp2;go_ret;exact⟨lO,rfl⟩
 go_enter func232,ntmps232;go_wp2;go_ret;exact⟨lO,rfl⟩
theorem Aw{c:List Int}{k:Nat}(d:k<c.length)(h:mY c k=aa): jh c=aa:=by unfold jh;have:(List.range c.length).all (mY c)=aa:=List.all_eq_false.2 ⟨k,aX.2 d,by simp [h]⟩;rw [this,Bool.and_false]
theorem MO{c:List Int}(e:2<=c.length)(f:c.length<=257)(h:∀k,k<c.length->mY c k=ab): jh c=ab:=by unfold jh;rw [aZ.2 λk d=>h k (aX.1 d)];simp [e,f]
theorem tZ(c:List Int)(A:Option Addr)(n cap:Nat)(w:av)(O:dn w A n c):
  CR 167 #[am A n cap] w (ad (jh c)):=by
 obtain⟨G,s⟩:=O;by_cases K:2<=n/\n<=257
 .obtain⟨X,Y⟩:=K;obtain⟨g,o,rfl,_⟩:=s 0 gn;have D:∀j,j<n->w.cell? ⟨g,o+j,none⟩=some (an .i64 (c.getD j 0)):=by intro j U;obtain⟨g',o',e,h⟩:=s j U;injection e with e;injection e with p N e3;rw [p,N];exact h
  have x:=lh D;have f:=lh G;have d:(decide ((2:Int)<=n)&&decide ((n:Int)<=257))=ab:=lO
  have a:=AP n;rw [d]at a;have u:=lh a;clear s D G d a;go_enter func167,ntmps167;go_wp2_with (go_at_call 232;refine (u.o _).mono ?_;rintro e w1 ⟨rfl,rfl⟩)
  go_loopw [4] (λs4 wr=>∃k:Nat,k<=n/\s4=k/\(∃q,wr=w.drewN q)/\∀i,i<k->mY c i=ab) (λs4 _=>n-(intOf s4).toNat);case atStart=>exact⟨0,gn,rfl,⟨0,rfl⟩,λi b=>absurd b (aU i)⟩
  obtain⟨k,hk,rfl,⟨q,rfl⟩,E⟩:=hrel;have B:=lh E;clear E;have T:=(tR w).drawn q;by_cases a5:k<n
  .have P:=x.o k a5;have J:k<c.length:=(by have:=f.o;omega);have t:=lh J;have F:mY c k=(decide (0<=c.getD k 0)&&decide (c.getD k 0<=65535)&&(k==0||decide (c.getD (k-1) 0<=c.getD k 0))):=rfl;have b0:(0:Int)<=(k:Int):=gn;have b1:(k:Int)<(n:Int):=gn;have l:=lh F;clear J F;generalize W:c.getD k 0=z at *;clear W;by_cases v:z<0
   .have I:decide (z<0)=ab:=ur;(go_wp2_with fail);go_quiet (fail)
    go_wp2;go_ret;exact⟨sj,(T.drawn _)⟩
   by_cases L:65535<z
   .have I:decide (z<0)=aa:=ur;have Q:decide (65535<z)=ab:=(by simpa using L);(go_wp2_with fail);go_quiet (fail)
    go_wp2;go_ret;exact⟨sj,(T.drawn _)⟩
   have I:decide (z<0)=aa:=ur;have Q:decide (65535<z)=aa:=(by simpa using L);cases k with
   |zero=>
    have a0:w.cell? ⟨g,o,none⟩=some (an .i64 z):=P;(go_wp2_with fail);go_quiet (fail)
    go_wp2;go_roundw;case rel=>exact⟨1,gn,by go_num,⟨_,rfl⟩,λi b=>by
     obtain rfl:i=0:=gn;rw [l.o];simp;omega⟩
    simp [intOf];omega
   |succ m=>
    have a1:=x.o m gn;have a2:decide ((0:Int)<((m:Int)+1))=ab:=aC gn;have p:m+1-1=m:=gn;have Z:=lh p;clear p;have C:Hid (mY c (m+1)=(decide (0<=z)&&decide (z<=65535)&&(m+1==0||decide (c.getD m 0<=z)))):=l;clear l;generalize V:c.getD m 0=y at *;clear V;by_cases M:z<y
    .have R:decide (z<y)=ab:=(by simpa using M);(go_wp2_with fail);go_quiet (fail)
     go_wp2;go_ret;exact⟨by rw [Aw t.o (by rw [C.out];simp;omega)];rfl,(T.drawn _)⟩
    have R:decide (z<y)=aa:=(by simpa using M);(go_wp2_with fail);go_quiet (fail)
    go_wp2;go_roundw;case rel=>exact⟨m+1+1,gn,by go_num,⟨_,rfl⟩,λi b=>by
     by_cases S:i<m+1
     .exact B.o i S
     obtain rfl:i=m+1:=gn;rw [C.out];simp;omega⟩
    simp [intOf];omega
  obtain rfl:k=n:=gn
  go_wp2;go_ret;exact⟨by rw [MO (by rw [<-f.o];exact X) (by rw [<-f.o];exact Y) (λi b=>B.o i (by rw [f.o];exact b))];rfl,T⟩
 have d:(decide ((2:Int)<=n)&&decide ((n:Int)<=257))=aa:=tG
 have a:=AP n;rw [d]at a;have u:=lh a;have H:jh c=aa:=by
  unfold jh;rw [<-G];have:(decide (2<=n)&&decide (n<=257))=aa:=tG
  rw [this,Bool.false_and]
 rw [H];clear H d a s G K;go_enter func167,ntmps167;go_wp2_with (go_at_call 232;refine mS (u.o _) ?_)
 go_ret;exact⟨rfl,bH.refl _ _⟩
structure Rc.InC(r:Rc): Prop where
 a0:-65536<=r.x0
 a1:r.x0<r.x1
 a2:r.x1<=65536
 b0:-65536<=r.y0
 b1:r.y0<r.y1
 b2:r.y1<=65536
theorem Rc.InC.full{r:Rc}(h:r.InC): r.empty=aa:=by have:=h.a1;have:=h.b1;unfold Rc.empty;simp only [Bool.or_eq_false_iff,decide_eq_false_iff_not];omega
def Rc.cv:Rc:=⟨-65536,-65536,65536,65536⟩
theorem Jw(r:Rc)(h:r.InC)(w:av): CR 50 #[r.v] w (ad ab):=by
 have z:=λw=>iM r w;rw [h.full]at z;have j:=lh z;obtain⟨k,n,u,x,A,B⟩:=h;obtain⟨e,g,f,i⟩:=r;unfold Rc.v at *;simp only at *;obtain⟨W,m⟩:=eX (w.alloc (aw #[e,g,f,i] 59));have c:bH [] w W:=m▸(tR w).a _;have J:w.heap.size+1<=W.heap.size:=mq
 obtain⟨s,p,d,q⟩:=GX (Rf m);clear z;go_enter func50,ntmps50;go_upto_region 1 with (fail)
 rw [<-m];clear m;go_upto_region 2 with (go_at_call 111;refine mR (j.o _) λF aR=>?_)
 obtain⟨b,l⟩:=bY aR;have X:=tq b s;have C:=tq b p;have D:=tq b d;have E:=tq b q;have y:=lh (c.t aR);clear b l aR c s p d q;go_wp2;go_ret;exact⟨rfl,y.out⟩
theorem IQ(r:Rc)(h:r.InC)(w:av): CR 108 #[r.v,Rc.cv.v] w (ad ab):=by
 have z:=λw=>iF r w;rw [h.full]at z;have j:=lh z;obtain⟨k,n,u,x,A,B⟩:=h;obtain⟨e,g,f,i⟩:=r;unfold Rc.v Rc.cv at *;simp only at *;obtain⟨W,m⟩:=eX ((w.alloc (aw #[e,g,f,i] 59)).alloc (aw #[(-65536:Int),(-65536:Int),(65536:Int),(65536:Int)] 59));have c:bH [] w W:=m▸((tR w).a _).a _;have J:w.heap.size+2<=W.heap.size:=mq
 obtain⟨s,p,d,q⟩:=GX (JK m).1;obtain⟨s0,s1,s2,s3⟩:=GX (JK m).2;clear z;go_enter func108,ntmps108;go_upto_region 1 with (fail)
 rw [<-m];clear m;go_wp2_with (go_at_call 68;refine mR (j.o _) λG aR=>?_;obtain⟨b,l⟩:=bY aR;have X:=tq b s;have D:=tq b p;have E:=tq b d;have F:=tq b q;have O:=tq b s0;have C:=tq b s1;have Y:=tq b s2;have Q:=tq b s3;have y:=lh (c.t aR);clear b l aR c s p d q s0 s1 s2 s3)
 go_ret;exact⟨rfl,y.out⟩
theorem IK(r:Rc)(h:r.InC)(w:av): CR 48 #[r.v] w (ad ab):=by
 have z:=λw=>iF r w;rw [h.full]at z;have j:=lh z;have e:=lh (IQ r h);clear h;obtain⟨g,k,i,n⟩:=r;unfold Rc.v Rc.cv at *;simp only at *;obtain⟨W,m⟩:=eX (w.alloc (aw #[g,k,i,n] 59));have c:bH [] w W:=m▸(tR w).a _;have J:w.heap.size+1<=W.heap.size:=mq
 obtain⟨s,p,d,q⟩:=GX (Rf m);clear z;go_enter func48,ntmps48;go_upto_region 1 with (fail)
 rw [<-m];clear m;go_wp2_with (first
  |(go_at_call 68;refine mR (j.o _) λB aR=>?_;obtain⟨b,l⟩:=bY aR;have X:=tq b s;have x:=tq b p;have u:=tq b d;have A:=tq b q;have y:=lh (c.t aR);clear b l aR c s p d q)
  |(go_at_call 108;refine mR (e.o _) λC f=>?_))
 go_ret;exact⟨rfl,y.out.t f⟩
def Rc.can(r:Rc): Rc:=r.meet Rc.cv
theorem Rc.can_cases(r:Rc): r.can=Rc.zero\/r.can.InC:=by
 unfold Rc.can Rc.meet Rc.norm;split
 .exact .inl rfl
 rename_i h;unfold Rc.empty at h;simp only [Bool.or_eq_true,decide_eq_true_eq,not_or]at h;simp only [Rc.cv]at h;exact .inr ⟨by simp only [Rc.cv];omega,by simp only [Rc.cv];omega,by simp only [Rc.cv];omega,by simp only [Rc.cv];omega,by simp only [Rc.cv];omega,by simp only [Rc.cv];omega⟩
theorem Rc.can_in{r:Rc}(h:r.can.empty=aa): r.can.InC:=by
 rcases r.can_cases with e|e
 .rw [e]at h;simp [Rc.empty,Rc.zero]at h
 exact e
theorem Rc.InC.bd{r:Rc}(h:r.InC): r.bd:=by obtain⟨a,b,c,d,e,f⟩:=h;unfold Rc.bd;omega
theorem Rc.InC.can{r:Rc}(h:r.InC): r.can=r:=by
 obtain⟨g,j,i,k⟩:=r;obtain⟨a,b,c,d,e,f⟩:=h;simp only at *;unfold Rc.can Rc.meet Rc.cv;have l:max g (-65536)=g:=gn
 have m:max j (-65536)=j:=gn
 have n:min i 65536=i:=gn
 have o:min k 65536=k:=gn
 simp only [l,m,n,o];unfold Rc.norm Rc.empty;rw [aF];simp only [Bool.or_eq_true,decide_eq_true_eq];omega
theorem Rc.can_join{r s:Rc}(h:r.InC): (r.join s).can.InC:=by
 refine Rc.can_in ?_;have k:=h.full;obtain⟨i,l,j,m⟩:=r;obtain⟨a,b,c,d,e,f⟩:=h;simp only at *;unfold Rc.join;rw [k,aF lz];have g:∀z:Rc,z.x0<=i->z.y0<=l->j<=z.x1->m<=z.y1->z.can.empty=aa:=by
  intro z o p q t;unfold Rc.can Rc.meet Rc.norm;have J:(Rc.mk (max z.x0 Rc.cv.x0) (max z.y0 Rc.cv.y0) (min z.x1 Rc.cv.x1) (min z.y1 Rc.cv.y1)).empty=aa:=by unfold Rc.empty;simp only [Bool.or_eq_false_iff,decide_eq_false_iff_not];simp only [Rc.cv];omega
  rw [J,aF lz];exact J
 by_cases n:s.empty=ab
 .rw [aG n];exact g _ lz lz lz lz
 rw [aF n];exact g _ pd pd pd pd
theorem uY(r:Rc)(w:av): CR 90 #[r.v] w r.can.v:=by
 have G:=Gl r Rc.cv;rw [show r.meet Rc.cv=r.can from rfl]at G;generalize r.can=m at *;obtain⟨e,g,f,h⟩:=r;obtain⟨d,u,x,y⟩:=m;simp only [Rc.v,Rc.cv]at *;have q:=lh G;clear G;have c:bH [] _ _:=((tR w).alloc (aw #[e,g,f,h] 59)).alloc (aw #[(0:Int),(0:Int),(0:Int),(0:Int)] 59);have b:=c.here;go_enter func90,ntmps90;go_wp2_with (go_at_call 149;refine b.call (q.o _) ?_;intro i b a l)
 have b:=c.t b;exact ag (v:=af #[d,u,x,y]) (by simp [results,results90,go_sem,a]) rfl ⟨rfl,((((b.sc).sc).sc).sc)⟩
theorem pz(r:Rc)(w:av): CR 67 #[r.v] w r.can.v:=by
 have G:=xJ r Rc.cv;rw [show r.meet Rc.cv=r.can from rfl]at G;generalize r.can=m at *;obtain⟨e,g,f,h⟩:=r;obtain⟨d,u,x,y⟩:=m;simp only [Rc.v,Rc.cv]at *;have q:=lh G;clear G;have c:bH [] _ _:=((tR w).alloc (aw #[e,g,f,h] 59)).alloc (aw #[(0:Int),(0:Int),(0:Int),(0:Int)] 59);have b:=c.here;go_enter func67,ntmps67;go_wp2_with (go_at_call 128;refine b.call (q.o _) ?_;intro i b a l)
 have b:=c.t b;exact ag (v:=af #[d,u,x,y]) (by simp [results,results67,go_sem,a]) rfl ⟨rfl,((((b.sc).sc).sc).sc)⟩
