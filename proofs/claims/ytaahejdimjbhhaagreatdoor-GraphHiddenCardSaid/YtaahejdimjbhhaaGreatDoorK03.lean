import Derived.BigRegion
import Derived.Test.YtaahejdimjbhhaaGreatDoorK02
set_option maxRecDepth 100000
set_option maxHeartbeats 0
set_option linter.all false
namespace Go.Proofs.YtaahejdimjbhhaaGreatDoor
open Tryz Go.RowKit Go.Den
open Bool renaming false->aa,true->ab
open Go.Value renaming slice->ac,bool->ad,agg->af
open Go.Obj renaming cells->am
open Go.Ending renaming returned->an
open Go renaming World->ao,Calls->ap
open Go.Proofs.Tryz renaming prog->aq,ntmps193->ar,func193->av
theorem dn.u{w w':ao}{A:Option Addr}{n:Nat}{c:List Int}(h:dn w A n c)(t:bH [] w w'): dn w' A n c:=by refine⟨h.1,λj k=>?_⟩;obtain⟨g,o,e,b⟩:=h.2 j k;refine⟨g,o,e,?_⟩;have a:g<w.heap.size:=ai b;rw [(bY t).1 g _ a];exact b
def Fv.win(f:Fv): Bool:=decide (0<=f.Xf)&&decide (f.Xf<=3)
theorem Tm(f:Fv)(d:f.ag1=2\/f.ag1=3\/f.ag1=4)(w:ao): CR 115 #[f.v] w (ad (f.win&&f.plain aa aa aa ab)):=by
 have e:=U0 f;have g:f.win=(decide (0<=f.Xf)&&decide (f.Xf<=3)):=rfl;obtain⟨ag1,Xf,l,n,m,k,h,cA,c,j⟩:=f;simp only [Fv.v]at *;generalize (Fv.mk ag1 Xf l n m k h cA c j).win=i,(Fv.mk ag1 Xf l n m k h cA c j).plain aa aa aa ab=x at *;have u:=lh e;clear e;have b:=lh g;clear g;go_enter func115,ntmps115;go_upto_region 1 with (fail)
 go_cut [3] (λs3 wx=>s3=ad i/\wx=w.alloc (am #[ag1,Xf,ac l n m,k,h,ac cA c j] 43));case first=>
  by_cases p:0<=Xf
  .by_cases q:Xf<=3
   .go_wp2;go_meet;exact⟨by rw [b.o];simp [p,q],rfl⟩
   go_wp2;go_meet;exact⟨mL,rfl⟩
  go_wp2;go_meet;exact⟨mL,rfl⟩
 obtain⟨rfl,rfl⟩:=hcut;cases i with
 |false=>
  rcases d with rfl|rfl|rfl;all_goals
   go_wp2;go_ret;exact⟨lP,(tR w).a _⟩
 |true=>
  rcases d with rfl|rfl|rfl;all_goals
   go_wp2_with (first
    |(go_at_call 170;refine mR (u.o _) λy s=>?_)
    |fail)
   go_ret;exact⟨lP,((tR w).a _).t s⟩
theorem QG(f:Fv)(E:f.ag1=5)(c:List Int)(w:ao)(q:dn w f.cA f.cn c): CR 115 #[f.v] w (ad (jh c&&f.plain aa aa ab aa)):=by
 have s:=UO f;have H:=λw h=>tZ c f.cA f.cn f.cc w h;have x:f.win=(decide (0<=f.Xf)&&decide (f.Xf<=3)):=rfl;obtain⟨ag1,Xf,l,n,m,k,g,cA,e,j⟩:=f;simp only [Fv.v]at *;generalize (Fv.mk ag1 Xf l n m k g cA e j).win=G,(Fv.mk ag1 Xf l n m k g cA e j).plain aa aa ab aa=J at *;have y:=lh s;clear s;generalize jh c=z at *;have i:=lh H;have p:=lh q;clear H q;have d:=lh x;clear x;subst E;go_enter func115,ntmps115;go_upto_region 1 with (fail)
 go_cut [3] (λs3 wx=>s3=ad G/\wx=w.alloc (am #[(5:Int),Xf,ac l n m,k,g,ac cA e j] 43));case first=>
  by_cases A:0<=Xf
  .by_cases B:Xf<=3
   .go_wp2;go_meet;exact⟨by rw [d.o];simp [A,B],rfl⟩
   go_wp2;go_meet;exact⟨by rw [d.o];simp;omega,rfl⟩
  go_wp2;go_meet;exact⟨by rw [d.o];simp;omega,rfl⟩
 obtain⟨rfl,rfl⟩:=hcut;cases z with
 |false=>
  go_wp2_with (first
   |(go_at_call 167;refine mR (i.o _ tO) λI b=>?_;obtain⟨C,D⟩:=bY b)
   |fail)
  go_ret;exact⟨lP,((tR w).a _).t b⟩
 |true=>
  go_wp2_with (first
   |(go_at_call 170;refine mR (y.o _) λK F=>?_)
   |(go_at_call 167;refine mR (i.o _ tO) λI b=>?_;obtain⟨C,D⟩:=bY b)
   |fail)
  go_ret;exact⟨lP,(((tR w).a _).t b).t F⟩
theorem RV(f:Fv)(p:f.ag1=6)(w:ao): CR 115 #[f.v] w (ad (f.plain aa aa aa aa)):=by
 have d:=Vs f;have e:f.win=(decide (0<=f.Xf)&&decide (f.Xf<=3)):=rfl;obtain⟨ag1,Xf,l,n,m,k,h,cA,c,j⟩:=f;simp only [Fv.v]at *;generalize (Fv.mk ag1 Xf l n m k h cA c j).win=s,(Fv.mk ag1 Xf l n m k h cA c j).plain aa aa aa aa=x at *;have u:=lh d;clear d;have b:=lh e;clear e;subst p;go_enter func115,ntmps115;go_upto_region 1 with (fail)
 go_cut [3] (λs3 wx=>s3=ad s/\wx=w.alloc (am #[(6:Int),Xf,ac l n m,k,h,ac cA c j] 43));case first=>
  by_cases g:0<=Xf
  .by_cases i:Xf<=3
   .go_wp2;go_meet;exact⟨by rw [b.o];simp [g,i],rfl⟩
   go_wp2;go_meet;exact⟨mL,rfl⟩
  go_wp2;go_meet;exact⟨mL,rfl⟩
 obtain⟨rfl,rfl⟩:=hcut;go_wp2_with (first
  |(go_at_call 170;refine mR (u.o _) λy q=>?_)
  |fail)
 go_ret;exact⟨lP,((tR w).a _).t q⟩
theorem Ud(f:Fv)(x:f.ag1=7)(w:ao): CR 115 #[f.v] w (ad (decide (0<=f.value)&&decide (f.value<=256)&&f.plain aa ab aa aa)):=by
 have d:=Va f;have e:f.win=(decide (0<=f.Xf)&&decide (f.Xf<=3)):=rfl;obtain⟨ag1,Xf,l,n,m,k,h,cA,c,j⟩:=f;simp only [Fv.v]at *;generalize (Fv.mk ag1 Xf l n m k h cA c j).win=z,(Fv.mk ag1 Xf l n m k h cA c j).plain aa ab aa aa=A at *;have u:=lh d;clear d;have b:=lh e;clear e;subst x;go_enter func115,ntmps115;go_upto_region 1 with (fail)
 go_cut [3] (λs3 wx=>s3=ad z/\wx=w.alloc (am #[(7:Int),Xf,ac l n m,k,h,ac cA c j] 43));case first=>
  by_cases q:0<=Xf
  .by_cases s:Xf<=3
   .go_wp2;go_meet;exact⟨by rw [b.o];simp [q,s],rfl⟩
   go_wp2;go_meet;exact⟨mL,rfl⟩
  go_wp2;go_meet;exact⟨mL,rfl⟩
 obtain⟨rfl,rfl⟩:=hcut;by_cases g:0<=h
 .have p:decide (0<=h)=ab:=aC g;by_cases i:h<=256
  .have F:decide (h<=256)=ab:=aC i;go_wp2_with (first
    |(go_at_call 170;refine mR (u.o _) λB y=>?_)
    |fail)
   go_ret;exact⟨lP,((tR w).a _).t y⟩
  have F:decide (h<=256)=aa:=ak i;go_wp2;go_ret;exact⟨lP,(tR w).a _⟩
 have p:decide (0<=h)=aa:=ak g;go_wp2;go_ret;exact⟨lP,(tR w).a _⟩
theorem RH(f:Fv)(C:f.ag1=8)(w:ao): CR 115 #[f.v] w (ad (decide (-3<=f.Xf)&&decide (f.Xf<=3)&&decide (-3<=f.value)&&decide (f.value<=3)&&f.plain aa ab aa ab)):=by
 have d:=VB f;have e:f.win=(decide (0<=f.Xf)&&decide (f.Xf<=3)):=rfl;obtain⟨ag1,Xf,l,n,m,k,h,cA,c,j⟩:=f;simp only [Fv.v]at *;generalize (Fv.mk ag1 Xf l n m k h cA c j).win=E,(Fv.mk ag1 Xf l n m k h cA c j).plain aa ab aa ab=F at *;have u:=lh d;clear d;have b:=lh e;clear e;subst C;go_enter func115,ntmps115;go_upto_region 1 with (fail)
 go_cut [3] (λs3 wx=>s3=ad E/\wx=w.alloc (am #[(8:Int),Xf,ac l n m,k,h,ac cA c j] 43));case first=>
  by_cases A:0<=Xf
  .by_cases B:Xf<=3
   .go_wp2;go_meet;exact⟨by rw [b.o];simp [A,B],rfl⟩
   go_wp2;go_meet;exact⟨mL,rfl⟩
  go_wp2;go_meet;exact⟨mL,rfl⟩
 obtain⟨rfl,rfl⟩:=hcut;by_cases p:-3<=Xf
 .have z:decide (-3<=Xf)=ab:=aC p;by_cases i:Xf<=3
  .have y:decide (Xf<=3)=ab:=aC i;by_cases g:-3<=h
   .have s:decide (-3<=h)=ab:=aC g;by_cases x:h<=3
    .have q:decide (h<=3)=ab:=aC x;go_wp2_with (first
      |(go_at_call 170;refine mR (u.o _) λG D=>?_)
      |fail)
     go_ret;exact⟨lP,((tR w).a _).t D⟩
    have q:decide (h<=3)=aa:=ak x;go_wp2;go_ret;exact⟨lP,(tR w).a _⟩
   have s:decide (-3<=h)=aa:=ak g;go_wp2;go_ret;exact⟨lP,(tR w).a _⟩
  have y:decide (Xf<=3)=aa:=ak i;go_wp2;go_ret;exact⟨lP,(tR w).a _⟩
 have z:decide (-3<=Xf)=aa:=ak p;go_wp2;go_ret;exact⟨lP,(tR w).a _⟩
theorem PP(f:Fv)(d:f.ag1<1\/8<f.ag1)(w:ao): CR 115 #[f.v] w (ad (aa)):=by
 have e:f.win=(decide (0<=f.Xf)&&decide (f.Xf<=3)):=rfl;obtain⟨ag1,Xf,l,n,m,k,h,cA,c,j⟩:=f;simp only [Fv.v]at *;generalize (Fv.mk ag1 Xf l n m k h cA c j).win=p at *;have b:=lh e;clear e;go_enter func115,ntmps115;go_upto_region 1 with (fail)
 go_cut [3] (λs3 wx=>s3=ad p/\wx=w.alloc (am #[ag1,Xf,ac l n m,k,h,ac cA c j] 43));case first=>
  by_cases g:0<=Xf
  .by_cases i:Xf<=3
   .go_wp2;go_meet;exact⟨by rw [b.o];simp [g,i],rfl⟩
   go_wp2;go_meet;exact⟨mL,rfl⟩
  go_wp2;go_meet;exact⟨mL,rfl⟩
 obtain⟨rfl,rfl⟩:=hcut;rcases d with d|d;all_goals
  go_wp2;go_ret;exact⟨lP,(tR w).a _⟩
def pO(r:Int): Int:=(2*r+1)*(2*r+1)
def Fv.headB(f:Fv): Bool:=f.win&&((f.kn:Int)==pO f.Xf)&&decide (1<=f.div)&&decide (f.div<=1048576)
def jC(f:Fv)(ks cs:List Int): Bool:=
 if f.ag1=1 then f.headB&&ks.all (lm 4096)&&f.plain ab aa aa ab
 else if f.ag1=2\/f.ag1=3\/f.ag1=4 then f.win&&f.plain aa aa aa ab
 else if f.ag1=5 then jh cs&&f.plain aa aa ab aa
 else if f.ag1=6 then f.plain aa aa aa aa
 else if f.ag1=7 then decide (0<=f.value)&&decide (f.value<=256)&&f.plain aa ab aa aa
 else if f.ag1=8 then decide (-3<=f.Xf)&&decide (f.Xf<=3)&&decide (-3<=f.value)&&decide (f.value<=3)&&f.plain aa ab aa ab
 else aa
theorem Pn(f:Fv)(T:f.ag1=1)(ks:List Int)(w:ao)(S:dn w f.kA f.kn ks): CR 115 #[f.v] w (ad (f.headB&&ks.all (lm 4096)&&f.plain ab aa aa ab)):=by
 have X:=UU f;have G:f.win=(decide (0<=f.Xf)&&decide (f.Xf<=3)):=rfl;have E:f.headB=(f.win&&((f.kn:Int)==pO f.Xf)&&decide (1<=f.div)&&decide (f.div<=1048576)):=rfl;obtain⟨ag1,Xf,p,n,m,b,l,cA,i,d⟩:=f;simp only [Fv.v]at *;subst T;have I:(Fv.mk 1 Xf p n m b l cA i d).win=ab->0<=Xf/\Xf<=3:=by intro h;rw [G]at h;simpa using h
 generalize (Fv.mk 1 Xf p n m b l cA i d).win=rB,(Fv.mk 1 Xf p n m b l cA i d).headB=D,(Fv.mk 1 Xf p n m b l cA i d).plain ab aa aa ab=pB at *;have U:D=ab->1<=n/\n<=49:=by
  intro h;rw [E]at h;simp only [az,beq_iff_eq]at h;obtain⟨⟨⟨B,h2⟩,_⟩,_⟩:=h;obtain⟨r0,r1⟩:=I B;have h3:Xf=0\/Xf=1\/Xf=2\/Xf=3:=gn
  rcases h3 with rfl|rfl|rfl|rfl<;>simp only [pO,Int.reduceMul,Int.reduceAdd]at h2<;>omega
 obtain⟨L,HP,y,c,M,K⟩:=lh6 U X G E I S;clear X G E I S U;go_enter func115,ntmps115;go_upto_region 1 with (fail)
 go_cut [3] (λs3 wx=>s3=ad rB/\wx=w.alloc (am #[(1:Int),Xf,ac p n m,b,l,ac cA i d] 43));case first=>
  by_cases h0:0<=Xf
  .by_cases B:Xf<=3
   .go_wp2;go_meet;exact⟨by rw [y.o];simp [h0,B],rfl⟩
   go_wp2;go_meet;exact⟨by rw [y.o];simp;omega,rfl⟩
  go_wp2;go_meet;exact⟨by rw [y.o];simp;omega,rfl⟩
 obtain⟨rfl,rfl⟩:=hcut;go_upto_region 4 with (fail)
 go_cut [43] (λs43 wx=>s43=ad (!D)/\wx=(w.alloc (am #[(1:Int),Xf,ac p n m,b,l,ac cA i d] 43)));case first=>
  cases rB with
  |false=>
   go_wp2;go_meet;exact⟨qE,rfl⟩
  |true=>
   have hr:=M.o rfl;have A:Xf=0\/Xf=1\/Xf=2\/Xf=3:=gn;clear hr;by_cases q:(n:Int)=pO Xf
   .have F:((n:Int)==pO Xf)=ab:=(by simpa using q);rw [F]at c;by_cases hd:b<1
    .have Q:decide (1<=b)=aa:=ak gn;rw [Q]at c;rcases A with rfl|rfl|rfl|rfl<;>simp only [pO,Int.reduceMul,Int.reduceAdd]at q;all_goals
      go_wp2;go_meet;exact⟨qE,rfl⟩
    have Q:decide (1<=b)=ab:=aC gn;rw [Q]at c;by_cases a2:1048576<b
    .have R:decide (b<=1048576)=aa:=ak gn;rw [R]at c;rcases A with rfl|rfl|rfl|rfl<;>simp only [pO,Int.reduceMul,Int.reduceAdd]at q;all_goals
      go_wp2;go_meet;exact⟨qE,rfl⟩
    have R:decide (b<=1048576)=ab:=aC gn;rw [R]at c;rcases A with rfl|rfl|rfl|rfl<;>simp only [pO,Int.reduceMul,Int.reduceAdd]at q;all_goals
     go_wp2;go_meet;exact⟨qE,rfl⟩
   have F:((n:Int)==pO Xf)=aa:=(by simpa using q);rw [F]at c;rcases A with rfl|rfl|rfl|rfl<;>simp only [pO,Int.reduceMul,Int.reduceAdd]at q;all_goals
    go_wp2;go_meet;exact⟨qE,rfl⟩
 obtain⟨rfl,rfl⟩:=hcut;clear c y M;cases D with
 |false=>
  go_wp2;go_ret;exact⟨by first|rfl|simp,(tR w).a _⟩
 |true=>
  obtain⟨n0,n1⟩:=L.o rfl;clear L;have hI:=K.o.u ((tR w).alloc (am #[(1:Int),Xf,ac p n m,b,l,ac cA i d] 43));obtain⟨W,C⟩:=hI;obtain⟨g,o,rfl,_⟩:=C 0 gn;have O:∀j,j<n->(w.alloc (am #[(1:Int),Xf,ac (some ⟨g,o,none⟩) n m,b,l,ac cA i d] 43)).cell? ⟨g,o+j,none⟩=some (.int .i64 (ks.getD j 0)):=by intro j hj;obtain⟨g',o',e,h⟩:=C j hj;injection e with e;injection e with e1 e2 e3;subst e1;subst e2;exact h
  have HC:=lh O;have x:=lh W;have P:bH [] _ _:=(tR w).alloc (am #[(1:Int),Xf,ac (some ⟨g,o,none⟩) n m,b,l,ac cA i d] 43);have H:=lh P;clear C O W P K;go_wp2_with fail
  go_loop [4] (λs4=>∃k:Nat,k<=n/\s4=k/\(ks.take k).all (lm 4096)=ab) (λs4=>n-(intOf s4).toNat);case atStart=>exact⟨0,gn,rfl,lz⟩
  obtain⟨k,T,rfl,s⟩:=hrel;have J:=lh s;clear s;by_cases a5:k<n
  .have ax:=HC.o k a5;have Z:ks.take (k+1)=ks.take k++[ks.getD k 0]:=(by have V:k<ks.length:=(by rw [<-x.o];exact a5);rw [aT V];simp [List.getD,V]);have HZ:=lh Z;clear Z;generalize Y:ks.getD k 0=z at *;have N:=lh Y;clear Y;by_cases ha:z < -4096
   .go_wp2;go_ret;refine⟨?_,H.o⟩;have:ks.all (lm 4096)=aa:=nR;rw [this];first|rfl|(simp;done)
   by_cases hb:4096<z
   .go_wp2;go_ret;refine⟨?_,H.o⟩;have:ks.all (lm 4096)=aa:=nR;rw [this];first|rfl|(simp;done)
   (go_wp2_with fail);go_round;case rel=>exact⟨k+1,gn,by go_num,by rw [HZ.o,List.all_append,J.o];simp [lm];omega⟩
   simp [intOf];omega
  obtain rfl:k=n:=gn
  have s:=J.o;rw [x.o,List.take_length]at s;go_wp2_with (first
   |(go_at_call 170;refine mR (HP.o _) λw1 ht=>?_)
   |fail)
  go_ret;exact⟨by rw [s];first|rfl|(simp;done),H.o.t ht⟩
theorem AY(f:Fv)(ks cs:List Int)(w:ao)(i:dn w f.kA f.kn ks)(g:dn w f.cA f.cn cs): CR 115 #[f.v] w (ad (jC f ks cs)):=by
 unfold jC;by_cases e:f.ag1=1
 .simpa only [aG e]using Pn f e ks w i
 simp only [aF e];by_cases a:f.ag1=2\/f.ag1=3\/f.ag1=4
 .simpa only [aG a]using Tm f a w
 simp only [aF a];by_cases c:f.ag1=5
 .simpa only [aG c]using QG f c cs w g
 simp only [aF c];by_cases d:f.ag1=6
 .simpa only [aG d]using RV f d w
 simp only [aF d];by_cases h:f.ag1=7
 .simpa only [aG h]using Ud f h w
 simp only [aF h];by_cases b:f.ag1=8
 .simpa only [aG b]using RH f b w
 simp only [aF b];exact PP f gn w
def Fv.area(f:Fv)(b:Bool)(r:Rc)(s:Int): Rc:=
 if b=aa\/r.empty=ab then Rc.zero else if 1<=f.ag1/\f.ag1<=4 then r.grow f.Xf else if f.ag1=8 then r.move (s*f.Xf) (s*f.value) else r
theorem xK(f:Fv)(ks cs:List Int)(h:jC f ks cs=ab): ((1<=f.ag1/\f.ag1<=4)->0<=f.Xf/\f.Xf<=3)/\(f.ag1=8->(-3<=f.Xf/\f.Xf<=3)/\(-3<=f.value/\f.value<=3)):=by
 unfold jC at h;constructor
 .rintro⟨a,c⟩;by_cases e:f.ag1=1
  .rw [aG e]at h;simp only [Fv.headB,Fv.win,az,decide_eq_true_eq]at h;omega
  rw [aF e,aG gn]at h;simp only [Fv.win,az,decide_eq_true_eq]at h;omega
 intro b;rw [aF gn,aF gn,aF gn,aF gn,aF gn,aG b]at h;simp only [az,decide_eq_true_eq]at h;omega
theorem JY(f:Fv)(w:ao): ap aq 258 #[f.v] w λe w'=>e=an (ad (decide (1<=f.ag1/\f.ag1<=4)))/\bH [] w w':=by
 obtain⟨ag1,Xf,l,n,m,k,h,cA,b,j⟩:=f;simp only [Fv.v];go_enter func258,ntmps258;by_cases c:1<=ag1
 .by_cases d:ag1<=4
  .go_wp2;go_ret;exact⟨lS,(tR w).a _⟩
  go_wp2;go_ret;exact⟨lS,(tR w).a _⟩
 go_wp2;go_ret;exact⟨lS,(tR w).a _⟩
theorem Pg(f:Fv)(ks cs:List Int)(r:Rc)(s:Int)(C:s=1\/s=-1)(F:r.bd)(w:ao)(hk:dn w f.kA f.kn ks)(c:dn w f.cA f.cn cs): ap aq 229 #[f.v,r.v,s] w λe w'=>e=an (f.area (jC f ks cs) r s).v/\bH [] w w':=by
 have q:=λw' (t:bH [] w w')=>AY f ks cs w' (hk.u t) (c.u t);have p:=iM r;have X:=xK f ks cs;have z:=JY f;have B:=PY r;have D:=PO r;generalize jC f ks cs=b at *;generalize j:f.area b r s=A at *;unfold Fv.area at j;generalize r.empty=em at *;obtain⟨ag1,Xf,L,N,M,K,E,cA,J,I⟩:=f;clear hk c;simp only [Fv.v]at *;cases b with
 |false=>
  rw [aG (.inl rfl)]at j;subst j;obtain⟨g,i,h,k⟩:=r;simp only [Rc.v,Rc.zero]at *;have n:=lh q;have m:=lh p;clear q p X z B D F C;have d:bH [] _ _:=(((tR w).alloc (am #[ag1,Xf,ac L N M,K,E,ac cA J I] 43)).alloc (am #[g,i,h,k] 59)).alloc (am #[(0:Int),(0:Int),(0:Int),(0:Int)] 59);have a:=d.here;go_enter func229,ntmps229;go_wp2_with (first
   |(go_at_call 115;with_reducible refine a.call (n.o _ (d.t a)) ?_;intro Q a c l)
   |(go_at_call 111;with_reducible refine a.call (m.o _) ?_;intro R a c l)
   |fail)
  have a:=d.t a;refine ag (v:=af #[(0:Int),(0:Int),(0:Int),(0:Int)]) mV rfl ⟨rfl,((((a.sc).sc).sc).sc)⟩
 |true=>
  obtain⟨O,P⟩:=X rfl;clear X;cases em with
  |true=>
   rw [aG (.inr rfl)]at j;subst j;obtain⟨g,i,h,k⟩:=r;simp only [Rc.v,Rc.zero]at *;have n:=lh q;have m:=lh p;clear q p O P z B D F C;have d:bH [] _ _:=(((tR w).alloc (am #[ag1,Xf,ac L N M,K,E,ac cA J I] 43)).alloc (am #[g,i,h,k] 59)).alloc (am #[(0:Int),(0:Int),(0:Int),(0:Int)] 59);have a:=d.here;go_enter func229,ntmps229;go_wp2_with (first
    |(go_at_call 115;with_reducible refine a.call (n.o _ (d.t a)) ?_;intro Q a c l)
    |(go_at_call 111;with_reducible refine a.call (m.o _) ?_;intro R a c l)
    |fail)
   have a:=d.t a;refine ag (v:=af #[(0:Int),(0:Int),(0:Int),(0:Int)]) mV rfl ⟨rfl,((((a.sc).sc).sc).sc)⟩
  |false=>
   rw [aF lz]at j;by_cases G:1<=ag1/\ag1<=4
   .rw [aG G]at j;obtain⟨q0,q1⟩:=O G;rw [aC G]at z;have B:=B Xf F gn gn;rw [j]at B;clear j D C O P;obtain⟨g,i,h,k⟩:=r;obtain⟨T,U,V,W⟩:=A;simp only [Rc.v]at *;obtain⟨n,m,H,HG⟩:=lh4 q p z B;clear q p z B F G q0 q1;have d:bH [] _ _:=(((tR w).alloc (am #[ag1,Xf,ac L N M,K,E,ac cA J I] 43)).alloc (am #[g,i,h,k] 59)).alloc (am #[(0:Int),(0:Int),(0:Int),(0:Int)] 59);have a:=d.here;go_enter func229,ntmps229;go_wp2_with (first
     |(go_at_call 115;with_reducible refine a.call (n.o _ (d.t a)) ?_;intro Q a c l)
     |(go_at_call 111;with_reducible refine a.call (m.o _) ?_;intro R a c l)
     |(go_at_call 258;with_reducible refine a.call (H.o _) ?_;intro Y a c l)
     |(go_at_call 259;with_reducible refine a.call (HG.o _) ?_;intro w4 a c l)
     |fail)
    have a:=d.t a;refine ag (v:=af #[T,U,V,W]) mV rfl ⟨rfl,((((a.sc).sc).sc).sc)⟩
   rw [aF G]at j;rw [ak G]at z;by_cases S:ag1=8
   .rw [aG S]at j;obtain⟨⟨q0,q1⟩,q2,q3⟩:=P S;subst S;have D:∀x y,x=s*Xf->y=s*E->∀w,CR 260 #[r.v,x,y] w A.v:=(by rintro x y rfl rfl w;have:=D (s*Xf) (s*E) F ot ot ot ot w;rw [j]at this;exact this);clear j B O P;obtain⟨g,i,h,k⟩:=r;obtain⟨T,U,V,W⟩:=A;simp only [Rc.v]at *;obtain⟨n,m,H,Z⟩:=lh4 q p z D;clear q p z D F G;rcases C with rfl|rfl
    .have d:bH [] _ _:=(((tR w).alloc (am #[(8:Int),Xf,ac L N M,K,E,ac cA J I] 43)).alloc (am #[g,i,h,k] 59)).alloc (am #[(0:Int),(0:Int),(0:Int),(0:Int)] 59);have a:=d.here;go_enter func229,ntmps229;go_wp2_with (first
      |(go_at_call 115;with_reducible refine a.call (n.o _ (d.t a)) ?_;intro Q a c l)
      |(go_at_call 111;with_reducible refine a.call (m.o _) ?_;intro R a c l)
      |(go_at_call 258;with_reducible refine a.call (H.o _) ?_;intro Y a c l)
      |(go_at_call 260;with_reducible refine a.call (Z.o _ _ gn gn _) ?_;intro w5 a c l)
      |fail)
     have a:=d.t a;refine ag (v:=af #[T,U,V,W]) mV rfl ⟨rfl,((((a.sc).sc).sc).sc)⟩
    have d:bH [] _ _:=(((tR w).alloc (am #[(8:Int),Xf,ac L N M,K,E,ac cA J I] 43)).alloc (am #[g,i,h,k] 59)).alloc (am #[(0:Int),(0:Int),(0:Int),(0:Int)] 59);have a:=d.here;go_enter func229,ntmps229;go_wp2_with (first
     |(go_at_call 115;with_reducible refine a.call (n.o _ (d.t a)) ?_;intro Q a c l)
     |(go_at_call 111;with_reducible refine a.call (m.o _) ?_;intro R a c l)
     |(go_at_call 258;with_reducible refine a.call (H.o _) ?_;intro Y a c l)
     |(go_at_call 260;with_reducible refine a.call (Z.o _ _ gn gn _) ?_;intro w5 a c l)
     |fail)
    have a:=d.t a;refine ag (v:=af #[T,U,V,W]) mV rfl ⟨rfl,((((a.sc).sc).sc).sc)⟩
   rw [aF S]at j;subst j;clear O P B D C F;obtain⟨g,i,h,k⟩:=r;simp only [Rc.v]at *;obtain⟨n,m,H⟩:=lh3 q p z;clear q p z;have d:bH [] _ _:=(((tR w).alloc (am #[ag1,Xf,ac L N M,K,E,ac cA J I] 43)).alloc (am #[g,i,h,k] 59)).alloc (am #[(0:Int),(0:Int),(0:Int),(0:Int)] 59);have a:=d.here;go_enter func229,ntmps229;go_wp2_with (first
    |(go_at_call 115;with_reducible refine a.call (n.o _ (d.t a)) ?_;intro Q a c l)
    |(go_at_call 111;with_reducible refine a.call (m.o _) ?_;intro R a c l)
    |(go_at_call 258;with_reducible refine a.call (H.o _) ?_;intro Y a c l)
    |fail)
   have a:=d.t a;refine ag (v:=af #[g,i,h,k]) mV rfl ⟨rfl,((((a.sc).sc).sc).sc)⟩
theorem acp(f:Fv)(ks cs:List Int)(r:Rc)(c:r.bd)(w:ao)(d:dn w f.kA f.kn ks)(b:dn w f.cA f.cn cs): ap aq 161 #[f.v,r.v] w λe w'=>e=an (f.area (jC f ks cs) r (-1)).v/\bH [] w w':=by
 have C:=λw' (t:bH [] w w')=>Pg f ks cs r (-1) gn c w' (d.u t) (b.u t);generalize f.area (jC f ks cs) r (-1)=A at *;obtain⟨ag1,Xf,q,z,s,n,B,cA,m,l⟩:=f;obtain⟨E,G,F,H⟩:=r;obtain⟨i,j,x,k⟩:=A;clear d b c;simp only [Fv.v,Rc.v]at *;have y:=lh C;clear C;go_enter func161,ntmps161;go_wp2_with (first
  |(go_at_call 229;refine mR (y.o _ nW) λD g=>?_;have h:=((((tR w).a _).a _).a _).t g;obtain⟨b,p⟩:=bY g)
  |fail)
 refine ag (v:=af #[i,j,x,k]) (by simp [results,results161,go_sem,b]) rfl ⟨rfl,((((h.sc).sc).sc).sc)⟩
theorem zJ(f:Fv)(ks cs:List Int)(r:Rc)(c:r.bd)(w:ao)(d:dn w f.kA f.kn ks)(b:dn w f.cA f.cn cs): ap aq 154 #[f.v,r.v] w λe w'=>e=an (f.area (jC f ks cs) r (1)).v/\bH [] w w':=by
 have C:=λw' (t:bH [] w w')=>Pg f ks cs r (1) gn c w' (d.u t) (b.u t);generalize f.area (jC f ks cs) r (1)=A at *;obtain⟨ag1,Xf,q,z,s,n,B,cA,m,l⟩:=f;obtain⟨E,G,F,H⟩:=r;obtain⟨i,j,x,k⟩:=A;clear d b c;simp only [Fv.v,Rc.v]at *;have y:=lh C;clear C;go_enter func154,ntmps154;go_wp2_with (first
  |(go_at_call 229;refine mR (y.o _ nW) λD g=>?_;have h:=((((tR w).a _).a _).a _).t g;obtain⟨b,p⟩:=bY g)
  |fail)
 refine ag (v:=af #[i,j,x,k]) (by simp [results,results154,go_sem,b]) rfl ⟨rfl,((((h.sc).sc).sc).sc)⟩
def Rk(x a m:Int): Bool:=decide (a<=x)&&decide (x<=m)
theorem yx(x a m:Int)(w:ao): ap aq 242 #[x,a,m] w λe w'=>e=an (ad (Rk x a m))/\w=w':=by
 unfold Rk;go_enter func242,ntmps242;by_cases b:a<=x
 .by_cases c:x<=m
  .go_wp2;go_ret;exact⟨lS,rfl⟩
  go_wp2;go_ret;exact⟨lS,rfl⟩
 go_wp2;go_ret;exact⟨lS,rfl⟩
theorem CP(k:Int)(w:ao): ap aq 194 #[k] w λe w'=>e=an (ad (Rk k 1 4))/\w=w':=by
 have c:=yx k 1 4;generalize Rk k 1 4=b at *;have a:=lh c;clear c;go_enter func194,ntmps194;go_wp2_with (go_at_call 242;refine mS (a.o _) ?_)
 go_ret;exact⟨rfl,rfl⟩
theorem Mc(f:Fv)(ks cs:List Int)(W:jC f ks cs=ab)(r:Rc)(s:Int)(u:s=1\/s=-1)(E:r.bd)(w:ao)(z:∀w',bH [] w w'->ap aq 193 #[f.v] w' λe F=>e=an (ad ab)/\bH [] w' F): ap aq 131 #[f.v,r.v,s] w λe w'=>e=an (f.area (jC f ks cs) r s).v/\bH [] w w':=by
 have p:=iF r;obtain⟨O,P⟩:=xK f ks cs W;have d:=CP f.ag1;have q:=N7 r;have B:=NF r;rw [W];clear W;generalize j:f.area ab r s=A at *;unfold Fv.area at j;generalize r.empty=em at *;obtain⟨ag1,Xf,L,N,M,I,C,cA,H,G⟩:=f;simp only [Fv.v]at *;cases em with
 |true=>
  rw [aG (.inr rfl)]at j;subst j;obtain⟨g,i,h,k⟩:=r;simp only [Rc.v,Rc.zero]at *;have n:=lh z;have m:=lh p;clear z p O P d q B E u;have c:bH [] _ _:=(((tR w).alloc (am #[ag1,Xf,ac L N M,I,C,ac cA H G] 43)).alloc (am #[g,i,h,k] 59)).alloc (am #[(0:Int),(0:Int),(0:Int),(0:Int)] 59);have b:=c.here;go_enter func131,ntmps131;go_wp2_with (first
   |(go_at_call 193;with_reducible refine b.call (n.o _ (c.t b)) ?_;intro V b a l)
   |(go_at_call 68;with_reducible refine b.call (m.o _) ?_;intro F b a l)
   |fail)
  have b:=c.t b;refine ag (v:=af #[(0:Int),(0:Int),(0:Int),(0:Int)]) nt rfl ⟨rfl,((((b.sc).sc).sc).sc)⟩
 |false=>
  rw [aF lz]at j;by_cases K:1<=ag1/\ag1<=4
  .rw [aG K]at j;obtain⟨X,Y⟩:=O K;have J:Rk ag1 1 4=ab:=(by simp [Rk];omega);rw [J]at d;have q:=q Xf E gn gn;rw [j]at q;clear j B u O P J;obtain⟨g,i,h,k⟩:=r;obtain⟨R,S,T,U⟩:=A;simp only [Rc.v]at *;obtain⟨n,m,D,HG⟩:=lh4 z p d q;clear z p d q E K X Y;have c:bH [] _ _:=(((tR w).alloc (am #[ag1,Xf,ac L N M,I,C,ac cA H G] 43)).alloc (am #[g,i,h,k] 59)).alloc (am #[(0:Int),(0:Int),(0:Int),(0:Int)] 59);have b:=c.here;go_enter func131,ntmps131;go_wp2_with (first
    |(go_at_call 193;with_reducible refine b.call (n.o _ (c.t b)) ?_;intro V b a l)
    |(go_at_call 68;with_reducible refine b.call (m.o _) ?_;intro F b a l)
    |(go_at_call 194;(with_reducible refine (D.o _).mono ?_);rintro e w3 ⟨rfl,rfl⟩)
    |(go_at_call 195;with_reducible refine b.call (HG.o _) ?_;intro w4 b a l)
    |fail)
   have b:=c.t b;refine ag (v:=af #[R,S,T,U]) nt rfl ⟨rfl,((((b.sc).sc).sc).sc)⟩
  rw [aF K]at j;have J:Rk ag1 1 4=aa:=by simp [Rk];omega
  rw [J]at d;clear J;by_cases Q:ag1=8
  .rw [aG Q]at j;obtain⟨⟨X,Y⟩,q2,q3⟩:=P Q;subst Q;have B:∀x y,x=s*Xf->y=s*C->∀w,CR 196 #[r.v,x,y] w A.v:=(by rintro x y rfl rfl w;have:=B (s*Xf) (s*C) E oo oo oo oo w;rw [j]at this;exact this);clear j q O P;obtain⟨g,i,h,k⟩:=r;obtain⟨R,S,T,U⟩:=A;simp only [Rc.v]at *;obtain⟨n,m,D,Z⟩:=lh4 z p d B;clear z p d B E K;rcases u with rfl|rfl
   .have c:bH [] _ _:=(((tR w).alloc (am #[(8:Int),Xf,ac L N M,I,C,ac cA H G] 43)).alloc (am #[g,i,h,k] 59)).alloc (am #[(0:Int),(0:Int),(0:Int),(0:Int)] 59);have b:=c.here;go_enter func131,ntmps131;go_wp2_with (first
     |(go_at_call 193;with_reducible refine b.call (n.o _ (c.t b)) ?_;intro V b a l)
     |(go_at_call 68;with_reducible refine b.call (m.o _) ?_;intro F b a l)
     |(go_at_call 194;(with_reducible refine (D.o _).mono ?_);rintro e w3 ⟨rfl,rfl⟩)
     |(go_at_call 196;with_reducible refine b.call (Z.o _ _ gn gn _) ?_;intro w5 b a l)
     |fail)
    have b:=c.t b;refine ag (v:=af #[R,S,T,U]) nt rfl ⟨rfl,((((b.sc).sc).sc).sc)⟩
   have c:bH [] _ _:=(((tR w).alloc (am #[(8:Int),Xf,ac L N M,I,C,ac cA H G] 43)).alloc (am #[g,i,h,k] 59)).alloc (am #[(0:Int),(0:Int),(0:Int),(0:Int)] 59);have b:=c.here;go_enter func131,ntmps131;go_wp2_with (first
    |(go_at_call 193;with_reducible refine b.call (n.o _ (c.t b)) ?_;intro V b a l)
    |(go_at_call 68;with_reducible refine b.call (m.o _) ?_;intro F b a l)
    |(go_at_call 194;(with_reducible refine (D.o _).mono ?_);rintro e w3 ⟨rfl,rfl⟩)
    |(go_at_call 196;with_reducible refine b.call (Z.o _ _ gn gn _) ?_;intro w5 b a l)
    |fail)
   have b:=c.t b;refine ag (v:=af #[R,S,T,U]) nt rfl ⟨rfl,((((b.sc).sc).sc).sc)⟩
  rw [aF Q]at j;subst j;clear O P q B u E;obtain⟨g,i,h,k⟩:=r;simp only [Rc.v]at *;obtain⟨n,m,D⟩:=lh3 z p d;clear z p d;have c:bH [] _ _:=(((tR w).alloc (am #[ag1,Xf,ac L N M,I,C,ac cA H G] 43)).alloc (am #[g,i,h,k] 59)).alloc (am #[(0:Int),(0:Int),(0:Int),(0:Int)] 59);have b:=c.here;go_enter func131,ntmps131;go_wp2_with (first
   |(go_at_call 193;with_reducible refine b.call (n.o _ (c.t b)) ?_;intro V b a l)
   |(go_at_call 68;with_reducible refine b.call (m.o _) ?_;intro F b a l)
   |(go_at_call 194;refine mS (D.o _) ?_)
   |fail)
  have b:=c.t b;refine ag (v:=af #[g,i,h,k]) nt rfl ⟨rfl,((((b.sc).sc).sc).sc)⟩
theorem adV(f:Fv)(ks cs:List Int)(g:jC f ks cs=ab)(r:Rc)(c:r.bd)(w:ao)(h:∀w',bH [] w w'->ap aq 193 #[f.v] w' λe b=>e=an (ad ab)/\bH [] w' b): ap aq 72 #[f.v,r.v] w λe w'=>e=an (f.area (jC f ks cs) r (-1)).v/\bH [] w w':=by
 have C:=λw' (t:bH [] w w')=>Mc f ks cs g r (-1) gn c w' (λb m=>h b (t.t m));generalize f.area (jC f ks cs) r (-1)=A at *;obtain⟨ag1,Xf,z,D,B,q,E,cA,p,n⟩:=f;obtain⟨G,I,H,J⟩:=r;obtain⟨k,u,x,l⟩:=A;clear c h g;simp only [Fv.v,Rc.v]at *;have y:=lh C;clear C;go_enter func72,ntmps72;go_wp2_with (first
  |(go_at_call 131;refine mR (y.o _ nW) λF d=>?_;have i:=((((tR w).a _).a _).a _).t d;obtain⟨j,s⟩:=bY d)
  |fail)
 refine ag (v:=af #[k,u,x,l]) (by simp [results,results72,go_sem,j]) rfl ⟨rfl,((((i.sc).sc).sc).sc)⟩
theorem Gg(f:Fv)(ks cs:List Int)(g:jC f ks cs=ab)(r:Rc)(c:r.bd)(w:ao)(h:∀w',bH [] w w'->ap aq 193 #[f.v] w' λe b=>e=an (ad ab)/\bH [] w' b): ap aq 126 #[f.v,r.v] w λe w'=>e=an (f.area (jC f ks cs) r (1)).v/\bH [] w w':=by
 have C:=λw' (t:bH [] w w')=>Mc f ks cs g r (1) gn c w' (λb m=>h b (t.t m));generalize f.area (jC f ks cs) r (1)=A at *;obtain⟨ag1,Xf,z,D,B,q,E,cA,p,n⟩:=f;obtain⟨G,I,H,J⟩:=r;obtain⟨k,u,x,l⟩:=A;clear c h g;simp only [Fv.v,Rc.v]at *;have y:=lh C;clear C;go_enter func126,ntmps126;go_wp2_with (first
  |(go_at_call 131;refine mR (y.o _ nW) λF d=>?_;have i:=((((tR w).a _).a _).a _).t d;obtain⟨j,s⟩:=bY d)
  |fail)
 refine ag (v:=af #[k,u,x,l]) (by simp [results,results126,go_sem,j]) rfl ⟨rfl,((((i.sc).sc).sc).sc)⟩
theorem LD(x:Int)(w:ao): ap aq 280 #[x] w λe w'=>e=an (ad aa)/\w=w':=by
 go_enter func280,ntmps280;go_wp2;go_ret;exact⟨lU,rfl⟩
theorem OX(x y:Int)(h:y<=x)(w:ao): ap aq 277 #[x,y] w λe w'=>e=an (ad aa)/\w=w':=by
 have H:=lh (LD x);have E:decide (x<y)=aa:=ak gn;go_enter func277,ntmps277;go_wp2_with (go_at_call 280;refine mS (H.o _) ?_)
 go_ret;exact⟨lS,rfl⟩
theorem EC(n:Int)(a:2<=n)(b:n<=257)(w:ao): ap aq 267 #[n] w λe w'=>e=an (ad ab)/\w=w':=by
 go_enter func267,ntmps267;go_wp2;go_ret;exact⟨lS,rfl⟩
theorem FD(c:List Int)(g o:Nat)(n cap:Nat)(H:2<=n)(I:n<=257)(w:ao)(u:∀j,j<n->w.cell? ⟨g,o+j,none⟩=some (.int .i64 (c.getD j 0)))(A:∀j,0<j->j<n->c.getD (j-1) 0<=c.getD j 0):
  ap aq 268 #[ac (some ⟨g,o,none⟩) n cap] w λe w'=>e=an (ad ab)/\∃m,w'=w.drewN m:=by
 have i:=lh u;have D:=lh A;have z:∀(x y:Int),y<=x->∀w,ap aq 277 #[x,y] w λe w'=>e=an (ad aa)/\w'=w:=λx y h w=>(OX x y h w).mono λ_ _ ⟨a,b⟩=>⟨a,b.symm⟩;have B:=lh z;clear z;clear u A;go_enter func268,ntmps268;go_wp2_with fail
 go_loopw [3] (λs3 wr=>∃k:Nat,k<n/\s3=k/\∃q,wr=w.drewN q) (λs3 _=>(intOf s3).toNat);case atStart=>exact⟨n-1,gn,by congr 1;omega,0,rfl⟩
 obtain⟨k,v,rfl,q,f⟩:=hrel;have T:=(tR w).drawn q;rw [<-f]at T;have l:=lh f;clear f;cases k with
 |zero=>
  go_wp2;go_ret;exact⟨rfl,q,l.o⟩
 |succ m=>
  have t:=i.o (m+1) v;have s:=i.o m gn;rw [<-(bY T).1 g _ (ai t)]at t;rw [<-(bY T).1 g _ (ai s)]at s;have d:=D.o (m+1) gn v;have p:m+1-1=m:=gn
  rw [p]at d;clear p;generalize c.getD (m+1) 0=x,c.getD m 0=y at *;have C:=lh d;clear d;have a2:decide ((0:Int)<((m:Int)+1))=ab:=aC gn;have J:IntKind.i64.wrap (m:Int)=(m:Int):=IntWalk.i64_in _ ⟨gn,gn⟩;have E:(0:Int)<=(m:Int)+1:=gn
  have F:(m:Int)+1<(n:Int):=gn
  have G:(m:Int)<(n:Int):=gn
  go_wp2_with fail
  go_quiet ((go_at_call 277;exact Calls.quiet_of_same (B.o _ _ C.o _)))
  go_wp2;go_roundw;case rel=>exact⟨m,gn,by go_num,_,by rw [l.o,World.drewN_drewN]⟩
  simp [intOf]
theorem oK(c:List Int)(s:jh c=ab)(A:Option Addr)(n cap:Nat)(w:ao)(I:dn w A n c):
  CR 244 #[ac A n cap] w (ad ab):=by
 simp only [jh,az,decide_eq_true_eq,aZ,aX]at s;obtain⟨⟨i,p⟩,a⟩:=s;obtain⟨G,f⟩:=I;rw [<-G]at i p a;obtain⟨g,o,rfl,_⟩:=f 0 gn;have D:∀j,j<n->w.cell? ⟨g,o+j,none⟩=some (.int .i64 (c.getD j 0)):=by intro j k;obtain⟨O,R,e,h⟩:=f j k;injection e with e;injection e with l F N;subst l;subst F;exact h
 have z:∀j,0<j->j<n->c.getD (j-1) 0<=c.getD j 0:=by intro j P H;have:=a j H;simp only [mY,az,Bool.or_eq_true,decide_eq_true_eq,beq_iff_eq]at this;omega
 have b:=a 0 gn;have d:=a (n-1) gn;simp only [mY,az,decide_eq_true_eq]at b d;have B:=D 0 gn;have J:=D (n-1) gn;have u:=EC n gn gn;have v:=λw' (t:bH [] w w')=>FD c g o n cap i p w' (λj k=>rS) z;have L:decide (0<=c.getD 0 0)=ab:=aC b.1.1;have M:decide (c.getD (n-1) 0<=65535)=ab:=aC d.1.2;clear f D a z b d G;generalize c.getD 0 0=x,c.getD (n-1) 0=y at *;have C:=lh u;have E:=lh v;clear u v;obtain⟨m,rfl⟩:∃m,n=m+1:=⟨n-1,gn⟩;have l:m+1-1=m:=gn
 rw [l]at J;clear l;have B:w.cell? ⟨g,o,none⟩=some (.int .i64 x):=B;have K:(m:Int)<(m:Int)+1:=gn
 have Q:IntKind.i64.wrap (m:Int)=(m:Int):=IntWalk.i64_in _ ⟨gn,gn⟩;go_enter func244,ntmps244;go_wp2_with (first
  |(go_at_call 267;refine mS (C.o _) ?_)
  |(go_at_call 268;refine (E.o _ (tR w)).mono ?_;rintro e S ⟨rfl,q,rfl⟩)
  |fail)
 go_ret;exact⟨rfl,(tR w).drawn q⟩
theorem ji(x a m:Int)(b:a<=x)(c:x<=m)(w:ao): ap aq 242 #[x,a,m] w λe w'=>e=an (ad ab)/\w=w':=by
 have h:=yx x a m w;have g:Rk x a m=ab:=by simp [Rk,b,c]
 rw [g]at h;exact h
theorem oL{f:Fv}{v c r:Bool}(h:f.plain aa v c r=ab): f.kn=0/\f.div=0:=by simp [Fv.plain]at h;exact h.1.1.1
theorem zG{f:Fv}{k c r:Bool}(h:f.plain k aa c r=ab): f.value=0:=by simp [Fv.plain]at h;exact h.1.1.2
theorem oG{f:Fv}{k v r:Bool}(h:f.plain k v aa r=ab): f.cn=0:=by simp [Fv.plain]at h;exact h.1.2
theorem FM{f:Fv}{k v c:Bool}(h:f.plain k v c aa=ab): f.Xf=0:=by simp [Fv.plain]at h;exact h.2
theorem O4(f:Fv)(e:f.ag1=6)(b:f.plain aa aa aa aa=ab)(w:ao): CR 193 #[f.v] w (ad ab):=by
 obtain⟨g,d⟩:=oL b;have i:=zG b;have c:=oG b;have h:=FM b;clear b;obtain⟨ag1,Xf,m,o,n,l,p,cA,k,j⟩:=f;simp only [Fv.v]at *;subst g d;subst i;subst c;subst h;subst e;all_goals
  go_enter av,ar;go_wp2_with (first
   |fail)
  go_ret;exact⟨lU,((tR w).a _).a _⟩
theorem OL(f:Fv)(e:f.ag1=2\/f.ag1=3\/f.ag1=4)(b:f.plain aa aa aa ab=ab)(g:0<=f.Xf/\f.Xf<=3)(w:ao): CR 193 #[f.v] w (ad ab):=by
 obtain⟨h,d⟩:=oL b;have i:=zG b;have c:=oG b;clear b;obtain⟨ag1,Xf,m,o,n,l,q,cA,k,j⟩:=f;simp only [Fv.v]at *;subst h d;subst i;subst c;obtain⟨s,p⟩:=g;rcases e with rfl|rfl|rfl;all_goals
  go_enter av,ar;go_wp2_with (first
   |(go_at_call 242;refine mS (ji _ _ _ gn gn _) ?_)
   |fail)
  go_ret;exact⟨lU,((tR w).a _).a _⟩
theorem QI(f:Fv)(e:f.ag1=7)(b:f.plain aa ab aa aa=ab)(g:0<=f.value/\f.value<=256)(w:ao): CR 193 #[f.v] w (ad ab):=by
 obtain⟨h,d⟩:=oL b;have c:=oG b;have i:=FM b;clear b;obtain⟨ag1,Xf,m,o,n,l,q,cA,k,j⟩:=f;simp only [Fv.v]at *;subst h d;subst c;subst i;obtain⟨s,p⟩:=g;subst e;all_goals
  go_enter av,ar;go_wp2_with (first
   |(go_at_call 242;refine mS (ji _ _ _ gn gn _) ?_)
   |fail)
  go_ret;exact⟨lU,((tR w).a _).a _⟩
theorem P8(f:Fv)(g:f.ag1=8)(b:f.plain aa ab aa ab=ab)(h:(-3<=f.Xf/\f.Xf<=3)/\-3<=f.value/\f.value<=3)(w:ao): CR 193 #[f.v] w (ad ab):=by
 obtain⟨i,d⟩:=oL b;have c:=oG b;clear b;obtain⟨ag1,Xf,m,o,n,l,u,cA,k,j⟩:=f;simp only [Fv.v]at *;subst i d;subst c;obtain⟨⟨s,p⟩,q,t⟩:=h;subst g;all_goals
  go_enter av,ar;go_wp2_with (first
   |(go_at_call 242;refine (ji _ _ _ gn gn _).mono ?_;rintro e x ⟨rfl,rfl⟩)
   |fail)
  go_region;go_wp2_with (first
   |(go_at_call 242;refine mS (ji _ _ _ gn gn _) ?_)
   |fail)
  go_ret;exact⟨lU,(((tR w).a _).a _).drawn 1⟩
theorem LU(f:Fv)(k:f.ag1=5)(b:f.plain aa aa ab aa=ab)(cs:List Int)(d:jh cs=ab)(w:ao)(c:dn w f.cA f.cn cs): CR 193 #[f.v] w (ad ab):=by
 obtain⟨m,i⟩:=oL b;have p:=zG b;have n:=FM b;clear b;obtain⟨ag1,Xf,x,z,y,q,A,cA,h,j⟩:=f;simp only [Fv.v]at *;subst m i;subst p;subst n;have g:=λw' (t:bH [] w w')=>oK cs d cA h j w' (c.u t);have l:=lh g;clear g c d;subst k;all_goals
  go_enter av,ar;go_wp2_with (first
   |(go_at_call 244;refine mR (l.o _ (by first|exact (((tR w).a _).a _))) λB e=>?_;obtain⟨c,s⟩:=bY e)
   |fail)
  go_ret;exact⟨lU,(((tR w).a _).a _).t e⟩
