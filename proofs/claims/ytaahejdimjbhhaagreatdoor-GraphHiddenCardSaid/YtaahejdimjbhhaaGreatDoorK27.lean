import Derived.Test.YtaahejdimjbhhaaGreatDoorK16
import Derived.Test.YtaahejdimjbhhaaGreatDoorK18
import Derived.Test.YtaahejdimjbhhaaGreatDoorK26
set_option maxRecDepth 100000
set_option maxHeartbeats 0
set_option linter.all false
namespace Go.Proofs.YtaahejdimjbhhaaGreatDoor
open Tryz Go.RowKit Go.Den
open Go.Value renaming int->bk,string->bm,pointer->bo,slice->bp,agg->bq
open Go.Obj renaming cells->br
open Option renaming none->bw,some->bx
open Go renaming heap_alloc_new->bz,World->bA,run_loadVar_row->bB,Value->bE,zero_of_info->bF,loadVar->bL
open Go.Proofs.Tryz renaming prog->bM,underlying154->bP,underlying80->bR
def gJ(w:bA)(B b:Nat)(l:List UInt8): Prop:=Lib.IsBuilder 156 5 B b (Lib.byteCells l) w
theorem gJ.lt{w:bA}{B b:Nat}{l:List UInt8}(h:gJ w B b l): b<w.heap.size:=h.elim (·.lt) (·.lt)
theorem abg{w u:bA}{B b:Nat}{p:bE}{l:List bE}(h:Lib.BuilderAt 156 5 B b p l w)(T:bH [] w u): Lib.BuilderAt 156 5 B b p l u:=by have m:=h.lt;obtain⟨f,v,i,a,G⟩:=h;refine⟨f,v,(T.old _ m lz).t i,⟨a.1,a.2.imp id ?_⟩,G⟩;rintro⟨g,c,d,e,j,k,r⟩;exact⟨g,c,d,e,j,T.ox k,r⟩
theorem gJ.u{w u:bA}{B b:Nat}{l:List UInt8}(h:gJ w B b l)(T:bH [] w u): gJ u B b l:=h.imp (abg · T) (abg · T)
theorem adl(w:bA): gJ (w.alloc (br #[bo bw,bp bw 0 0] 156)) w.heap.size w.heap.size []:=
 .inl ⟨aQ _,_,bz _ _,World.ownsRow_nil _ _ _ _,by simp [Value.ownBlock]⟩
theorem Yp{W w u:bA}{B:Nat}(T:bH [] W w)(h:Below B w u)(v:B=W.heap.size): bH [] W u:=
 ⟨aK T.size h.size,λj k a=>(h.block j gn).t (T.old j k a),h.os.t T.os,h.tape.t T.tape,h.output.t T.output⟩
theorem acg(B b:Nat)(l s:List UInt8)(w:bA)(h:gJ w B b l)(G:l.length+s.length<=140737488355328)(v:B<=w.heap.size):
  Calls bM 77 #[bo (bx ⟨b,0,bw⟩),bm ⟨s.toArray⟩] w λe w'=>e=.returned (.tuple #[s.length,.nilIface])/\gJ w' B b (l++s)/\Below B w w':=
 (Tryz.bld_write B b (Lib.byteCells l) ⟨s.toArray⟩ w h (by rw [Lib.byteCells_length];exact G) v).mono λ_ _ h=>⟨h.1,.inr (by rw [Lib.byteCells_append];exact h.2.1),h.2.2⟩
theorem adx(B b:Nat)(l:List UInt8)(w:bA)(h:gJ w B b l)(v:B<=w.heap.size):
 Calls bM 80 #[bo (bx ⟨b,0,bw⟩)] w λe w'=>e=.returned (bm ⟨l.toArray⟩)/\Below B w w':=Tryz.bld_string B b l w h v
theorem acM(u:bA): (Instr.alloc 156 true (.tuple #[])).run bM u=.ok (bo (bx ⟨u,0,bw⟩)) (u.alloc (br #[bo bw,bp bw 0 0] 156)):=by
 have m:(prog.info? 156).map (λi=>(i.zero,i.size))=bx (bx (bq #[bo bw,bp bw 0 0]),2):=lB
 unfold Instr.alloc;rw [Sem.run_bind,(bF m).1];rfl
theorem ae8{w:bA}(g:YQ w): (bL 216 ⟨0,0,bw⟩).run bM w=.ok (bq ⟨Yv.row⟩) w:=by
 have h:=run_loadAt_mid (P:=bM) w 0 0 216 Yv.row _ (λq x a=>by
  have i:q<8:=(ah.1 a).1;rw [Nat.zero_add,g.h q i];rw [<-a];match q,i with|0,_=>rfl|1,_=>rfl|2,_=>rfl|3,_=>rfl|4,_=>rfl|5,_=>rfl|6,_=>rfl|7,_=>rfl) underlying216 rfl (bF aaX).2
 exact h
theorem Yk(l:List UInt8)(a b:Nat): (⟨l.toArray⟩:BAr).extract a b=⟨((l.drop a).take (b-a)).toArray⟩:=pm
theorem acn:∀z,Lib.repeatL [0] z=List.replicate z 0
 |0=>rfl
 |z+1=>by rw [Lib.repeatL,acn z];rfl
theorem abo{P:Program}{o:Oper}{a:Act}{w:bA}{t:TypeId}{x i:Operand}{p q v:bE}(e:o.op=.index t x i)(b:a.eval x=p)(m:a.eval i=q)(C:(Instr.index t p q).run P w=.ok v w): (execOp a.eval o).run P w=.ok (.value v) w:=pS
theorem jR(v:V8)(j:Nat)(k:j<8)(u:bA): (Instr.index 216 (bq ⟨v.row⟩) j).run bM u=.ok (wv (v.l.getD j 0)) u:=
 match j,k with
 |0,_=>by kernel_rfl
 |1,_=>by kernel_rfl
 |2,_=>by kernel_rfl
 |3,_=>by kernel_rfl
 |4,_=>by kernel_rfl
 |5,_=>by kernel_rfl
 |6,_=>by kernel_rfl
 |7,_=>lB
def ac6:bE->Nat | bm b=>b.size|_=>0
structure gu(w wr:bA)(v:V8): Prop where
 t:bH [] w wr
 h:wr.heap[w.heap.size]?=bx (br ⟨v.row⟩ 216 (0,0))
theorem gu.u{w wr u:bA}{v:V8}(P:gu w wr v)(T:bH [] wr u): gu w u v:=⟨P.t.t T,T.ox P.h⟩
theorem gu.put{w wr:bA}{v:V8}(P:gu w wr v)(u:V8): gu w (wr.setRow w ⟨u.row⟩) u:=⟨P.t.setRow _ (.inr (aQ _)),abA _ P.h⟩
theorem adC(s:List UInt8)(hs:s.length<=1000000000000)(w:bA)(hG:YQ w): CR 79 #[bm ⟨s.toArray⟩] w (bm ⟨(YD s).toArray⟩):=by
 obtain⟨S,b⟩:=eX (⟨s.toArray⟩:BAr);have b9:S.size=s.length:=by rw [b];rfl
 rw [<-b];have ac:=lh b;clear b;obtain⟨HG,ba,ab,a6⟩:=lh4 hG (ae8 hG) aaP aaY;obtain⟨R,hR⟩:=eX Yv.row;have a3:=ba.o;have a8:=ab.o w Yv;rw [<-hR]at a3 a8;obtain⟨HL,ad,HR⟩:=lh3 a3 a8 hR;clear a3 a8 hR ba;go_enter func79,ntmps79;go_upto_region 3 with (first
  |((with_reducible refine NR (v:=bq ⟨R⟩) ?_ 216 (.global 0) ?_ ?_ HL.o ?_);(next=>rfl);(next=>rfl);(next=>rfl);try go_frame)
  |((with_reducible refine yA 3 (bo (bx ⟨w,0,bw⟩)) (w.alloc (br ⟨V8.z.row⟩ 216)) ?_ ?_);(next=>exact XC (t:=216) rfl (a6.o _));try go_frame)
  |((with_reducible refine bU (v:=bq ⟨R⟩) ?_ 216 (.tmp 3) (.tmp 10) ?_ ?_ ?_ ad.o ?_);(next=>rfl);(next=>rfl);(next=>rfl);(next=>rfl);try go_frame))
 obtain⟨n,hn⟩:=eX s.length;rw [<-hn]at b9 hs ⊢;obtain⟨z,hz⟩:=eX ((119-n%64)%64);rw [show (119-(n:Int)%64)%64=(z:Int) by omega];have W0:bH [] _ _:=(tR w).alloc (br ⟨R⟩ 216);have w3:(w.alloc (br ⟨R⟩ 216)).heap[w.heap.size]?=bx (br ⟨R⟩ 216 (0,0)):=bz _ _;obtain⟨T,hT⟩:=eX (S.extract (n/64*64) n);obtain⟨Z,hZ⟩:∃Z:BAr,Z=⟨(Lib.repeatL [0] z).toArray⟩:=⟨_,rfl⟩;obtain⟨Q,W⟩:∃Q:BAr,Q=⟨(XA (n*8) 8).toArray⟩:=⟨_,rfl⟩;have bd:T.size<=64:=by rw [hT,ByteArray.size_extract];omega
 have be:Z.size<=64:=by rw [hZ];show (Lib.repeatL [0] z).length<=64;rw [Lib.repeatL_length];simp;omega
 have bc:Q.size=8:=by rw [W];exact En (n*8) 8
 have aE:=λu=>(Tryz.str_repeat ⟨#[0]⟩ z u gn (by show 1*z<=_;omega)).mono (λe w' (h:_/\_)=>(show e=.returned (bm Z)/\bH [] u w' from ⟨by rw [h.1,hZ],bH.of_below h.2⟩));have I:=λu=>aaA (n*8) 8 gn lG lG u;rw [<-W]at I;obtain⟨O,HZ,HT,am,HQ,aa,U,HW⟩:=lh8 hn hz hT hZ W aE I (bg W0 w3);have f1:¬9223372036854775807<T.size+1:=by omega
 have f2:¬9223372036854775807<T.size+1+Z.size:=gn
 have f3:¬9223372036854775807<T.size+1+Z.size+8:=gn
 have f4:IntKind.i64.wrap ((n:Int)*8)=((n*8:Nat):Int):=lD
 have f5:IntKind.i64.wrap ((n:Int)/64*64)=((n/64*64:Nat):Int):=by simp [IntKind.wrap,IntKind.bits,IntKind.signed]<;>omega
 clear hn hz hT hZ W aE I W0 w3 bd be;generalize w.alloc (br ⟨R⟩ 216)=X at *;have f6:IntKind.i64.wrap ((n:Int)/64)=(n:Int)/64:=lD
 have g1:0<=(n:Int)/64*64:=gn
 have g2:(n:Int)/64*64<=n:=gn
 have g3:S.extract ((n:Int)/64*64).toNat n=T:=by rw [HT.o,show ((n:Int)/64*64).toNat=n/64*64 by omega]
 refine sN 15 (tR X) λV b=>?_;refine fE 0 (bm S) ?_;refine fE 1 (bm S) ?_;refine fE 2 (n:Int) ?_;refine fE 3 (bk .i64 ((n:Int)/64)) ?_;refine fE 4 (bk .i64 ((n/64*64:Nat):Int)) ?_;refine fE 5 (bm T) ?_;refine fE 6 (bm (T++⟨#[128]⟩)) ?_;refine fE 7 (z:Int) ?_;refine fE 10 (bm S) ?_;refine fE 11 (n:Int) ?_;refine fE 12 (bk .i64 ((n*8:Nat):Int)) ?_;refine PR 8 (aa.o _) λC b f=>?_
 refine fE 9 (bm (T++⟨#[128]⟩++Z)) ?_;refine PR 13 (U.o _) λw2 b t2=>?_
 refine fE 14 (bm (T++⟨#[128]⟩++Z++Q)) ?_;refine eH 15 (λK y=>?_);go_simp;refine gZ y ?_;clear y K
 refine Wy ?_;have ay:T++⟨#[128]⟩++Z++Q=⟨(abt s).toArray⟩:=by rw [HT.o,am.o,HQ.o,ac.o,show (⟨s.toArray⟩:BAr).extract (n/64*64) n=⟨(s.drop (64*(n/64))).toArray⟩ by rw [Yk,Nat.mul_comm,aY (by simp;have:=O.o;omega)]];rw [show (⟨#[128]⟩:BAr)=⟨([128]:List UInt8).toArray⟩ from rfl,OC,OC,OC];unfold abt adi;rw [<-O.o,<-HZ.o,show Lib.repeatL [0] z=List.replicate z 0 from acn z];simp
 rw [ay];have M:gu w w2 (Yi Yv 0 s):=⟨HW.o.1.t b,by rw [show Yi Yv 0 s=Yv from rfl,<-HR.o];exact b.ox HW.o.2⟩;have a4:=acE s;have L:=lh (aee s);clear ay b f1 f2 f3 f4 f5 f6 g1 g2 g3 aa U HQ am HT HZ ad HW HR ab a6 HL;clear f t2 bc;rw [<-O.o]at L;generalize abt s=p at *;as_aux_lemma=>
 go_upto_region 4 with fail
 go_wp2;go_loopw [6] (λs6 wr=>∃k:Nat,k<=n/64/\s6=bk .i64 ((64*k:Nat):Int)/\gu w wr (Yi Yv k s)) (λs6 _=>n-(intOf s6).toNat);case atStart=>exact⟨0,gn,rfl,M⟩
 clear M;obtain⟨k,hk,rfl,P⟩:=hrel;by_cases a5:64*k+64<=n
 .as_aux_lemma=>
  have q1:IntKind.i64.wrap (64*(k:Int)+64)=64*(k:Int)+64:=lD
  have q2:64*(k:Int)+64<=(n:Int):=gn
  have q3:(0:Int)<=64*(k:Int):=gn
  have q4:(0:Int)<=64*(k:Int)+64:=gn
  have q5:64*(k:Int)<=64*(k:Int)+64:=gn
  obtain⟨B,q⟩:=eX ((s.drop (64*k)).take 64);have A:B.length=64:=by rw [q];simp;have:=O.o;omega
  have b7:S.extract (64*(k:Int)).toNat (64*(k:Int)+64).toNat=⟨B.toArray⟩:=by rw [show (64*(k:Int)).toNat=64*k by omega,show (64*(k:Int)+64).toNat=64*k+64 by omega,ac.o,q,Yk,show 64*k+64-64*k=64 by omega]
  have aq:=aa7 Yv s k;rw [<-q]at aq;generalize Yi Yv k s=v at *;have J:=lh aq;have a1:=λu (t:bH [] wr u)=>abS v B A u (HG.o.u (P.t.t t));generalize abj v B=Y at *;have aL:=lh a1;have an:=lh P;clear a1 q aq P A;generalize a2:(⟨B.toArray⟩:BAr)=BB at *;clear a2;go_upto_region 7 with fail
  refine sN 7 (tR wr) λV b=>?_;refine Xz 0 (bq ⟨v.row⟩) (λw' hw=>aaG (an.o.u hw).h) ?_;refine fE 1 (bm S) ?_;refine fE 2 (bk .i64 ((64*k:Nat):Int)) ?_;refine fE 3 (bk .i64 ((64*k:Nat):Int)) ?_;refine fE 4 (bk .i64 (64*(k:Int)+64)) ?_;refine fE 5 (bm BB) ?_;refine PR 6 (aL.o _ b) λC b f=>?_
  have F:=an.o.u b;have a8:=ac4 Y F.h rfl;have P3:gu w (C.setRow w ⟨Y.row⟩) (Yi Yv (k+1) s):=by rw [J.o];exact F.put Y
  refine eH 7 (λK y=>?_);refine fO (d:=bw) rfl 216 (.tmp 3) (.tmp 44) rfl rfl rfl a8 ?_;refine gZ y ?_;clear y K a8 F
  refine Wy ?_;clear J aL an b f;generalize C.setRow w ⟨Y.row⟩=u2 at *;clear b7 q3 q4 q5;go_wp2;go_roundw;case rel=>exact⟨k+1,gn,by go_num,P3⟩
  simp [intOf];omega
 obtain rfl:k=n/64:=gn
 have bj:64*(n/64)<=n:=gn
 generalize 64*(n/64)=q6 at *;as_aux_lemma=>
 generalize Yi Yv (n/64) s=G at *;have ar:YD s=(Yi G (p.length/64) p).l.flatMap λx=>XA x.toNat 4:=by unfold YD;rw [L.o]
 have HF:=lh ar;clear ar L;have M:gu w wr (Yi G 0 p):=P;obtain⟨c,hc⟩:=eX (p.length/64);have aD:p.length=64*c:=by have:=a4.1;omega
 have bf:c<=4:=by have:=a4.2;omega
 rw [<-hc]at HF;have b6:=lh aD;have af:Hid (∀j,j<c->((p.drop (64*j)).take 64).length=64):=lh λj hj=>lO
 have N:Hid (∀j,(p.drop (64*j)).length=64*c-64*j):=lh λj=>lO
 clear hc aD a4 P;go_upto_region 8 with fail
 go_wp2;go_loopw [5] (λs5 wr=>∃j:Nat,j<=c/\s5=bm ⟨(p.drop (64*j)).toArray⟩/\gu w wr (Yi G j p)) (λs5 _=>ac6 s5);case atStart=>exact⟨0,gn,rfl,M⟩
 clear M;obtain⟨j,hj,rfl,P⟩:=hrel;obtain⟨E,H⟩:∃E:BAr,E=⟨(p.drop (64*j)).toArray⟩:=⟨_,rfl⟩;have a0:E.size=64*c-64*j:=by rw [H];exact N.o j
 rw [<-H];by_cases a5:j<c
 .as_aux_lemma=>
  obtain⟨B,q⟩:=eX ((p.drop (64*j)).take 64);have A:B.length=64:=by rw [q];exact af.o j a5
  have q1:E.extract 0 64=⟨B.toArray⟩:=by rw [H,q,Yk];rfl
  have q2:E.extract 64 E.size=⟨(p.drop (64*(j+1))).toArray⟩:=by rw [a0,H,Yk,List.drop_drop,show 64*j+64=64*(j+1) by omega,aY (by rw [N.o];omega)]
  have q3:64<=E.size:=gn
  have q4:0<E.size:=gn
  have q5:¬(E.size:Int)<64:=gn
  have aq:=aa7 G p j;rw [<-q]at aq;have b5:Hid (ac6 (bm ⟨(p.drop (64*(j+1))).toArray⟩)<ac6 (bm E)):=lh (by
   show (⟨(p.drop (64*(j+1))).toArray⟩:BAr).size<E.size;have:=N.o (j+1);have e:(⟨(p.drop (64*(j+1))).toArray⟩:BAr).size=(p.drop (64*(j+1))).length:=rfl;omega)
  generalize Yi G j p=v at *;have J:=lh aq;have a1:=λu (t:bH [] wr u)=>abS v B A u (HG.o.u (P.t.t t));generalize abj v B=Y at *;have aL:=lh a1;have an:=lh P;clear a1 q aq P A H a0;generalize a2:(⟨B.toArray⟩:BAr)=BB at *;clear a2;generalize ao:(⟨(p.drop (64*(j+1))).toArray⟩:BAr)=E2 at *;have aR:=lh ao;clear ao;go_upto_region 10 with fail
  refine sN 4 (tR wr) λV b=>?_;refine Xz 0 (bq ⟨v.row⟩) (λw' hw=>aaG (an.o.u hw).h) ?_;refine fE 1 (bm E) ?_;refine fE 2 (bm BB) ?_;refine PR 3 (aL.o _ b) λC b f=>?_
  have F:=an.o.u b;have a8:=ac4 Y F.h rfl;have P3:gu w (C.setRow w ⟨Y.row⟩) (Yi G (j+1) p):=by rw [J.o];exact F.put Y
  refine eH 4 (λK y=>?_);refine fO (d:=bw) rfl 216 (.tmp 3) (.tmp 53) rfl rfl rfl a8 ?_;refine gZ y ?_;clear y K a8 F
  refine Wy ?_;clear J aL an b f;generalize C.setRow w ⟨Y.row⟩=u2 at *;go_wp2;go_roundw;case rel=>
   exact⟨j+1,gn,by rw [aR.o],P3⟩
  exact b5.o
 obtain rfl:j=c:=gn
 have q4:E.size=0:=gn
 have hf:=HF.o;generalize Yi G j p=v at *;have b0:=lh hf;clear hf HF H a0 af N b6;as_aux_lemma=>
 generalize wr=g at *;have m:=adl g;have TB:=(tR g).alloc (br #[bo bw,bp bw 0 0] 156);have ax:=aaG (P.u TB).h;have b8:Hid ((bL 216 ⟨w,0,bw⟩).run bM (g.alloc (br #[bo bw,bp bw 0 0] 156))=.ok (bq ⟨v.row⟩) (g.alloc (br #[bo bw,bp bw 0 0] 156))):=lh ax;obtain⟨a7,L,b3⟩:=lh3 (acM g) P (jR v);clear P ax;obtain⟨WB,ap⟩:=eX (g.alloc (br #[bo bw,bp bw 0 0] 156));rw [<-ap]at b8 a7 m TB;clear ap;go_upto_region 13 with (first
  |((with_reducible refine yA 7 (bo (bx ⟨g,0,bw⟩)) WB ?_ ?_);(next=>exact XC (t:=156) rfl a7.o);try go_frame)
  |((with_reducible refine NR (v:=bq ⟨v.row⟩) ?_ 216 (.tmp 3) ?_ ?_ b8.o ?_);(next=>rfl);(next=>rfl);(next=>rfl);try go_frame))
 clear q4;go_wp2;go_loopw [55] (λs55 wx=>∃i:Nat,i<=8/\s55=i/\gJ wx g.heap.size g.heap.size ((v.l.take i).flatMap λx=>XA x.toNat 4)/\bH [] g wx) (λs55 _=>8-(intOf s55).toNat);case atStart=>exact⟨0,gn,rfl,m,TB⟩
 clear m TB;obtain⟨i,hi,rfl,m,TB⟩:=hrel;by_cases a5:i<8
 .as_aux_lemma=>
  have aM:v.l.take (i+1)=v.l.take i++[v.l.getD i 0]:=by rw [aT (show i<v.l.length from a5)];simp [List.getD,show i<v.l.length from a5]
  have bl:((v.l.take (i+1)).flatMap λx=>XA x.toNat 4)=((v.l.take i).flatMap λx=>XA x.toNat 4)++XA (v.l.getD i 0).toNat 4:=by rw [aM];simp
  have aw:((v.l.take i).flatMap λx=>XA x.toNat 4).length=4*i:=by
   have:∀l:List Yb,(l.flatMap λx=>XA x.toNat 4).length=4*l.length:=λl=>by
    induction l with
    |nil=>rfl
    |cons a l ih=>rw [List.flatMap_cons,aO,ih,En,List.length_cons];omega
   rw [this,List.length_take,Nat.min_eq_left (by show i<=8;omega)]
  have av:=b3.o i a5;generalize v.l.getD i 0=x at *;have bb:=x.isLt;have I:∀u,CR 78 #[(x.toNat:Int),(4:Int)] u (bm ⟨(XA x.toNat 4).toArray⟩):=λu=>aaA x.toNat 4 gn lG lG u;have bh:IntKind.i64.wrap (x.toNat:Int)=(x.toNat:Int):=lD
  have A:=En x.toNat 4;generalize XA x.toNat 4=bs at *;obtain⟨U,a9,b1,D,bt⟩:=lh5 I av bl (bg m TB) (bg aw A);clear I av bl aw A aM m TB bb;generalize ((v.l.take i).flatMap λx=>XA x.toNat 4)=l0 at *;generalize cG:((v.l.take (i+1)).flatMap λx=>XA x.toNat 4)=l1 at *;have b4:=lh cG;clear cG;unfold wv at a9;go_wp2_with (first
   |((with_reducible refine yA 57 (bk .u32 (x.toNat:Int)) wr ?_ ?_);(next=>exact abo (t:=216) (x:=.tmp 54) (i:=.tmp 55) rfl rfl rfl (a9.o _));try go_frame)
   |(go_at_call 78;refine mR (U.o _) λC f=>?_)
   |(go_at_call 77;(with_reducible refine (acg _ _ l0 bs _ (D.o.1.u f) (by have:=bt.o;omega) (by have:=(D.o.2.t f).size;omega)).mono ?_);rintro e w2 ⟨rfl,b2,t2⟩))
  have TT:=Yp (D.o.2.t f) t2 rfl;rw [<-b1.o]at b2;go_roundw;case rel=>exact⟨i+1,gn,by go_num,by rw [b4.o];exact b2,TT⟩
  simp [intOf];omega
 obtain rfl:i=8:=gn
 have e8:v.l.take 8=v.l:=rfl;rw [e8,<-b0.o]at m;have D:=lh (bg m TB);clear e8 m TB;go_wp2_with (go_at_call 80;(with_reducible refine (adx _ _ _ _ D.o.1 (by have:=D.o.2.size;omega)).mono ?_);rintro e C ⟨rfl,f⟩)
 go_ret;exact⟨rfl,L.o.t.t (Yp D.o.2 f rfl)⟩
def DR(w:bA)(A:Option Addr)(n:Nat)(l:List (List UInt8)): Prop:=n=l.length/\∀j,j<n->∃g o,A=bx ⟨g,o,bw⟩/\w.cell? ⟨g,o+j,bw⟩=bx (bm ⟨(l.getD j []).toArray⟩)
theorem DR.u{w u:bA}{A:Option Addr}{n:Nat}{l:List (List UInt8)}(h:DR w A n l)(T:bH [] w u): DR u A n l:=
 ⟨h.1,λj k=>by
  obtain⟨g,o,e,b⟩:=h.2 j k;exact⟨g,o,e,((bY T).1 g _ (ai b)).t b⟩⟩
def Le(p:List (List UInt8)): List UInt8:=p.flatMap λs=>XA s.length 8++s
theorem aby{l:List (List UInt8)}{k:Nat}(h:k<l.length): Le (l.take (k+1))=Le (l.take k)++XA (l.getD k []).length 8++l.getD k []:=by unfold Le;rw [aT h,List.flatMap_append,List.flatMap_singleton,List.append_assoc,show l.getD k []=l[k] by simp [List.getD,h]]
theorem aa3:∀l:List (List UInt8),8*l.length<=(Le l).length
 | []=>by simp
 |s::l=>by have h:=aa3 l;unfold Le at h ⊢;rw [List.flatMap_cons,aO,aO,En,List.length_cons];omega
theorem aax(l:List (List UInt8))(k:Nat): (Le (l.take k)).length<=(Le l).length:=by have h:=congrArg (λx=>(Le x).length) (List.take_append_drop k l);simp only [Le,List.flatMap_append,aO]at h ⊢;omega
theorem abV(ps:List (List UInt8))(A:Option Addr)(n cap:Nat)(v:(Le ps).length<=100000000000)(w:bA)(j:DR w A n ps)(p:YQ w):
  CR 32 #[bp A n cap] w (bm ⟨(fM ps).toArray⟩):=by
 have G:=j.1;have O:n<=100000000000:=by have:=aa3 ps;omega
 obtain⟨y,q,a5⟩:=lh3 j G (λu (t:bH [] w u)=>adC (Le ps) gn u (p.u t));have x:fM ps=YD (Le ps):=rfl;rw [x];generalize M:(⟨(YD (Le ps)).toArray⟩:BAr)=R at *;clear x j G p;have m:=adl w;have TB:=(tR w).alloc (br #[bo bw,bp bw 0 0] 156);have a7:=lh (acM w);generalize ap:w.alloc (br #[bo bw,bp bw 0 0] 156)=WB at *;clear ap;go_enter func32,ntmps32;go_upto_region 2 with ((with_reducible refine yA 3 (bo (bx ⟨w,0,bw⟩)) WB ?_ ?_);(next=>exact XC (t:=156) rfl a7.o);try go_frame)
 go_wp2;go_loopw [8] (λs8 wx=>∃k:Nat,k<=n/\s8=k/\gJ wx w.heap.size w.heap.size (Le (ps.take k))/\bH [] w wx) (λs8 _=>n-(intOf s8).toNat);case atStart=>exact⟨0,gn,rfl,m,TB⟩
 clear m TB;obtain⟨k,P,rfl,m,TB⟩:=hrel;by_cases H:k<n
 .as_aux_lemma=>
  obtain⟨g,o,rfl,N⟩:=(y.o.u TB).2 k H;have V:=aby (l:=ps) (k:=k) ou;have a:=aax ps (k+1);have J:=aax ps k;rw [V]at a;simp only [aO,En]at a;generalize ps.getD k []=s at *;have ar:(⟨s.toArray⟩:BAr).size=s.length:=rfl;have z:∀u,CR 78 #[(s.length:Int),(8:Int)] u (bm ⟨(XA s.length 8).toArray⟩):=λu=>aaA s.length 8 gn lG lG u;have T:=En s.length 8;generalize XA s.length 8=h,Le (ps.take k)=B,cG:Le (ps.take (k+1))=Q at *;obtain⟨aa,E,U,c,D,Z⟩:=lh6 cG V z (bg a T) (bg m TB) v;clear cG V z a J T m TB y q v;go_wp2_with (first
   |(go_at_call 78;refine mR (U.o _) λI i=>?_)
   |(go_at_call 77;(with_reducible refine (acg _ _ B h _ (D.o.1.u i) (by have:=c.o;have:=Z.o;omega) (by have:=(D.o.2.t i).size;omega)).mono ?_);rintro e L ⟨rfl,C,b⟩;have f:=Yp (D.o.2.t i) b rfl)
   |(go_at_call 77;(with_reducible refine (acg _ _ (B++h) s _ C (by rw [aO];have:=c.o;have:=Z.o;omega) (by have:=f.size;omega)).mono ?_);rintro e W ⟨rfl,F,K⟩;have S:=Yp f K rfl))
  go_roundw;case rel=>exact⟨k+1,gn,by go_num,by rw [aa.o,E.o];exact F,S⟩
  simp [intOf];omega
 obtain rfl:k=n:=gn
 rw [q.o,List.take_length]at m;have D:=lh (bg m TB);clear m TB;go_wp2_with (first
  |(go_at_call 80;(with_reducible refine (adx _ _ _ _ D.o.1 (by have:=D.o.2.size;omega)).mono ?_);rintro e I ⟨rfl,i⟩;have d:=Yp D.o.2 i rfl)
  |(go_at_call 79;refine mR (a5.o _ d) λL b=>?_))
 go_ret;exact⟨rfl,d.t b⟩
def XW(a:List Int): List UInt8:=a.map λz=>z.toNat.toUInt8
theorem aaE{a:List Int}(h:∀v∈a,0<=v/\v<=255): Lib.byteCells (XW a)=a.map (Value.int .u8):=by unfold Lib.byteCells XW;rw [List.map_map];refine List.map_congr_left λz J=>?_;have:=h z J;show Value.int .u8 ((z.toNat.toUInt8).toNat:Int)=_;congr 1;simp;omega
theorem XI{P:Program}{o:Oper}{a:Act}{w w':bA}{t:TypeId}{x0 x1 x2 x3:Operand}{y0 y1 y2 y3 v:bE}(c:o.op=.buildSlice t 4 #[(0,x0),(1,x1),(2,x2),(3,x3)])(e:a.eval x0=y0)(b:a.eval x1=y1)(f:a.eval x2=y2)(g:a.eval x3=y3)
  (C:(Instr.buildSlice t 4 #[(0,y0),(1,y1),(2,y2),(3,y3)]).run P w=.ok v w'):(execOp a.eval o).run P w=.ok (.value v) w':=
 gm c (by simp [e,b,f,g]) C
theorem aaS(a b c d:Int)(V:bA): (Instr.buildSlice 154 4 #[(0,bk .u8 a),(1,bk .u8 b),(2,bk .u8 c),(3,bk .u8 d)]).run bM V=.ok (bp (bx ⟨V,0,bw⟩) 4 4) (V.alloc (br #[bk .u8 a,bk .u8 b,bk .u8 c,bk .u8 d] 5)):=lB
theorem agO{a:List Int}(b:a.length=256)(i:Nat)(m:i<64): (⟨a.map (Value.int .u8)⟩:Array bE).extract (i*4) (i*4+4)=#[bk .u8 (a.getD (i*4) 0),bk .u8 (a.getD (i*4+1) 0),bk .u8 (a.getD (i*4+2) 0),bk .u8 (a.getD (i*4+3) 0)]:=by
 apply Array.ext';simp only [Array.toList_extract,List.extract_eq_take_drop];apply List.ext_getElem?;intro j;by_cases k:j<4
 .have l:j=0\/j=1\/j=2\/j=3:=by omega
  have E:∀q,q<256->a[q]?=bx (a.getD q 0):=λq c=>by simp [List.getD,b,c]
  rw [List.getElem?_take_of_lt gn,List.getElem?_drop,aP,E _ gn];rcases l with rfl|rfl|rfl|rfl<;>rfl
 rw [bC lO,bC lO]
theorem af8{a:List Int}(i:a.length=256)(k:Nat)(d:k<64): a.take (k*4+4)=a.take (k*4)++[a.getD (k*4) 0,a.getD (k*4+1) 0,a.getD (k*4+2) 0,a.getD (k*4+3) 0]:=by
 have E:∀q,(h:q<a.length)->a[q]=a.getD q 0:=λq b=>by simp [List.getD,b]
 rw [aT (show k*4+3<a.length by omega),aT (show k*4+2<a.length by omega),aT (show k*4+1<a.length by omega),aT (show k*4<a.length by omega),E,E,E,E];simp
theorem acZ(a:List Int)(hp:jo a)(w:bA): CR 254 #[tv a] w (bm ⟨(XW a).toArray⟩):=by
 obtain⟨i0,s,a0,a1,a2⟩:=info_parts VG;obtain⟨h,N⟩:=hp;have R:=λi s=>agO h i s;have aD:=λk f=>af8 h k f;have O:=aaE N;have X:(XW a).length=256:=by simp [XW,h]
 have U:a.take 256=a:=by rw [<-h,List.take_length]
 unfold tv;obtain⟨a4,a6,p⟩:=lh3 R aD (bg O (bg X U));clear R aD O X U N;have ac:=bB (P:=bM) _ w.heap.size 80 80 ⟨a.map (Value.int .u8)⟩ (0,0) _ (bz w _) bR rfl (by rw [iE];show bx 256=bx (a.map (Value.int .u8)).length;rw [aJ,h]);have a7:Hid ((⟨a.map (Value.int .u8)⟩:Array bE).size=256):=lh (by show (a.map (Value.int .u8)).length=256;rw [aJ,h]);generalize (⟨a.map (Value.int .u8)⟩:Array bE)=d at *;have L:=(Below.refl w.heap.size w).alloc (aQ _) (br d 80);generalize z:w.alloc (br d 80)=W at *;have M:W.heap.size=w.heap.size+1:=by rw [<-z];simp
 have y:=lh z;clear z;obtain⟨l,bv,V,A⟩:=run_makeSlice_owned (P:=bM) W w.heap.size 154 5 i0 (bk .u8 0) 1 bP s a0 a1 .i64 .i64 256 lG (by rw [a2];decide) (by unfold maxLen;decide) gn;have bv:(Instr.makeSlice 154 (0:Int) (256:Int)).run bM W=.ok (bp (bx ⟨W,0,bw⟩) 0 256) l:=bv;have H:Below w.heap.size w l:=L.grown A gn (λk f=>by cases f);have T:(bL 80 ⟨w,0,bw⟩).run bM l=.ok (bq d) l:=by
  have h1:l.heap[w.heap.size]?=bx (br d 80 (0,0)):=by rw [A.block _ gn lz,<-y.o];exact bz w _
  exact bB (P:=bM) _ w.heap.size 80 80 d (0,0) _ h1 bR rfl (by rw [iE,a7.o])
 have b8:=lh T;clear ac T A L;go_enter func254,ntmps254;go_upto_region 1 with fail
 rw [y.o];go_upto_region 3 with ((with_reducible refine NR (v:=bq d) ?_ 80 (.tmp 1) ?_ ?_ b8.o ?_);(next=>rfl);(next=>rfl);(next=>rfl);try go_frame)
 rw [M]at V;clear bv y b8 M;go_wp2;go_loopw [3,8] (λs3 s8 wr=>∃k:Nat,k<=64/\s8=k/\wr.ownsRow w.heap.size 5 1 s3 (k*4) ((a.take (k*4)).map (Value.int .u8))/\Below w.heap.size w wr) (λ_ s8 _=>64-(intOf s8).toNat);case atStart=>exact⟨0,gn,rfl,V,H⟩
 clear V H;obtain⟨k,f,rfl,V,TB⟩:=hrel;by_cases a5:k<64
 .as_aux_lemma=>
  have Z:=qY d _ k a5 (a4.o k a5);have aD:=a6.o k a5;generalize a.getD (k*4) 0=B,a.getD (k*4+1) 0=J,a.getD (k*4+2) 0=Q,a.getD (k*4+3) 0=D at *;obtain⟨E,HT,G,ba⟩:=lh4 Z aD (bg V TB) (aaS B J Q D);clear Z aD V TB;go_upto_region 5 with ((with_reducible refine yA 10 (bq #[bk .u8 B,bk .u8 J,bk .u8 Q,bk .u8 D]) wr ?_ ?_);(next=>exact abo (t:=80) (x:=.tmp 7) (i:=.tmp 8) rfl rfl rfl (E.o _));try go_frame)
  have n:=bz wr (br #[bk .u8 B,bk .u8 J,bk .u8 Q,bk .u8 D] 45);have TX:=(tR wr).alloc (br #[bk .u8 B,bk .u8 J,bk .u8 Q,bk .u8 D] 45);have am:(wr.alloc (br #[bk .u8 B,bk .u8 J,bk .u8 Q,bk .u8 D] 45)).heap.size=wr.heap.size+1:=lz
  have I:=G.o.2.alloc (o:=br #[bk .u8 B,bk .u8 J,bk .u8 Q,bk .u8 D] 45) G.o.2.size;have OX:=G.o.1.alloc (br #[bk .u8 B,bk .u8 J,bk .u8 Q,bk .u8 D] 45);generalize wr.alloc (br #[bk .u8 B,bk .u8 J,bk .u8 Q,bk .u8 D] 45)=b at *;have k0:b.cell? ⟨wr,0,bw⟩=bx (bk .u8 B):=pl
  have k1:b.cell? ⟨wr,1,bw⟩=bx (bk .u8 J):=pl
  have k2:b.cell? ⟨wr,2,bw⟩=bx (bk .u8 Q):=pl
  have k3:b.cell? ⟨wr,3,bw⟩=bx (bk .u8 D):=pl
  have F:=OX.alloc (br #[bk .u8 B,bk .u8 J,bk .u8 Q,bk .u8 D] 5);have K:=I.alloc (o:=br #[bk .u8 B,bk .u8 J,bk .u8 Q,bk .u8 D] 5) (by have:=G.o.2.size;omega);have ib:=bz b (br #[bk .u8 B,bk .u8 J,bk .u8 Q,bk .u8 D] 5);have c:=lh (bg F (bg K ib));clear n TX I OX F K ib;go_upto_region 6 with (first
   |((with_reducible refine yA 20 (bp (bx ⟨b,0,bw⟩) 4 4) (b.alloc (br #[bk .u8 B,bk .u8 J,bk .u8 Q,bk .u8 D] 5)) ?_ ?_);(next=>exact XI (t:=154) (x0:=.tmp 13) (x1:=.tmp 15) (x2:=.tmp 17) (x3:=.tmp 19) rfl rfl rfl rfl rfl (ba.o _));try go_frame)
   |(at_builtin;refine wpList_append_own _ rfl _ _ 154 rfl w.heap.size 5 i0 (bk .u8 0) 1 1 bP s a0 a1 a2 rfl lG _ _ _ rfl c.o.1 ⟨b,0,bw⟩ 4 4 [bk .u8 B,bk .u8 J,bk .u8 Q,bk .u8 D] rfl rfl ?c1 ?c2 ?c3 ?c4 ?c5 ?_))
  case c1=>
   intro j u C;rw [Addr.add_lit,aA _ _ _ _ _ _ c.o.2.2];simpa using C
  case c2=>
   intro u Y;simp only [aS,List.mem_nil_iff,or_false]at Y;rcases Y with rfl|rfl|rfl|rfl<;>rfl
  case c3=>unfold maxLen;omega
  case c4=>omega
  case c5=>exact c.o.2.1.size
  intro v' w1 ad S _;have a9:Below w.heap.size w w1:=c.o.2.1.grown S (c.o.2.1.size) (λk f=>(c.o.1.lt k f).1);clear c S ba E k0 k1 k2 k3;go_wp2;go_roundw;case rel=>
   refine⟨k+1,gn,by go_num,?_,a9⟩;rw [show (k+1)*4=k*4+4 by omega,HT.o,List.map_append,List.map_take];exact ad
  simp [intOf];omega
 obtain rfl:k=64:=gn
 as_aux_lemma=>
 rw [p.o.2.2,<-p.o.1]at V;have aa:=p.o.2.1;generalize aw:XW a=bs at *;have a3:=lh aw;clear aw;obtain⟨g,m,q,rfl,ab⟩:∃g m q,u3=bp (bx ⟨g,0,bw⟩) 256 m/\wr.heap[g]?=bx (br q 5 (0,0)):=by
  rcases V.2 with ⟨_,h0⟩|⟨g,m,q,e,_,hg,_⟩
  .omega
  exact⟨g,m,q,e,hg⟩
 have a8:=run_convert_bytes_back (P:=bM) wr 154 9 5 ⟨g,0,bw⟩ m bs bP underlying5 underlying9 (λj C=>V.cells rfl j _ (ET _ C));rw [aa]at a8;clear ab p V;go_wp2;go_ret;exact⟨by rw [a3.o];rfl,bH.of_below TB⟩
theorem afh(a:List Int)(b:jo a)(w:bA)(e:YQ w): CR 218 #[tv a] w (bm ⟨(YD (XW a)).toArray⟩):=by
 have a2:=bB (P:=bM) _ w.heap.size 80 80 ⟨a.map (Value.int .u8)⟩ (0,0) _ (bz w _) bR rfl pJ;have Z:=lh (λu=>acZ a b u);have G:=lh (λu (t:bH [] w u)=>adC (XW a) (by simp [XW,b.1]) u (e.u t));have c:=(tR w).alloc (br ⟨a.map (Value.int .u8)⟩ 80);have f:tv a=bq ⟨a.map (Value.int .u8)⟩:=rfl;rw [f]at Z ⊢;generalize (⟨a.map (Value.int .u8)⟩:Array bE)=d at *;obtain⟨W,m⟩:=eX (w.alloc (br d 80));rw [<-m]at a2 c;have b8:=lh a2;have g:=lh m;clear m a2 f e;generalize YD (XW a)=R at *;go_enter func218,ntmps218;go_upto_region 1 with fail
 rw [<-g.o];go_wp2_with (first
  |((with_reducible refine NR (v:=bq d) ?_ 80 (.tmp 1) ?_ ?_ b8.o ?_);(next=>rfl);(next=>rfl);(next=>rfl);try go_frame)
  |(go_at_call 254;refine mR (Z.o _) λj i=>?_)
  |(go_at_call 79;refine mR (G.o _ (c.t i)) λk h=>?_))
 go_ret;exact⟨rfl,(c.t i).t h⟩
