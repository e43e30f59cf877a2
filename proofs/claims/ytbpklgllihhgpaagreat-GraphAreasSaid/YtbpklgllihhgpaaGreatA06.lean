import Derived.Test.YtbpklgllihhgpaaGreatA05
set_option maxRecDepth 100000
set_option maxHeartbeats 16000000
namespace Go.Den
section
variable {P:Program} {α:AM}
def nM(P:Program)(self:jX): Prop:=∀f args m v m1,self f args m=some (v,m1)→∀(α:AM) (w:World) (args':Array Value),lL P α m w→kN α args args'→
 Calls P f args' w fun e w1=>∃β v',e=.returned v'∧VR β v v'∧nY P α m w β m1 w1
theorem pq:VR α undef undef:=VR.refl rfl
theorem BZ(hz:jc P)(hn:uI P){self:jX}(hself:nM P self){E E1:eX}{a:Act}{m m1:dJ}{w:World}{o:Oper}(hr:lL P α m w)(hE:∀x∈o.op.operands,jM E x=true→VR α (ev E x) (a.eval x))(hT:QY P o.op=true)(h:EL P self E o m=some (E1,m1))
  {next:Act→World→Prop} {Q:Exit→Act→World→Prop}
  (k:∀(β:AM) (w1:World) (v v':Value),nY P α m w β m1 w1→VR β v v'→E1=E.put' o.dst v→next (a.put o.dst v') w1):o.wp P a w next Q:=by
 unfold EL at h;cases ho:OZ P E o m with
 | none=>rw [ho]at h;cases h
 | some r=>
  obtain⟨nx,m2⟩:=r;rw [ho]at h;obtain⟨β,nx',w1,r1,r2,r3⟩:=Jm hz hn hr hE hT ho;unfold Oper.wp;rw [r3];cases r1 with
  | @value v v' hv=>
   simp only [eX.put_eq,Option.some.injEq,Prod.mk.injEq]at h;obtain⟨rfl,rfl⟩:=h;exact k β w1 v v' r2 hv rfl
  | skip=>
   simp only [eX.put_eq,Option.some.injEq,Prod.mk.injEq]at h;obtain⟨rfl,rfl⟩:=h;exact k β w1 undef undef r2 pq rfl
  | @enter f x x' hx=>
   simp only at h;cases hs:self f x m2 with
   | none=>rw [hs]at h;cases h
   | some q=>
    obtain⟨v,m3⟩:=q;rw [hs]at h;simp only [eX.put_eq,Option.some.injEq,Prod.mk.injEq]at h;obtain⟨rfl,rfl⟩:=h;refine Calls.mono (hself f x m2 v m3 hs β w1 x' r2.rel hx) ?_;rintro e w2 ⟨γ,v',rfl,hv,hst⟩;exact k γ w2 v v' (r2.trans hst) hv rfl
theorem DN{ops:Array Oper}{E:eX}{a:Act}(o:Oper)(hs:a.tmps.size=E.n)
  (hg:∀j want o' d,o.guard=some (j,want)→ops[j]?=some o'→o'.dst=some d→d<E.n→VR α (E.get d) (a.tmps.getD d undef)):qF ops E o=Region.wanted o (yielded ops a.tmps):=by
 unfold qF Region.wanted;cases hgd:o.guard with
 | none=>rfl
 | some g=>
  obtain⟨j,want⟩:=g;simp only [yielded];cases hoj:ops[j]? with
  | none=>rfl
  | some o'=>
   simp only [Option.bind_some];cases hdst:o'.dst with
   | none=>rfl
   | some d=>
    simp only [Option.bind_some];cases hd:Nat.blt d E.n with
    | false=>
     have:¬d<a.tmps.size:=(by rw [hs];intro e;rw [dR.2 e]at hd;cases hd);rw [Array.getElem?_eq_none (Nat.le_of_not_lt this)];rfl
    | true=>
     have hd':=dR.1 hd;have hlt:d<a.tmps.size:=(by rw [hs];exact hd');have hv:=hg j want o' d hgd hoj hdst hd';rw [Array.getElem?_eq_getElem hlt];simp only [cond_true];have e:a.tmps.getD d undef=a.tmps[d]:=(by simp [hlt]);rw [e]at hv;generalize E.get d=u at *;generalize a.tmps[d]=u' at *;cases hv with
     | bool b=>cases b <;> cases want <;> rfl
     | _=>rfl
theorem PT{ops:Array Oper}{E:eX}{a:Act}(hE:qA α E a.tmps)(o:Oper): qF ops E o=Region.wanted o (yielded ops a.tmps):=
 DN o hE.1 fun _ _ _ d _ _ _ hd=>hE.2 d hd
def Pv(P:Program)(α:AM)(m:dJ)(w:World)(ds:List Deferred)(E1:eX)(m1:dJ)(a1:Act)(w1:World): Prop:=
 ∃β,nY P α m w β m1 w1∧qA β E1 a1.tmps∧a1.defers=ds
theorem nK(a:Act)(d:Option Tmp)(v:Value): (a.put d v).defers=a.defers:=by cases d <;> rfl
theorem qw(hz:jc P)(hn:uI P){self:jX}(hself:nM P self){ops:Array Oper}{Q:Exit→Act→World→Prop}: ∀(l:List Oper) {α:AM} {E E1:eX} {a:Act} {m m1:dJ} {w:World},
  (l.all fun o=>QY P o.op)=true→lL P α m w→qA α E a.tmps→uO P self ops l E m=some (E1,m1)→
  (∀a1 w1,Pv P α m w a.defers E1 m1 a1 w1→Q .normal a1 w1)→wpList P ops Q l a w
 | [],α,E,E1,a,m,m1,w,_,hr,hE,h,k=>by simp only [uO,Option.some.injEq,Prod.mk.injEq]at h;obtain⟨rfl,rfl⟩:=h;exact k a w ⟨α,.refl hr,hE,rfl⟩
 | o :: rest,α,E,E1,a,m,m1,w,hT,hr,hE,h,k=>by
  rw [List.all_cons,Bool.and_eq_true]at hT;unfold uO at h;unfold wpList;rw [←PT hE o];cases hw:qF ops E o with
  | true=>
   rw [hw,cond_true]at h;simp only [if_true];cases ho:EL P self E o m with
   | none=>rw [ho]at h;cases h
   | some q=>
    obtain⟨E2,m2⟩:=q;rw [ho]at h;refine .inl (BZ hz hn hself hr (fun x _ hx=>hE.ev hx) hT.1 ho ?_);intro β w1 v v' hst hv he;have hE2:qA β E2 (a.put o.dst v').tmps:=(by rw [he];exact (hE.mono hst.le).put _ hv);refine qw hz hn hself rest hT.2 hst.rel hE2 h ?_;rintro a1 w2 ⟨γ,h1,h2,h3⟩;exact k a1 w2 ⟨γ,hst.trans h1,h2,by rw [h3,nK]⟩
  | false=>
   rw [hw,cond_false,eX.put_eq]at h;simp only [Bool.false_eq_true,if_false];refine qw hz hn hself rest hT.2 hr (hE.put _ pq) h ?_;rintro a1 w2 ⟨γ,h1,h2,h3⟩;exact k a1 w2 ⟨γ,h1,h2,by rw [h3,nK]⟩
theorem ng{A:Type}{D:Nat→Bool}: ∀(s:Sem A) (m:dJ) {a:A},iR P D s m=some a→dO P s m=some (a,m)
 | .pure _,_,_,h=>by cases h;rfl
 | .load _ x k,m,a,h=>by
  simp only [iR]at h;have h0:=dE h;obtain⟨-,h⟩:=h0;simp only [dO];cases hc:m.cell x with
  | none=>rw [hc]at h;cases h
  | some v=>rw [hc]at h;exact ng (k v) m h
 | .getObj r k,m,a,h=>by
  simp only [iR]at h;have h0:=dE h;obtain⟨-,h⟩:=h0;simp only [dO];split at h
  ·rename_i o ho;rw [ho];exact ng (k o) m h
  cases h
 | .program k,m,a,h=>ng (k P) m h
 | .mark _ k,m,a,h=>ng k m h
 | .store ..,_,_,h=>by cases h
 | .new ..,_,_,h=>by cases h
 | .shape ..,_,_,h=>by cases h
 | .freeze ..,_,_,h=>by cases h
 | .frozen ..,_,_,h=>by cases h
 | .setObj ..,_,_,h=>by cases h
 | .choose ..,_,_,h=>by cases h
 | .sys ..,_,_,h=>by cases h
 | .halt _,_,_,h=>by cases h
theorem uV.cell{m:dJ}{w:World}{b off:Nat}{L:pY}(hob:∀o,m.t.get b=some o→uV P α L w o){v:Value}(hc:m.cell ⟨b,off,none⟩=some v):
  ∃v',w.cell? ⟨L.blk,L.sh+off,none⟩=some v'∧VR α v v':=by
 simp only [dJ.cell]at hc;split at hc
 ·rename_i c n e g hg;cases ho:Nat.blt off n with
  | false=>rw [ho]at hc;simp at hc
  | true=>
   rw [ho,cond_true]at hc;obtain⟨cc,e',lo,hi,h1,h2,h3,h4,h5,h7⟩:=hob _ hg;obtain⟨u,u',a1,a2,a3⟩:=h7 off (dR.1 ho);rw [hc]at a1;cases a1;exact⟨u',by simp [World.cell?,h1,a2],a3⟩
 cases hc
theorem wG{A B:Type}{R:AM→A→B→Prop}{D:Nat→Bool}{s:Sem A}{s':Sem B}(h:fU P R α s s'):
  ∀(m:dJ) (w:World) (a:A),(∀b o L,D b=true→m.t.get b=some o→α b=some L→uV P α L w o)→iR P D s m=some a→∃b,R α a b∧s'.run P w=.ok b w:=by
 induction h with
 | pure h=>intro m w a _ he;cases he;exact⟨_,h,rfl⟩
 | @load α md md' k k' b off L h _ ih=>
  intro m w a hD he;simp only [iR]at he;have h0:=dE he;clear he;obtain⟨hd,he⟩:=h0;cases hc:m.cell ⟨b,off,none⟩with
  | none=>rw [hc]at he;cases he
  | some v=>
   rw [hc]at he;obtain⟨v',h1,h2⟩:=uV.cell (fun o ho=>hD b o L hd ho h) hc;obtain⟨b',r1,r2⟩:=ih v v' h2 m w a hD he;exact⟨b',r1,by simp only [Sem.run,h1];exact r2⟩
 | @getObj α k k' r L h _ ih=>
  intro m w a hD he;simp only [iR]at he;have h0:=dE he;clear he;obtain⟨hd,he⟩:=h0;split at he
  ·rename_i o hg;obtain⟨h0,o',h1,h2⟩:=hD r _ L hd hg h;obtain⟨b',r1,r2⟩:=ih o o' h2 m w a hD he;exact⟨b',r1,by cases h2 <;> (simp only [Sem.run,h1];exact r2)⟩
  cases he
 | @getBad α k s' r L h hs=>
  intro m w a hD he;simp only [iR]at he;have h0:=dE he;clear he;obtain⟨hd,he⟩:=h0;split at he
  ·rename_i o hg;obtain⟨h0,_⟩:=hD r _ L hd hg h;exact absurd h0 hs
  cases he
 | program _ ih=>intro m w a hD he;exact ih m w a hD he
 | mark _ ih=>intro m w a hD he;exact ih m w a hD he
 | dead h=>intro m w a _ he;have:=ng _ _ he;rw [h m]at this;cases this
 | store=>intro m w a _ he;cases he
 | newCells=>intro m w a _ he;cases he
 | newObj=>intro m w a _ he;cases he
 | setObj=>intro m w a _ he;cases he
end
section
variable {P:Program} {α:AM}
theorem lg{A:Type}{D:Nat→Bool}: ∀(s:Sem A) (m:dJ) {a:A},gq P s=some a→iR P D s m=some a
 | .pure _,_,_,h=>h
 | .program k,m,_,h=>lg (k P) m h
 | .mark _ k,m,_,h=>lg k m h
 | .load ..,_,_,h=>by cases h
 | .store ..,_,_,h=>by cases h
 | .new ..,_,_,h=>by cases h
 | .shape ..,_,_,h=>by cases h
 | .freeze ..,_,_,h=>by cases h
 | .frozen ..,_,_,h=>by cases h
 | .getObj ..,_,_,h=>by cases h
 | .setObj ..,_,_,h=>by cases h
 | .choose ..,_,_,h=>by cases h
 | .sys ..,_,_,h=>by cases h
 | .halt _,_,_,h=>by cases h
theorem Iz{A B:Type}{R:AM→A→B→Prop}{s:Sem A}{s':Sem B}(h:fU P R α s s')(w:World){a:A}(he:gq P s=some a): ∃b,R α a b∧s'.run P w=.ok b w:=
 wG (D:=fun _=>false) h ⟨.e,0⟩ w a (fun _ _ _ h=>by cases h) (lg s _ he)
theorem IB(w:World)(o:Obj): (w.alloc o).heap[w.heap.size]?=some o:=by show (w.heap.push o)[w.heap.size]?=some o;simp
theorem xI{A:Type}: ∀(s:Sem A) (m:dJ) {a:A} {ob:Ob},ER P s m.next=some (a,ob)→∃m',dO P s m=some (a,m')
 | .new o k,m,a,ob,h=>by
  have key:∀{x:A} (m':dJ),gq P (k m.next)=some x→dO P (k m.next) m'=some (x,m'):=fun m' e=>ng (D:=fun _=>false) _ _ (lg _ _ e);cases o with
  | cells c e fz=>
   simp only [ER]at h;split at h
   ·cases hp:gq P (k m.next)with
    | none=>rw [hp]at h;cases h
    | some x=>
     rw [hp]at h;simp only [jl,dW,Option.some.injEq,Prod.mk.injEq]at h;obtain⟨rfl,-⟩:=h;exact⟨_,by simp only [dO,jl,dW,dJ.push_eq];exact key _ hp⟩
   cases h
  | map es cl=>
   simp only [ER]at h;cases hp:gq P (k m.next)with
   | none=>rw [hp]at h;cases h
   | some x=>
    rw [hp]at h;cases h;exact⟨_,by simp only [dO,dJ.push_eq];exact key _ hp⟩
  | _=>cases h
 | .program k,m,a,ob,h=>xI (k P) m h
 | .mark _ k,m,a,ob,h=>xI k m h
 | .pure _,_,_,_,h=>by cases h
 | .load ..,_,_,_,h=>by cases h
 | .store ..,_,_,_,h=>by cases h
 | .shape ..,_,_,_,h=>by cases h
 | .freeze ..,_,_,_,h=>by cases h
 | .frozen ..,_,_,_,h=>by cases h
 | .getObj ..,_,_,_,h=>by cases h
 | .setObj ..,_,_,_,h=>by cases h
 | .choose ..,_,_,_,h=>by cases h
 | .sys ..,_,_,_,h=>by cases h
 | .halt _,_,_,_,h=>by cases h
theorem EG{nx:Nat}(h:α nx=none)(L:pY): Le α (ext α nx L):=by intro b L' hb;rw [nI _ _ (fun e=>by subst e;rw [h]at hb;cases hb)];exact hb
theorem RF{A B:Type}{R:AM→A→B→Prop}{s:Sem A}{s':Sem B}(h:fU P R α s s'):
  ∀(nx:Nat) (w:World) (a:A) (ob:Ob),α nx=none→ER P s nx=some (a,ob)→
   ∃b o' L,L.blk=w.heap.size∧R (ext α nx L) a b∧s'.run P w=.ok b (w.alloc o')∧uV P (ext α nx L) L (w.alloc o') ob∧lU ob:=by
 induction h with
 | @newCells α cs cs' e e' k k' h hk _=>
  intro nx w a ob hn he;simp only [ER]at he;cases hp:gq P (k nx)with
  | none=>rw [hp]at he;cases he
  | some x=>
   rw [hp]at he;simp only [jl,dW,Option.some.injEq,Prod.mk.injEq]at he;obtain⟨rfl,rfl⟩:=he;have hle:=EG hn ⟨w.heap.size,0,cs.size⟩;obtain⟨b,r1,r2⟩:=Iz (hk (ext α nx ⟨w.heap.size,0,cs.size⟩) nx ⟨w.heap.size,0,cs.size⟩ hle (jw _ _ _) rfl rfl) (w.alloc (.cells cs' e' (0,0))) hp;refine⟨b,.cells cs' e' (0,0),⟨w.heap.size,0,cs.size⟩,rfl,r1,r2,?_,trivial⟩;refine⟨cs',e',0,0,IB _ _,by simp [h.1],by simp,fun i _=>by omega,fun _=>⟨rfl,rfl⟩,fun i hi=>?_⟩;refine⟨cs[i],cs'[i]'(by rw [←h.1];exact hi),?_,?_,(h.2 i hi (by rw [←h.1];exact hi)).mono hle⟩
   ·rw [qg,if_pos (by simpa using hi)];simp [hi]
   rw [Array.getElem?_eq_getElem (by rw [←h.1];simpa using hi)];simp
 | @newObj α o o' k k' h hk _=>
  intro nx w a ob hn he;have he':∃x,gq P (k nx)=some x∧a=x∧ob=.obj o:=by
   cases h with
   | map h cl=>
    simp only [ER]at he;cases hp:gq P (k nx)with
    | none=>rw [hp]at he;cases he
    | some x=>rw [hp]at he;cases he;exact⟨_,rfl,rfl,rfl⟩
   | siter x p=>cases he
  obtain⟨x,hp,rfl,rfl⟩:=he';have hle:=EG hn ⟨w.heap.size,0,0⟩;obtain⟨b,r1,r2⟩:=Iz (hk (ext α nx ⟨w.heap.size,0,0⟩) nx ⟨w.heap.size,0,0⟩ hle (jw _ _ _) rfl) (w.alloc o') hp;exact⟨b,o',⟨w.heap.size,0,0⟩,rfl,r1,r2,⟨rfl,o',IB _ _,h.mono hle⟩,trivial⟩
 | program _ ih=>intro nx w a ob hn he;exact ih nx w a ob hn he
 | mark _ ih=>intro nx w a ob hn he;exact ih nx w a ob hn he
 | dead h=>
  intro nx w a ob _ he;obtain⟨m',hm⟩:=xI _ ⟨.e,nx⟩ he;rw [h]at hm;cases hm
 | pure=>intro nx w a ob _ he;cases he
 | load=>intro nx w a ob _ he;cases he
 | store=>intro nx w a ob _ he;cases he
 | getObj=>intro nx w a ob _ he;cases he
 | getBad=>intro nx w a ob _ he;cases he
 | setObj=>intro nx w a ob _ he;cases he
theorem Be{E:eX}{o:Op}(h:JC E o=true): lI E o=true:=by
 cases o <;> first | exact h | rfl | (simp [JC]at h;done) | skip
 case makeFunc fn x y=>cases fn <;> first | rfl | (simp [JC]at h)
 case call c=>
  simp only [JC,lI,Eh]at h ⊢;split at h
  ·rename_i hc;rw [hc];exact h
  cases h
theorem Jh{E:eX}{o:Op}(h:TN o=true): lI E o=true:=by
 cases o <;> first | exact h | rfl | (simp [TN]at h;done) | skip
 case makeMap t r=>cases r <;> first | rfl | (simp [TN]at h)
theorem gJ{A C:Type}{D:Nat→Bool}(f:A→Sem C): ∀(s:Sem A) (m:dJ) {a:A},iR P D s m=some a→iR P D (s.bind f) m=iR P D (f a) m
 | .pure _,_,_,h=>by cases h;rfl
 | .program k,m,_,h=>gJ f (k P) m h
 | .mark _ k,m,_,h=>gJ f k m h
 | .load md a k,m,_,h=>by
  simp only [iR]at h;obtain⟨hd,h⟩:=dE h;simp only [Sem.bind,iR,hd,cond_true];cases hc:m.cell a with
  | none=>rw [hc]at h;cases h
  | some v=>rw [hc]at h;exact gJ f (k v) m h
 | .getObj r k,m,_,h=>by
  simp only [iR]at h;obtain⟨hd,h⟩:=dE h;simp only [Sem.bind,iR,hd,cond_true];split at h
  ·rename_i o ho;exact gJ f (k o) m h
  cases h
 | .store ..,_,_,h=>by cases h
 | .new ..,_,_,h=>by cases h
 | .shape ..,_,_,h=>by cases h
 | .freeze ..,_,_,h=>by cases h
 | .frozen ..,_,_,h=>by cases h
 | .setObj ..,_,_,h=>by cases h
 | .choose ..,_,_,h=>by cases h
 | .sys ..,_,_,h=>by cases h
 | .halt _,_,_,h=>by cases h
theorem nU{D:Nat→Bool}{m:dJ}{b off:Nat}(hD:D b=true): ∀(r:List Value) (i:Nat) (acc:Array Value),(∀j,j<r.length→m.cell ⟨b,off+i+j,none⟩=r[j]?)→
  iR P D (loadCellsFrom ⟨b,off,none⟩ i r.length acc) m=some (acc ++ r.toArray)
 | [],i,acc,_=>by simp [loadCellsFrom,iR,pure]
 | v :: r,i,acc,h=>by
  have h0:=h 0 (by simp);simp only [Nat.add_zero,List.getElem?_cons_zero]at h0;show iR P _ ((load (Addr.add ⟨b,off,none⟩ i)).bind _) m=_;have e:iR P D (load (Addr.add ⟨b,off,none⟩ i)) m=some v:=by rw [jR];simp only [load,iR,hD,cond_true];rw [h0]
  rw [gJ _ _ m e];rw [nU hD r (i+1) (acc.push v) fun j hj=>by
   have:=h (j+1) (by simpa using hj);rw [List.getElem?_cons_succ]at this;rw [←this];congr 2;omega]
  simp
theorem Am{D:Nat→Bool}{m:dJ}{t:TypeId}{b off:Nat}{v:Value}(h:EN P m t b off=some v)(hD:D b=true): iR P D (loadVar t ⟨b,off,none⟩) m=some v:=by
 unfold EN at h;unfold loadVar;split at h
 ·rename_i n hn;obtain⟨ha,hs⟩:=pV hn;have ha':=lg (D:=D) _ m ha;have hs':=lg (D:=D) _ m hs;split at h
  ·rename_i c N e g hb;split at h
   ·rename_i l;obtain⟨hN,h⟩:=dE h;have hN:=Nat.le_of_ble_eq_true hN;rw [vT,sJ]at h;split at h
    ·rename_i hl;cases h;show iR P _ ((isAgg t).bind _) m=_;rw [gJ _ _ m ha'];simp only [if_true];show iR P _ ((sizeOf t).bind _) m=_;rw [gJ _ _ m hs'];have hlen:((l.drop off).take n).length=n:=(by rw [List.length_take];omega);have:=nU (P:=P) (m:=m) (b:=b) (off:=off) hD ((l.drop off).take n) 0 #[] (fun j hj=>by
      have hj':j<n:=(by rw [hlen]at hj;exact hj);rw [zO (off:=off+0+j) hb (by omega),Tr.get_L];rw [List.getElem?_take,if_pos hj',List.getElem?_drop];congr 1)
     rw [hlen]at this;show iR P _ ((loadCells ⟨b,off,none⟩ n).bind _) m=_;unfold loadCells;rw [gJ _ _ m this];simp [iR,pure]
    cases h
   cases h
  cases h
 obtain⟨ho,h⟩:=dE h;have ha:gq P (isAgg t)=some false:=by
  unfold FY at ho;split at ho
  ·assumption
  cases ho
 have ha':=lg (D:=D) _ m ha;show iR P _ ((isAgg t).bind _) m=_;rw [gJ _ _ m ha'];simp only [Bool.false_eq_true,if_false,load,iR,hD,cond_true,h]
theorem EQ (hz : jc P) {E : eX} {a : Act} {m : dJ} {w : World} {o : Oper} {v : Value} (hE : ∀ x ∈ o.op.operands, jM E x = true → VR α (ev E x) (a.eval x))
    (hD : ∀ b ob L, qV (foot E o.op) b = true → m.t.get b = some ob → α b = some L → uV P α L w ob) (hT : QY P o.op = true) (h : JZ P E o m = some v) : ∃ v', VR α v v' ∧ (execOp a.eval o).run P w = .ok (.value v') w := by
  unfold JZ at h
  simp only [pR] at h
  have h0 := dE h
  clear h
  obtain ⟨hok0, h⟩ := h0
  have hok : ∀ x ∈ o.op.operands, VR α (ev E x) (a.eval x) := fun x hx => hE x hx (List.all_eq_true.1 hok0 x (by simpa using hx))
  clear hok0
  cases hs : JC E o.op with
  | true =>
    rw [hs, cond_true] at h
    split at h
    · rename_i v1 hv
      cases h
      obtain ⟨nx, r1, r2⟩ := wG (sG hz hok (Be hs) hT) m w _ hD hv
      cases r1 with
      | @value _ v' hv' => exact ⟨v', hv', r2⟩
    · cases h
  | false =>
  rw [hs, cond_false] at h
  cases hg : Gz E o.op with
  | true =>
    rw [hg, cond_true] at h
    simp only [Gz, Bool.and_eq_true] at hg
    have hgr : ∀ x ∈ o.op.operands, a.eval x = ev E x := fun x hx => VR.eq (List.all_eq_true.1 hg.2 x (by simpa using hx)) (hok x hx)
    split at h
    case h_2 => cases h
    rename_i v1 hv
    have h0 := dE h
    clear h
    obtain ⟨hgv, h⟩ := h0
    cases h
    refine ⟨v, VR.refl hgv, ?_⟩
    have hc : execOp a.eval o = execOp (ev E) o := execOp_congr o (fun cs b e => by rw [e] at hg; simp at hg) hgr
    rw [hc]
    exact wJ _ w hv
  | false =>
  rw [hg, cond_false] at h
  obtain ⟨dst, op, type, pos, after, guard⟩ := o
  have one : ∀ {x : Operand}, x ∈ op.operands → VR α (ev E x) (a.eval x) := fun hx => hok _ hx
  simp only at h
  split at h
  · rename_i t x lo hi mx
    have hl := mV (E := E) (a := a) (x := lo) (by intro y e; subst e; exact one (x := y) (by simp [Op.operands]))
    have hh := mV (E := E) (a := a) (x := hi) (by intro y e; subst e; exact one (x := y) (by simp [Op.operands]))
    have hm := mV (E := E) (a := a) (x := mx) (by intro y e; subst e; exact one (x := y) (by simp [Op.operands]))
    obtain ⟨v', r1, r2⟩ := wF (w := w) (one (x := x) (by simp [Op.operands])) hl hh hm h
    refine ⟨v', r1, ?_⟩
    show ((Instr.sliceAt t (a.eval x) (lo.map a.eval) (hi.map a.eval) (mx.map a.eval)) >>= fun v => pure (Next.value v)).run P w = _
    rw [Sem.run_bind, r2]; rfl
  · rename_i bop t x y yt
    unfold TP at h
    split at h
    case h_2 => cases h
    rename_i d hd
    split at h
    case h_2 => cases h
    rename_i r hnil
    have hx := one (x := x) (by simp [Op.operands])
    have hy := one (x := y) (by simp [Op.operands])
    have hrun := DV (P := P) (w := w) (ox := x) (oy := y) hd (by
      intro hcst
      simp only [Bool.or_eq_true] at hcst
      rcases hcst with hcst | hcst
      · cases x <;> first | exact .inl ⟨_, rfl⟩ | cases hcst
      · cases y <;> first | exact .inr ⟨_, rfl⟩ | cases hcst) (Dh hx hy hnil)
    split at h
    · cases h
      refine ⟨.bool r, .bool _, ?_⟩
      show ((do eqGuard .eql t x y (a.eval x) (a.eval y); binOp .eql t (a.eval x) (a.eval y)) >>= fun v => pure (Next.value v)).run P w = _
      rw [Sem.run_bind, hrun.1]; rfl
    · cases h
      refine ⟨.bool (!r), .bool _, ?_⟩
      show ((do eqGuard .neq t x y (a.eval x) (a.eval y); binOp .neq t (a.eval x) (a.eval y)) >>= fun v => pure (Next.value v)).run P w = _
      rw [Sem.run_bind, hrun.2]; rfl
    · cases h
  · cases h
theorem Fg(hz:jc P){E:eX}{a:Act}{m:dJ}{w:World}{o:Oper}{v:Value}(hE:∀x∈o.op.operands,jM E x=true→VR α (ev E x) (a.eval x))
  (hD:∀b ob L,qV (foot E o.op) b=true→m.t.get b=some ob→α b=some L→uV P α L w ob) (hT:QY P o.op=true) (h:Aj P E o m=some v):∃v',VR α v v'∧(execOp a.eval o).run P w=.ok (.value v') w:=by
 obtain⟨d,op,t,p,af,g⟩:=o;unfold Aj at h;simp only at h hE hD hT;cases hf:fq P E m op with
 | none=>rw [hf]at h;exact EQ hz hE hD hT h
 | some u=>
  rw [hf]at h;cases h;have fin:(∀x∈op.operands,jM E x=true)→JC E op=true→iR P (qV (foot E op)) (BO E ⟨d,op,t,p,af,g⟩) m=some (.value v)→∃v',VR α v v'∧(execOp a.eval ⟨d,op,t,p,af,g⟩).run P w=.ok (.value v') w:=by
   intro hok hs hv;rw [pR]at hv;obtain⟨nx,r1,r2⟩:=wG (sG hz (o:=⟨d,op,t,p,af,g⟩) (fun x hx=>hE x hx (hok x hx)) (Be hs) hT) m w _ hD hv;cases r1 with
   | @value _ v' hv'=>exact⟨v',hv',r2⟩
  cases op with
  | move x=>
   obtain⟨h1,h2⟩:=gu (r:=v) hf;exact fin (by simpa [Op.operands]using h1) rfl (by cases h2;rfl)
  | assign x=>
   obtain⟨h1,h2⟩:=gu (r:=v) hf;exact fin (by simpa [Op.operands]using h1) rfl (by cases h2;rfl)
  | load ty x=>
   obtain⟨h1,h2⟩:=gu (r:=v) hf;refine fin (by simpa [Op.operands]using h1) rfl ?_;split at h2
   ·rename_i b off hv;have hft:qV (foot E (.load ty x)) b=true:=(by simp only [foot,hv,qV];exact Nat.beq_refl b);have:=Am (D:=qV (foot E (.load ty x))) h2 hft;show iR P _ (Sem.bind (Instr.loadAt ty (ev E x)) _) m=_;rw [hv];have e:iR P (qV (foot E (.load ty x))) (Instr.loadAt ty (.pointer (some ⟨b,off,none⟩))) m=some v:=this;rw [gJ _ _ m e];rfl
   cases h2
  | build ty parts=>
   simp only [fq]at hf;split at hf
   ·rename_i nx m2 hb;obtain⟨q1,q2⟩:=GH hb;split at hf
    ·cases hf;exact fin q1 rfl (lg _ m q2)
    cases hf
   cases hf
  | _=>cases hf
theorem Ku(hz:jc P){E:eX}{a:Act}{id:Nat}{w:World}{o:Oper}{v:Value}{ob:Ob}(hE:∀x∈o.op.operands,jM E x=true→VR α (ev E x) (a.eval x))
  (hn:α id=none) (hT:QY P o.op=true) (h:PG P E o id=some (v,ob)) :
  ∃v' o' L,L.blk=w.heap.size∧VR (ext α id L) v v'∧(execOp a.eval o).run P w=.ok (.value v') (w.alloc o')∧uV P (ext α id L) L (w.alloc o') ob∧lU ob:=by
 unfold PG at h;simp only [pR]at h;have h0:=dE h;clear h;obtain⟨hok0,h⟩:=h0;simp only [Bool.and_eq_true]at hok0;have hok:∀x∈o.op.operands,VR α (ev E x) (a.eval x):=fun x hx=>hE x hx (List.all_eq_true.1 hok0.1 x (by simpa using hx));split at h
 ·rename_i v1 ob1 hv;cases h;obtain⟨nx,o',L,r1,r2,r3,r4,r5⟩:=RF (sG hz hok (Jh hok0.2) hT) id w _ _ hn hv;cases r2 with
  | @value _ v' hv'=>exact⟨v',o',L,r1,hv',r3,r4,r5⟩
 cases h
end
section
variable {P:Program}
inductive pJ(ops:Array Oper): Nat→Nat→Prop where
 | one {j:Nat} {o:Oper} {e:Edge} (ho:ops[j]?=some o) (he:e∈o.after.toList) (hb:Region.binds .any e=true):pJ ops j e.on
 | step {i j k:Nat} (h:pJ ops i j) (h':pJ ops j k):pJ ops i k
def RS(ops:Array Oper)(S:Nat→Bool): Prop:=∀j o,ops[j]?=some o→S j=true→∀e∈o.after.toList,Region.binds .any e=true→S e.on=true
theorem RS.path{ops:Array Oper}{S:Nat→Bool}(h:RS ops S){j i:Nat}(p:pJ ops j i): S j=true→S i=true:=by
 induction p with
 | one ho he hb=>exact fun hj=>h _ _ ho hj _ he hb
 | step _ _ ih ih'=>exact fun hj=>ih' (ih hj)
theorem qR{o:Oper}{j:Nat}: wO o j=true↔∃e∈o.after.toList,Region.binds .any e=true∧e.on=j:=by
 unfold wO;rw [List.any_eq_true];constructor
 ·rintro⟨e,he,h⟩;simp only [Bool.and_eq_true]at h;exact⟨e,he,h.1,Nat.eq_of_beq_eq_true h.2⟩
 rintro⟨e,he,h1,h2⟩;exact⟨e,he,by simp [h1,h2]⟩
def uh(P:Program)(a b:Option Ob): Prop:=(∃o,a=some o)∧(∃o,b=some o)∧∀(α:AM) (L:pY) (w:World),(∃o,a=some o∧uV P α L w o)↔∃o,b=some o∧uV P α L w o
inductive Aa(P:Program)(self:jX)(ops:Array Oper)(o:Oper)(id:Nat)(E:eX)(m:dJ): Kd→eX→dJ→Prop where
 | skip (hw:qF ops E o=false):Aa P self ops o id E m .skip (E.put' o.dst undef) m
 | quiet {v:Value} (hw:qF ops E o=true) (h:Aj P E o m=some v):Aa P self ops o id E m (.quiet (foot E o.op)) (E.put' o.dst v) m
 | new {v:Value} {ob:Ob} (hw:qF ops E o=true) (h:PG P E o id=some (v,ob)):Aa P self ops o id E m .new (E.put' o.dst v) ⟨Tr.set (id+1) m.t id ob,m.next⟩
 | eff {v:Value} {m':dJ} (hw:qF ops E o=true) (h:EL P self E o m=some (E.put' o.dst v,m')) (hle:m.next≤m'.next):Aa P self ops o id E m .eff (E.put' o.dst v) m'
structure DR(P:Program)(slf:jX)(ops:Array Oper)(base:Nat)(E:Nat→eX)(M:Nat→dJ)(kd:Nat→Kd): Prop where
 step:∀i o,ops[i]?=some o→Aa P slf ops o (base+i) (E i) (M i) (kd i) (E (i+1)) (M (i+1))
 far:∀i,ops.size≤i→kd i=.skip
 stat:∀i o,ops[i]?=some o→uz ops.toList o i=true
 chain:∀i j,i<j→kd i=.eff→kd j=.eff→pJ ops j i
 stable:∀i b,kd i=.quiet (some b)→∀e,kd e=.eff→e≠i→(i<e∧pJ ops e i)∨(e<i∧pJ ops i e)∨(M e).next≤b∨uh P ((M e).t.get b) ((M (e+1)).t.get b)
 next0:(M 0).next=base+ops.size
section
variable {self:jX} {ops:Array Oper} {base:Nat} {E:Nat→eX} {M:Nat→dJ} {kd:Nat→Kd} (D:DR P self ops base E M kd)
include D
theorem DR.lt{i:Nat}(h:kd i≠.skip): i<ops.size:=by
 rcases Nat.lt_or_ge i ops.size with h' | h'
 ·exact h'
 exact absurd (D.far i h') h
omit D in
theorem Jn{i:Nat}(h:i<ops.size): ∃o,ops[i]?=some o:=⟨ops[i],Array.getElem?_eq_getElem h⟩
theorem DR.next_le{i:Nat}(h:i<ops.size): (M i).next≤(M (i+1)).next:=by
 obtain⟨o,ho⟩:=Jn h;have:=D.step i o ho;generalize M (i+1)=m' at *;generalize E (i+1)=e' at *;generalize kd i=k at *;cases this with
 | skip=>exact Nat.le_refl _
 | quiet=>exact Nat.le_refl _
 | new=>exact Nat.le_refl _
 | eff _ _ h=>exact h
theorem DR.next_mono{i j:Nat}(h:i≤j)(hj:j≤ops.size): (M i).next≤(M j).next:=by
 induction h with
 | refl=>exact Nat.le_refl _
 | step _ ih=>exact Nat.le_trans (ih (by omega)) (D.next_le (by omega))
theorem DR.base_le{i j:Nat}(hj:j≤ops.size)(hi:i<ops.size): base+i<(M j).next:=by have:=D.next_mono (Nat.zero_le j) hj;rw [D.next0]at this;omega
theorem DR.float{i:Nat}(h:kd i≠.eff)(hi:i<ops.size): (M (i+1)).next=(M i).next∧∀b,(b≠base+i∨kd i≠.new)→(M (i+1)).t.get b=(M i).t.get b:=by
 obtain⟨o,ho⟩:=Jn hi;have:=D.step i o ho;generalize M (i+1)=m' at *;generalize E (i+1)=e' at *;generalize kd i=k at *;cases this with
 | skip=>exact⟨rfl,fun _ _=>rfl⟩
 | quiet=>exact⟨rfl,fun _ _=>rfl⟩
 | new=>
  refine⟨rfl,fun b hb=>?_⟩;have hb:b≠base+i:=hb.resolve_right (fun h=>h rfl);dsimp only;rw [fA,if_neg hb]
 | eff=>exact absurd rfl h
theorem DR.floats{i j:Nat}(hij:i≤j)(hj:j≤ops.size)(h:∀k,i≤k→k<j→kd k≠.eff):
  (M j).next=(M i).next∧∀b,(∀k,i≤k→k<j→kd k=.new→b≠base+k)→(M j).t.get b=(M i).t.get b:=by
 induction hij with
 | refl=>exact⟨rfl,fun _ _=>rfl⟩
 | @step j hij ih=>
  obtain⟨h1,h2⟩:=ih (by omega) fun k a b=>h k a (by omega);obtain⟨h3,h4⟩:=D.float (h j hij (by omega)) (by omega);refine⟨h3.trans h1,fun b hb=>?_⟩;rw [h4 b,h2 b fun k a c d=>hb k a (by omega) d];by_cases e:kd j=.new
  ·exact .inl (hb j hij (by omega) e)
  exact .inr e
theorem DR.En{i:Nat}(h:i<ops.size): (E (i+1)).n=(E i).n:=by
 obtain⟨o,ho⟩:=Jn h;have key:∀(x:eX) (d:Option Tmp) (v:Value),(x.put' d v).n=x.n:=by
  intro x d v;unfold eX.put';cases d with
  | none=>rfl
  | some d=>simp only [];cases Nat.blt d x.n <;> rfl
 have:=D.step i o ho;generalize M (i+1)=m' at *;generalize E (i+1)=e' at *;generalize kd i=k at *;cases this <;> exact key _ _ _
theorem DR.En0{i:Nat}(h:i≤ops.size): (E i).n=(E 0).n:=by
 induction i with
 | zero=>rfl
 | succ i ih=>exact (D.En (by omega)).trans (ih (by omega))
omit D in
theorem QC(x:eX)(d:Option Tmp)(v:Value)(t:Nat)(h:d≠some t): (x.put' d v).get t=x.get t:=by
 unfold eX.put';cases d with
 | none=>rfl
 | some d=>
  have hne:t≠d:=fun e=>h (by rw [e]);simp only [];cases Nat.blt d x.n with
  | false=>rfl
  | true=>simp only [cond_true,eX.get,Tr.get_set _ _ _ _ _ (Nat.lt_succ_self d),if_neg hne]
omit D in
theorem NS(x:eX)(t:Nat)(v:Value)(h:t<x.n): (x.put' (some t) v).get t=v:=by unfold eX.put';simp only [dR.2 h,cond_true,eX.get,Tr.get_set _ _ _ _ _ (Nat.lt_succ_self t),if_true]
theorem DR.Eget1{i t:Nat}{o:Oper}(ho:ops[i]?=some o)(h:o.dst≠some t): (E (i+1)).get t=(E i).get t:=by have:=D.step i o ho;generalize M (i+1)=m' at *;generalize E (i+1)=e' at *;generalize kd i=k at *;cases this <;> exact QC _ _ _ _ h
end
noncomputable def uX(ops:Array Oper)(E:Nat→eX)(S:Nat→Bool)(t:Nat): Value:=
 match jF ops.toList t 0 with
 | some j=>bif S j then (E ops.size).get t else (E 0).get t
 | none=>(E 0).get t
section
variable {self:jX} {ops:Array Oper} {base:Nat} {E:Nat→eX} {M:Nat→dJ} {kd:Nat→Kd} (D:DR P self ops base E M kd)
include D
theorem DR.dst{i t:Nat}{o:Oper}(ho:ops[i]?=some o)(h:o.dst=some t): jF ops.toList t 0=some i:=by have:=D.stat i o ho;unfold uz at this;simp only [Bool.and_eq_true]at this;have:=this.1.1.1.2;rw [h]at this;simpa using this
theorem DR.Eget{t:Nat}: ∀{i:Nat},i≤ops.size→(E i).get t=match jF ops.toList t 0 with | some j=>(if j<i then (E ops.size).get t else (E 0).get t) | none=>(E 0).get t:=by
 have fwd:∀i,i≤ops.size→(∀j,jF ops.toList t 0=some j→¬j<i)→(E i).get t=(E 0).get t:=by
  intro i;induction i with
  | zero=>intro _ _;rfl
  | succ i ih=>
   intro hi h;obtain⟨o,ho⟩:=Jn (ops:=ops) (i:=i) (by omega);rw [D.Eget1 ho (fun e=>h i (D.dst ho e) (by omega))];exact ih (by omega) fun j hj hlt=>h j hj (by omega)
 have back:∀k i,i+k=ops.size→(∀j,jF ops.toList t 0=some j→j<i)→(E i).get t=(E ops.size).get t:=by
  intro k;induction k with
  | zero=>intro i hi _;rw [←hi];rfl
  | succ k ih=>
   intro i hi h;obtain⟨o,ho⟩:=Jn (ops:=ops) (i:=i) (by omega);rw [←D.Eget1 ho (fun e=>absurd (h i (D.dst ho e)) (by omega))];exact ih (i+1) (by omega) fun j hj=>by have:=h j hj;omega
 intro i hi;cases hd:jF ops.toList t 0 with
 | none=>exact fwd i hi fun j hj=>by rw [hd]at hj;cases hj
 | some j=>
  simp only [];by_cases hlt:j<i
  ·rw [if_pos hlt];exact back (ops.size - i) i (by omega) fun j' hj'=>by rw [hd]at hj';cases hj';exact hlt
  rw [if_neg hlt];exact fwd i hi fun j' hj'=>by rw [hd]at hj';cases hj';exact hlt
end
end
section
variable {P:Program}
def ED(base:Nat)(M:Nat→dJ)(kd:Nat→Kd)(S:Array Bool)(p b:Nat)(o:Ob): Prop:=
 (M p).t.get b=some o∨∃j,p≤j∧kd j=.new∧S.getD j false=true∧b=base+j∧(M (j+1)).t.get b=some o
structure nZ(P:Program)(ops:Array Oper)(base:Nat)(E:Nat→eX)(M:Nat→dJ)(kd:Nat→Kd)(α0:AM)(w0:World)(ds:List Deferred)(S:Array Bool)(a:Act)(w:World)(α:AM)(p:Nat): Prop where
 size:S.size=ops.size
 down:RS ops fun i=>S.getD i false
 p1:∀e,e<p→kd e=.eff→S.getD e false=true
 ple:p≤ops.size
 p2:p<ops.size→kd p=.eff
 p3:∀e,p≤e→kd e=.eff→S.getD e false=false
 tsize:a.tmps.size=(E 0).n
 env:∀t,t<(E 0).n→VR α (uX ops E (fun i=>S.getD i false) t) (a.tmps.getD t undef)
 defers:a.defers=ds
 dom:∀b L,α b=some L→b<(M p).next∧L.blk<w.heap.size
 obj:∀b o L,(M p).t.get b=some o→α b=some L→uV P α L w o
 inj:∀b b' o o' L L',ED base M kd S p b o→lU o→α b=some L→ED base M kd S p b' o'→lU o'→α b'=some L'→L.blk=L'.blk→b=b'
 top:∀i,i≤p→∀b,(M i).next≤b→(M i).t.get b=none
 fl:∀j,p≤j→kd j=.new→S.getD j false=true→∃L o,α (base+j)=some L∧(M (j+1)).t.get (base+j)=some o∧lU o∧uV P α L w o
 later:∀i,i≤p→∀j,i≤j→kd j=.new→(M i).t.get (base+j)=none
 gone:∀j,kd j=.new→S.getD j false=false→α (base+j)=none
 ghost:∀j,j<p→kd j=.new→S.getD j false=false→(M p).t.get (base+j)=(M (j+1)).t.get (base+j)
 le0:Le α0 α
 old0:∀b,b<base→α b=α0 b
 os:w.os=w0.os
 tape:w.tape=w0.tape
 output:w.output=w0.output
 size0:w0.heap.size≤w.heap.size
 frame:∀cb,cb<w0.heap.size→¬IY α0 (M 0) cb→w.heap[cb]?=w0.heap[cb]?
 rng:∀b o L,ED base M kd S p b o→lU o→α b=some L→IY α0 (M 0) L.blk∨w0.heap.size≤L.blk
 ghost0:∀b,b<base→(α0 b=none∨(M 0).t.get b=none)→(M p).t.get b=(M 0).t.get b
theorem lD(S:Array Bool)(i j:Nat)(hi:i<S.size): (S.setIfInBounds i true).getD j false=if j=i then true else S.getD j false:=by
 by_cases e:j=i
 ·subst e;rw [if_pos rfl];simp [hi]
 rw [if_neg e,getD_set_ne _ (Ne.symm e)]
theorem nz{S:Array Bool}{i j:Nat}(hi:i<S.size)(h:(S.setIfInBounds i true).getD j false=false): j≠i∧S.getD j false=false:=by
 rw [lD S i j hi]at h;by_cases e:j=i
 ·rw [if_pos e]at h;cases h
 rw [if_neg e]at h;exact⟨e,h⟩
theorem qL{S:Array Bool}{i j:Nat}(hi:i<S.size)(h:S.getD j false=true): (S.setIfInBounds i true).getD j false=true:=by
 rw [lD S i j hi];split
 ·rfl
 exact h
theorem qX{t:Nat}: ∀(l:List Oper) (k j:Nat),jF l t k=some j→k≤j∧∃o,l[j - k]?=some o∧o.dst=some t
 | [],_,_,h=>by cases h
 | o :: rest,k,j,h=>by
  unfold jF at h;have hrec:jF rest t (k+1)=some j→k≤j∧∃o',(o :: rest)[j - k]?=some o'∧o'.dst=some t:=by intro h;obtain⟨h1,o',h2,h3⟩:=qX rest (k+1) j h;refine⟨by omega,o',?_,h3⟩;rw [show j - k=(j - (k+1))+1 from by omega];simpa using h2
  split at h
  ·rename_i d hd;cases hb:Nat.beq d t with
   | true=>
    rw [hb,cond_true]at h;cases h;exact⟨Nat.le_refl _,o,by simp,by rw [hd,Nat.eq_of_beq_eq_true hb]⟩
   | false=>rw [hb,cond_false]at h;exact hrec h
  exact hrec h
section
variable {self:jX} {ops:Array Oper} {base:Nat} {E:Nat→eX} {M:Nat→dJ} {kd:Nat→Kd} (D:DR P self ops base E M kd)
 {α0:AM} {w0:World} {ds:List Deferred} {S:Array Bool} {a:Act} {w:World} {α:AM} {p i:Nat} {o:Oper}
include D
theorem nZ.eget(_:nZ P ops base E M kd α0 w0 ds S a w α p)(hi:i<ops.size)(hni:S.getD i false=false){t:Nat}
  (h:∀j,jF ops.toList t 0=some j→j=i∨(j<i∧S.getD j false=true)∨(i<j∧S.getD j false=false)) :
  (E i).get t=uX ops E (fun i=>S.getD i false) t:=by
 rw [D.Eget (Nat.le_of_lt hi)];unfold uX;cases hd:jF ops.toList t 0 with
 | none=>rfl
 | some j=>
  simp only [];rcases h j hd with rfl | ⟨h1,h2⟩ | ⟨h1,h2⟩
  ·rw [if_neg (Nat.lt_irrefl _),hni];rfl
  ·rw [if_pos h1,h2];rfl
  rw [if_neg (by omega),h2];rfl
theorem nZ.operands(I:nZ P ops base E M kd α0 w0 ds S a w α p)(ho:ops[i]?=some o)(hni:S.getD i false=false)(hrd:∀e∈o.after.toList,Region.binds .any e=true→S.getD e.on false=true):
  ∀x∈o.op.operands,jM (E i) x=true→VR α (ev (E i) x) (a.eval x):=by
 have hi:i<ops.size:=(Array.getElem?_eq_some_iff.1 ho).1;intro x hx hok;cases x with
 | tmp t=>
  have hst:=D.stat i o ho;unfold uz at hst;simp only [Bool.and_eq_true]at hst;have hst:=List.all_eq_true.1 hst.1.1.2 (.tmp t) (by simpa using hx);have hn:t<(E i).n:=dR.1 hok;rw [D.En0 (Nat.le_of_lt hi)]at hn;have e:(E i).get t=uX ops E (fun i=>S.getD i false) t:=by
   refine I.eget D hi hni fun j hj=>?_;simp only [hj,Bool.or_eq_true,Bool.and_eq_true]at hst;rcases hst with (hst | ⟨h1,h2⟩) | ⟨h1,h2⟩
   ·exact .inl (Nat.eq_of_beq_eq_true hst)
   ·obtain⟨e,he,hb,rfl⟩:=qR.1 h2;exact .inr (.inl ⟨dR.1 h1,hrd e he hb⟩)
   refine .inr (.inr ⟨dR.1 h1,?_⟩);split at h2
   ·rename_i q hq;obtain⟨e,he,hb,hon⟩:=qR.1 h2;cases hS:S.getD j false with
    | false=>rfl
    | true=>
     have:=I.down j q (by simpa using hq) hS e he hb;rw [hon]at this;simp only [hni]at this;cases this
   cases h2
  show VR α ((E i).get t) (a.tmps.getD t undef);rw [e];exact I.env t hn
 | const v=>exact VR.refl hok
 | global g=>cases hok
 | func f=>exact .func rfl rfl (fun i h=>absurd h (Nat.not_lt_zero _)) (fun i h=>absurd h (Nat.not_lt_zero _))
theorem nZ.want(I:nZ P ops base E M kd α0 w0 ds S a w α p)(ho:ops[i]?=some o)(hni:S.getD i false=false)(hrd:∀e∈o.after.toList,Region.binds .any e=true→S.getD e.on false=true):
  qF ops (E i) o=Region.wanted o (yielded ops a.tmps):=by
 have hi:i<ops.size:=(Array.getElem?_eq_some_iff.1 ho).1;have hn:=D.En0 (Nat.le_of_lt hi);refine DN (α:=α) o (by rw [hn];exact I.tsize) ?_;intro j want o' d hg hj hd hlt;have hst:=D.stat i o ho;unfold uz at hst;simp only [Bool.and_eq_true]at hst;have hst:=hst.1.2;rw [hg]at hst;simp only [Bool.and_eq_true]at hst;have hdi:=D.dst hj hd;rw [I.eget D hi hni fun k hk=>by
  rw [hdi]at hk;cases hk;obtain⟨e,he,hb,rfl⟩:=qR.1 hst.2;exact .inr (.inl ⟨dR.1 hst.1,hrd e he hb⟩)]
 exact I.env d (by rw [←hn];exact hlt)
theorem nZ.envStep(I:nZ P ops base E M kd α0 w0 ds S a w α p)(ho:ops[i]?=some o){β:AM}(hle:Le α β){v v':Value}(hE:E (i+1)=(E i).put' o.dst v)(hv:VR β v v'):
  (a.put o.dst v').tmps.size=(E 0).n∧∀t,t<(E 0).n→VR β (uX ops E (fun j=>(S.setIfInBounds i true).getD j false) t) ((a.put o.dst v').tmps.getD t undef):=by
 have hi:i<ops.size:=(Array.getElem?_eq_some_iff.1 ho).1;have hiS:i<S.size:=by rw [I.size];exact hi
 have hn:=D.En0 (Nat.le_of_lt hi);have hsz:(a.put o.dst v').tmps.size=(E 0).n:=by unfold Act.put;split <;> simp [I.tsize]
 refine⟨hsz,fun t ht=>?_⟩;by_cases e:o.dst=some t
 ·have hd:=D.dst ho e;have e1:uX ops E (fun j=>(S.setIfInBounds i true).getD j false) t=v:=by unfold uX;rw [hd];simp only [lD S i i hiS,if_true,cond_true];have:=D.Eget (t:=t) (i:=i+1) (by omega);rw [hd]at this;simp only [Nat.lt_succ_self,if_true]at this;rw [←this,hE,e];exact NS _ _ _ (by rw [hn];exact ht)
  rw [e1];have:t<a.tmps.size:=by rw [I.tsize];exact ht
  unfold Act.put;rw [e];simpa [this]using hv
 have e1:uX ops E (fun j=>(S.setIfInBounds i true).getD j false) t=uX ops E (fun j=>S.getD j false) t:=by
  unfold uX;cases hd:jF ops.toList t 0 with
  | none=>rfl
  | some j=>
   have hne:j≠i:=(by rintro rfl;obtain⟨_,o2,h1,h2⟩:=qX _ _ _ hd;have:ops[j]?=some o2:=(by simpa using h1);rw [ho]at this;cases this;exact e h2);simp only [lD S i j hiS,if_neg hne]
 rw [e1];have:=(I.env t ht).mono hle;unfold Act.put;split
 ·rename_i d hd;have hne:d≠t:=fun h=>e (by rw [hd,h]);simpa [Array.getElem?_setIfInBounds,hne]using this
 exact this
omit D in
theorem nZ.downStep(I:nZ P ops base E M kd α0 w0 ds S a w α p)(ho:ops[i]?=some o)(hrd:∀e∈o.after.toList,Region.binds .any e=true→S.getD e.on false=true):
  RS ops fun j=>(S.setIfInBounds i true).getD j false:=by
 have hi:i<ops.size:=(Array.getElem?_eq_some_iff.1 ho).1;have hiS:i<S.size:=by rw [I.size];exact hi
 intro j q hq hj e he hb;simp only at hj ⊢;rw [lD S i j hiS]at hj;by_cases hji:j=i
 ·subst hji;rw [ho]at hq;cases hq;exact qL hiS (hrd e he hb)
 rw [if_neg hji]at hj;exact qL hiS (I.down j q hq hj e he hb)
theorem nZ.quiet (I : nZ P ops base E M kd α0 w0 ds S a w α p) (ho : ops[i]? = some o) (hrd : ∀ e ∈ o.after.toList, Region.binds .any e = true → S.getD e.on false = true)
    (h1 : kd i ≠ .eff) (h2 : kd i ≠ .new) {v v' : Value} (hE : E (i + 1) = (E i).put' o.dst v) (hv : VR α v v') : nZ P ops base E M kd α0 w0 ds (S.setIfInBounds i true) (a.put o.dst v') w α p := by
  have hi : i < ops.size := (Array.getElem?_eq_some_iff.1 ho).1
  have hiS : i < S.size := by rw [I.size]; exact hi
  obtain ⟨he1, he2⟩ := I.envStep D ho (.refl _) hE hv
  have back : ∀ j, kd j = .new → (S.setIfInBounds i true).getD j false = true → S.getD j false = true := by
    intro j hj h
    rw [lD S i j hiS, if_neg (fun e => h2 (by rw [← e]; exact hj))] at h
    exact h
  have pb : ∀ {b ob}, ED base M kd (S.setIfInBounds i true) p b ob → ED base M kd S p b ob := by
    rintro b ob (h | ⟨j, a1, a2, a3, a4⟩)
    · exact .inl h
    · exact .inr ⟨j, a1, a2, back j a2 a3, a4⟩
  exact
    { size := by simp [I.size]
      down := I.downStep ho hrd
      p1 := fun e he hk => qL hiS (I.p1 e he hk)
      ple := I.ple
      p2 := I.p2
      p3 := fun e he hk => by rw [lD S i e hiS, if_neg (fun h => h1 (by rw [← h]; exact hk))]; exact I.p3 e he hk
      tsize := he1
      env := he2
      defers := by rw [nK]; exact I.defers
      dom := I.dom
      obj := I.obj
      inj := fun b b' o o' L L' x1 x2 x3 y1 y2 y3 e => I.inj b b' o o' L L' (pb x1) x2 x3 (pb y1) y2 y3 e
      top := I.top
      fl := fun j a1 a2 a3 => I.fl j a1 a2 (back j a2 a3)
      later := I.later
      gone := fun j a1 a2 => I.gone j a1 (nz hiS a2).2
      ghost := fun j a1 a2 a3 => I.ghost j a1 a2 (nz hiS a3).2
      le0 := I.le0, old0 := I.old0, os := I.os, tape := I.tape, output := I.output, size0 := I.size0, frame := I.frame
      rng := fun b o L x1 x2 x3 => I.rng b o L (pb x1) x2 x3
      ghost0 := I.ghost0 }
theorem nZ.new (I : nZ P ops base E M kd α0 w0 ds S a w α p) (ho : ops[i]? = some o) (hni : S.getD i false = false) (hrd : ∀ e ∈ o.after.toList, Region.binds .any e = true → S.getD e.on false = true)
    (h1 : kd i = .new) {v v' : Value} {ob : Ob} {o' : Obj} {L : pY} (hE : E (i + 1) = (E i).put' o.dst v) (hM : (M (i + 1)).t.get (base + i) = some ob) (hL : L.blk = w.heap.size) (hv : VR (ext α (base + i) L) v v')
    (hob : uV P (ext α (base + i) L) L (w.alloc o') ob) (hlive : lU ob) :
    nZ P ops base E M kd α0 w0 ds (S.setIfInBounds i true) (a.put o.dst v') (w.alloc o') (ext α (base + i) L) p := by
  have hi : i < ops.size := (Array.getElem?_eq_some_iff.1 ho).1
  have hiS : i < S.size := by rw [I.size]; exact hi
  have hgone := I.gone i h1 hni
  have hle := EG hgone L
  have hnew : ∀ k, k < w.heap.size → (w.alloc o').heap[k]? = w.heap[k]? := fun k hk => by
    show (w.heap.push o')[k]? = _
    rw [Array.getElem?_push, if_neg (by omega)]
  have hsz : (w.alloc o').heap.size = w.heap.size + 1 := by
    show (w.heap.push o').size = _
    simp
  obtain ⟨he1, he2⟩ := I.envStep D ho hle hE hv
  have back : ∀ {b L2}, ext α (base + i) L b = some L2 → (b = base + i ∧ L2 = L) ∨ (b ≠ base + i ∧ α b = some L2) := by
    intro b L2 h
    by_cases e : b = base + i
    · subst e; rw [jw] at h; cases h; exact .inl ⟨rfl, rfl⟩
    · rw [nI _ _ e] at h; exact .inr ⟨e, h⟩
  have pb : ∀ {b ob2}, b ≠ base + i → ED base M kd (S.setIfInBounds i true) p b ob2 → ED base M kd S p b ob2 := by
    rintro b ob2 hne (h | ⟨j, a1, a2, a3, a4, a5⟩)
    · exact .inl h
    · refine .inr ⟨j, a1, a2, ?_, a4, a5⟩
      rw [lD S i j hiS, if_neg (by omega)] at a3
      exact a3
  exact
    { size := by simp [I.size]
      down := I.downStep ho hrd
      p1 := fun e he hk => qL hiS (I.p1 e he hk)
      ple := I.ple
      p2 := I.p2
      p3 := fun e he hk => by rw [lD S i e hiS, if_neg (fun h => by rw [h, h1] at hk; cases hk)]; exact I.p3 e he hk
      tsize := he1
      env := he2
      defers := by rw [nK]; exact I.defers
      dom := fun b L2 h => by
        rcases back h with ⟨rfl, rfl⟩ | ⟨_, h⟩
        · exact ⟨D.base_le I.ple hi, by rw [hsz]; omega⟩
        · have := I.dom _ _ h; exact ⟨this.1, by rw [hsz]; omega⟩
      obj := fun b o2 L2 hb h => by
        rcases back h with ⟨rfl, rfl⟩ | ⟨_, h⟩
        · rcases Nat.lt_or_ge i p with hip | hip
          · rw [I.ghost i hip h1 hni, hM] at hb; cases hb; exact hob
          · rw [I.later p (Nat.le_refl _) i hip h1] at hb; cases hb
        · exact ((I.obj b o2 L2 hb h).heap (hnew _ (I.dom _ _ h).2)).mono hle
      inj := fun b b' o1 o2 L1 L2 x1 x2 x3 y1 y2 y3 e => by
        rcases back x3 with ⟨e1, f1⟩ | ⟨e1, z1⟩ <;> rcases back y3 with ⟨e2, f2⟩ | ⟨e2, z2⟩
        · rw [e1, e2]
        · have := (I.dom _ _ z2).2; rw [f1] at e; omega
        · have := (I.dom _ _ z1).2; rw [f2] at e; omega
        · exact I.inj b b' o1 o2 L1 L2 (pb e1 x1) x2 z1 (pb e2 y1) y2 z2 e
      top := I.top
      fl := fun j a1 a2 a3 => by
        by_cases e : j = i
        · subst e; exact ⟨L, ob, jw _ _ _, hM, hlive, hob⟩
        · rw [lD S i j hiS, if_neg e] at a3
          obtain ⟨L2, o2, b1, b2, b3, b4⟩ := I.fl j a1 a2 a3
          exact ⟨L2, o2, hle _ _ b1, b2, b3, (b4.heap (hnew _ (I.dom _ _ b1).2)).mono hle⟩
      later := I.later
      gone := fun j a1 a2 => by
        have := nz hiS a2
        rw [nI _ _ (by omega)]
        exact I.gone j a1 this.2
      ghost := fun j a1 a2 a3 => I.ghost j a1 a2 (nz hiS a3).2
      le0 := I.le0.trans hle
      old0 := fun b hb => by rw [nI _ _ (by omega)]; exact I.old0 b hb
      os := I.os, tape := I.tape, output := I.output
      size0 := by rw [hsz]; have := I.size0; omega
      frame := fun cb hcb hn => (hnew _ (Nat.lt_of_lt_of_le hcb I.size0)).trans (I.frame cb hcb hn)
      rng := fun b o2 L2 x1 x2 x3 => by
        rcases back x3 with ⟨_, rfl⟩ | ⟨e1, x3⟩
        · exact .inr (by rw [hL]; exact I.size0)
        · exact I.rng b o2 L2 (pb e1 x1) x2 x3
      ghost0 := I.ghost0 }
end
end
end Go.Den
