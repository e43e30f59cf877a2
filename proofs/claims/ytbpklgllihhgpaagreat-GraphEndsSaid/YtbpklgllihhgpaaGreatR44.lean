import Derived.Test.YtbpklgllihhgpaaGreatR43
set_option maxRecDepth 100000
set_option maxHeartbeats 16000000
namespace Go.Proofs.YtbpklgllihhgpaaGreat
open Tryz Go.RowKit Go.Den
def fltS(f:Fv)(ks cs:List Int): ByteArray:=numsB [f.kind,f.radius,(f.kn:Int)] ++ numsB ks ++ numsB [f.div,f.value,(f.cn:Int)] ++ numsB cs
theorem exec_slice3{P:Program}{o:Oper}{a:Act}{w w':World}{t:TypeId}{x0 x1 x2:Operand}{y0 y1 y2 v:Value}(ho:o.op=.buildSlice t 3 #[(0,x0),(1,x1),(2,x2)])(h0:a.eval x0=y0)(h1:a.eval x1=y1)(h2:a.eval x2=y2)
  (hr:(Instr.buildSlice t 3 #[(0,y0),(1,y1),(2,y2)]).run P w=.ok v w'):(execOp a.eval o).run P w=.ok (.value v) w':=
 exec_slice ho (by simp [h0,h1,h2]) hr
theorem slice3(a b c:Int)(V:World): (Instr.buildSlice 22 3 #[(0,a),(1,b),(2,c)]).run prog V=.ok (.slice (some ⟨V,0,none⟩) 3 3) (V.alloc (.cells #[a,b,c] 3)):=by kernel_rfl
theorem ints_lit3(a b c:Int)(V:World): IntsAt (V.alloc (.cells #[a,b,c] 3)) (some ⟨V,0,none⟩) 3 [a,b,c]:=by
 refine⟨rfl,fun j hj=>⟨_,_,rfl,?_⟩⟩;rw [cell_of_row _ _ _ #[a,b,c] 3 (0,0) (heap_alloc_new V _),Nat.zero_add];match j,hj with
 | 0,_=>rfl
 | 1,_=>rfl
 | 2,_=>rfl
theorem filt_bytes(f:Fv)(ks cs:List Int)(w:World)(hk:IntsAt w f.kA f.kn ks)(hc:IntsAt w f.cA f.cn cs)(hkn:f.kn≤100000)(hcn:f.cn≤100000):
  Calls prog 197 #[f.v] w fun e w'=>e=.returned (.string (fltS f ks cs))∧Turn [] w w':=by
 unfold fltS;obtain⟨kind,radius,kA,kn,kc,div,value,cA,cn,cc⟩:=f;simp only [Fv.v]at *;have hK:=fun u (t:Turn [] w u)=>filt_numbers ks kA kn kc hkn u (hk.turn t);have hC:=fun u (t:Turn [] w u)=>filt_numbers cs cA cn cc hcn u (hc.turn t);have h1:=fun (A:Option Addr) u (h:IntsAt u A 3 [kind,radius,(kn:Int)])=>filt_numbers [kind,radius,(kn:Int)] A 3 3 (by decide) u h;have h2:=fun (A:Option Addr) u (h:IntsAt u A 3 [div,value,(cn:Int)])=>filt_numbers [div,value,(cn:Int)] A 3 3 (by decide) u h;have zK:(numsB ks).size≤1000000:=Nat.le_trans (numsB_size _) (by have:=hk.1;omega);have zC:(numsB cs).size≤1000000:=Nat.le_trans (numsB_size _) (by have:=hc.1;omega);have z1:(numsB [kind,radius,(kn:Int)]).size≤30:=numsB_size _;have z2:(numsB [div,value,(cn:Int)]).size≤30:=numsB_size _;generalize numsB ks=sK at *;generalize numsB cs=sC at *;generalize numsB [kind,radius,(kn:Int)]=s1 at *;generalize numsB [div,value,(cn:Int)]=s2 at *;have n1:¬9223372036854775807<s1.size+sK.size:=by omega
 have n2:¬9223372036854775807<s1.size+sK.size+s2.size:=by omega
 have n3:¬9223372036854775807<s1.size+sK.size+s2.size+sC.size:=by omega
 have HK:=lh hK;have HC:=lh hC;have H1:=lh h1;have H2:=lh h2;clear hK hC h1 h2 hk hc zK zC z1 z2;obtain⟨W,hW⟩:∃W,W=(w.alloc (.cells #[kind,radius,.slice kA kn kc,div,value,.slice cA cn cc] 83)):=⟨_,rfl⟩;have T0:Turn [] w W:=hW ▸ (tR w).alloc _;have hWs:w.heap.size+1≤W.heap.size:=by rw [hW];simp
 obtain⟨q0_0,q0_1,q0_2,q0_3,q0_4,q0_5⟩:=cs6 (al1 hW);have zf:∀i,W.frozen? ⟨w,i,none⟩=false:=fun i=>by rw [hW];simp [go_sem]
 clear zf;go_enter func197,ntmps197;go_upto_region 1 with (fail)
 rw [←hW];clear hW;refine AnyTill.start (fun w'=>Turn [] W w') 27 (by kernel_rfl) ?_;have hS:Turn [] W W.drew:=(tR W).drawn 1;generalize W.drew=V at *;refine tk 0 99 3 (.pointer (some ⟨w,0,none⟩)) hS ?_;try go_frame
 refine tk 1 99 4 kind hS ?_ (hy:=fun w' hw=>by have e0_0:=tc hw q0_0;go_simp);try go_frame
 refine tk 2 99 5 (.pointer (some ⟨w,1,none⟩)) hS ?_;try go_frame
 refine tk 3 99 6 radius hS ?_ (hy:=fun w' hw=>by have e0_1:=tc hw q0_1;go_simp);try go_frame
 refine tk 4 99 7 (.pointer (some ⟨w,2,none⟩)) hS ?_;try go_frame
 refine tk 5 99 8 (.slice kA kn kc) hS ?_ (hy:=fun w' hw=>by have e0_2:=tc hw q0_2;go_simp);try go_frame
 refine tk 6 99 9 kn hS ?_;try go_frame
 refine tk 9 99 12 (.pointer (some ⟨w,2,none⟩)) hS ?_;try go_frame
 refine tk 10 99 13 (.slice kA kn kc) hS ?_ (hy:=fun w' hw=>by have e0_2:=tc hw q0_2;go_simp);try go_frame
 refine tk 13 99 16 (.pointer (some ⟨w,3,none⟩)) hS ?_;try go_frame
 refine tk 14 99 17 div hS ?_ (hy:=fun w' hw=>by have e0_3:=tc hw q0_3;go_simp);try go_frame
 refine tk 15 99 18 (.pointer (some ⟨w,4,none⟩)) hS ?_;try go_frame
 refine tk 16 99 19 value hS ?_ (hy:=fun w' hw=>by have e0_4:=tc hw q0_4;go_simp);try go_frame
 refine tk 17 99 20 (.pointer (some ⟨w,5,none⟩)) hS ?_;try go_frame
 refine tk 18 99 21 (.slice cA cn cc) hS ?_ (hy:=fun w' hw=>by have e0_5:=tc hw q0_5;go_simp);try go_frame
 refine tk 19 99 22 cn hS ?_;try go_frame
 refine tk 23 99 26 (.pointer (some ⟨w,5,none⟩)) hS ?_;try go_frame
 refine tk 24 99 27 (.slice cA cn cc) hS ?_ (hy:=fun w' hw=>by have e0_5:=tc hw q0_5;go_simp);try go_frame
 refine AnyTill.two (i:=7) (j:=20) rfl rfl (by kernel_rfl) rfl rfl (fun K hK=>?_) (fun K hK=>?_)
 ·refine wp_yieldR (d:=some 10) rfl (exec_slice3 (x0:=.tmp 4) (x1:=.tmp 6) (x2:=.tmp 9) rfl rfl rfl rfl (slice3 kind radius (kn:Int) V)) ?_;have ib1:=ints_lit3 kind radius (kn:Int) V;have tb1:=hS.alloc (.cells #[kind,radius,(kn:Int)] 3);generalize V.alloc (.cells #[kind,radius,(kn:Int)] 3)=Zb1 at *;generalize V.heap.size=gb1 at *;refine hK _ _ (fun _=>tb1) ?_;clear hK K;try go_frame
  refine AnyTill.two (i:=8) (j:=20) rfl rfl (by kernel_rfl) rfl rfl (fun K hK=>?_) (fun K hK=>?_)
  ·go_simp;refine (H1.out _ _ ib1).mono ?_;rintro e wc1 ⟨rfl,uc1⟩;have sc1:=tb1.trans uc1;refine hK _ _ (fun _=>sc1) ?_;clear hK K;(try go_frame);refine AnyTill.two (i:=11) (j:=20) rfl rfl (by kernel_rfl) rfl rfl (fun K hK=>?_) (fun K hK=>?_)
   ·go_simp;refine (HK.out _ (T0.trans sc1)).mono ?_;rintro e wcK ⟨rfl,ucK⟩;have scK:=sc1.trans ucK;refine hK _ _ (fun _=>scK) ?_;clear hK K;(try go_frame);have hS:=scK;refine tk 12 99 15 (.string (s1 ++ sK)) hS ?_;(try go_frame);refine tk1 20 fun K hK=>?_;refine wp_yieldR (d:=some 23) rfl (exec_slice3 (x0:=.tmp 17) (x1:=.tmp 19) (x2:=.tmp 22) rfl rfl rfl rfl (slice3 div value (cn:Int) wcK)) ?_;have ib2:=ints_lit3 div value (cn:Int) wcK;have tb2:=scK.alloc (.cells #[div,value,(cn:Int)] 3);generalize wcK.alloc (.cells #[div,value,(cn:Int)] 3)=Zb2 at *;generalize wcK.heap.size=gb2 at *;refine hK _ _ (fun _=>tb2) ?_;clear hK K;(try go_frame);refine tk1 21 fun K hK=>?_;go_simp;refine (H2.out _ _ ib2).mono ?_;rintro e wc2 ⟨rfl,uc2⟩;have sc2:=tb2.trans uc2;refine hK _ _ (fun _=>sc2) ?_;clear hK K;(try go_frame);have hS:=sc2;refine tk 22 99 25 (.string (s1 ++ sK ++ s2)) hS ?_;(try go_frame);refine tk1 25 fun K hK=>?_;go_simp;refine (HC.out _ (T0.trans sc2)).mono ?_;rintro e wcC ⟨rfl,ucC⟩;have scC:=sc2.trans ucC;refine hK _ _ (fun _=>scC) ?_;clear hK K;(try go_frame);have hS:=scC;refine tk 26 99 29 (.string (s1 ++ sK ++ s2 ++ sC)) hS ?_;(try go_frame);refine tk1 27 fun K hK=>?_;go_simp;refine hK _ _ (fun h=>absurd rfl h) ?_;clear hK K;(try go_frame);refine tkd ?_;(go_wp2_with fail);go_ret;exact⟨rfl,T0.trans scC⟩
   refine wp_yieldR (d:=some 23) rfl (exec_slice3 (x0:=.tmp 17) (x1:=.tmp 19) (x2:=.tmp 22) rfl rfl rfl rfl (slice3 div value (cn:Int) wc1)) ?_;have ib2:=ints_lit3 div value (cn:Int) wc1;have tb2:=sc1.alloc (.cells #[div,value,(cn:Int)] 3);generalize wc1.alloc (.cells #[div,value,(cn:Int)] 3)=Zb2 at *;generalize wc1.heap.size=gb2 at *;refine hK _ _ (fun _=>tb2) ?_;clear hK K;(try go_frame);refine tk1 11 fun K hK=>?_;go_simp;refine (HK.out _ (T0.trans tb2)).mono ?_;rintro e wcK ⟨rfl,ucK⟩;have scK:=tb2.trans ucK;refine hK _ _ (fun _=>scK) ?_;clear hK K;(try go_frame);have ib2cK:=ib2.turn ucK;have hS:=scK;refine tk 12 99 15 (.string (s1 ++ sK)) hS ?_;(try go_frame);refine tk1 21 fun K hK=>?_;go_simp;refine (H2.out _ _ ib2cK).mono ?_;rintro e wc2 ⟨rfl,uc2⟩;have sc2:=scK.trans uc2;refine hK _ _ (fun _=>sc2) ?_;clear hK K;(try go_frame);have hS:=sc2;refine tk 22 99 25 (.string (s1 ++ sK ++ s2)) hS ?_;(try go_frame);refine tk1 25 fun K hK=>?_;go_simp;refine (HC.out _ (T0.trans sc2)).mono ?_;rintro e wcC ⟨rfl,ucC⟩;have scC:=sc2.trans ucC;refine hK _ _ (fun _=>scC) ?_;clear hK K;(try go_frame);have hS:=scC;refine tk 26 99 29 (.string (s1 ++ sK ++ s2 ++ sC)) hS ?_;(try go_frame);refine tk1 27 fun K hK=>?_;go_simp;refine hK _ _ (fun h=>absurd rfl h) ?_;clear hK K;(try go_frame);refine tkd ?_;(go_wp2_with fail);go_ret;exact⟨rfl,T0.trans scC⟩
  refine wp_yieldR (d:=some 23) rfl (exec_slice3 (x0:=.tmp 17) (x1:=.tmp 19) (x2:=.tmp 22) rfl rfl rfl rfl (slice3 div value (cn:Int) Zb1)) ?_;have ib2:=ints_lit3 div value (cn:Int) Zb1;have ib1b2:=ib1.turn ((tR Zb1).alloc (.cells #[div,value,(cn:Int)] 3));have tb2:=tb1.alloc (.cells #[div,value,(cn:Int)] 3);generalize Zb1.alloc (.cells #[div,value,(cn:Int)] 3)=Zb2 at *;generalize Zb1.heap.size=gb2 at *;refine hK _ _ (fun _=>tb2) ?_;clear hK K;try go_frame
  refine tk1 8 fun K hK=>?_;go_simp;refine (H1.out _ _ ib1b2).mono ?_;rintro e wc1 ⟨rfl,uc1⟩;have sc1:=tb2.trans uc1;refine hK _ _ (fun _=>sc1) ?_;clear hK K;try go_frame
  have ib2c1:=ib2.turn uc1;refine tk1 11 fun K hK=>?_;go_simp;refine (HK.out _ (T0.trans sc1)).mono ?_;rintro e wcK ⟨rfl,ucK⟩;have scK:=sc1.trans ucK;refine hK _ _ (fun _=>scK) ?_;clear hK K;try go_frame
  have ib2cK:=ib2c1.turn ucK;have hS:=scK;refine tk 12 99 15 (.string (s1 ++ sK)) hS ?_;try go_frame
  refine tk1 21 fun K hK=>?_;go_simp;refine (H2.out _ _ ib2cK).mono ?_;rintro e wc2 ⟨rfl,uc2⟩;have sc2:=scK.trans uc2;refine hK _ _ (fun _=>sc2) ?_;clear hK K;try go_frame
  have hS:=sc2;refine tk 22 99 25 (.string (s1 ++ sK ++ s2)) hS ?_;try go_frame
  refine tk1 25 fun K hK=>?_;go_simp;refine (HC.out _ (T0.trans sc2)).mono ?_;rintro e wcC ⟨rfl,ucC⟩;have scC:=sc2.trans ucC;refine hK _ _ (fun _=>scC) ?_;clear hK K;try go_frame
  have hS:=scC;refine tk 26 99 29 (.string (s1 ++ sK ++ s2 ++ sC)) hS ?_;try go_frame
  refine tk1 27 fun K hK=>?_;go_simp;refine hK _ _ (fun h=>absurd rfl h) ?_;clear hK K;try go_frame
  refine tkd ?_;go_wp2_with fail
  go_ret;exact⟨rfl,T0.trans scC⟩
 refine wp_yieldR (d:=some 23) rfl (exec_slice3 (x0:=.tmp 17) (x1:=.tmp 19) (x2:=.tmp 22) rfl rfl rfl rfl (slice3 div value (cn:Int) V)) ?_;have ib2:=ints_lit3 div value (cn:Int) V;have tb2:=hS.alloc (.cells #[div,value,(cn:Int)] 3);generalize V.alloc (.cells #[div,value,(cn:Int)] 3)=Zb2 at *;generalize V.heap.size=gb2 at *;refine hK _ _ (fun _=>tb2) ?_;clear hK K;try go_frame
 refine tk1 7 fun K hK=>?_;refine wp_yieldR (d:=some 10) rfl (exec_slice3 (x0:=.tmp 4) (x1:=.tmp 6) (x2:=.tmp 9) rfl rfl rfl rfl (slice3 kind radius (kn:Int) Zb2)) ?_;have ib1:=ints_lit3 kind radius (kn:Int) Zb2;have ib2b1:=ib2.turn ((tR Zb2).alloc (.cells #[kind,radius,(kn:Int)] 3));have tb1:=tb2.alloc (.cells #[kind,radius,(kn:Int)] 3);generalize Zb2.alloc (.cells #[kind,radius,(kn:Int)] 3)=Zb1 at *;generalize Zb2.heap.size=gb1 at *;refine hK _ _ (fun _=>tb1) ?_;clear hK K;try go_frame
 refine tk1 8 fun K hK=>?_;go_simp;refine (H1.out _ _ ib1).mono ?_;rintro e wc1 ⟨rfl,uc1⟩;have sc1:=tb1.trans uc1;refine hK _ _ (fun _=>sc1) ?_;clear hK K;try go_frame
 have ib2c1:=ib2b1.turn uc1;refine tk1 11 fun K hK=>?_;go_simp;refine (HK.out _ (T0.trans sc1)).mono ?_;rintro e wcK ⟨rfl,ucK⟩;have scK:=sc1.trans ucK;refine hK _ _ (fun _=>scK) ?_;clear hK K;try go_frame
 have ib2cK:=ib2c1.turn ucK;have hS:=scK;refine tk 12 99 15 (.string (s1 ++ sK)) hS ?_;try go_frame
 refine tk1 21 fun K hK=>?_;go_simp;refine (H2.out _ _ ib2cK).mono ?_;rintro e wc2 ⟨rfl,uc2⟩;have sc2:=scK.trans uc2;refine hK _ _ (fun _=>sc2) ?_;clear hK K;try go_frame
 have hS:=sc2;refine tk 22 99 25 (.string (s1 ++ sK ++ s2)) hS ?_;try go_frame
 refine tk1 25 fun K hK=>?_;go_simp;refine (HC.out _ (T0.trans sc2)).mono ?_;rintro e wcC ⟨rfl,ucC⟩;have scC:=sc2.trans ucC;refine hK _ _ (fun _=>scC) ?_;clear hK K;try go_frame
 have hS:=scC;refine tk 26 99 29 (.string (s1 ++ sK ++ s2 ++ sC)) hS ?_;try go_frame
 refine tk1 27 fun K hK=>?_;go_simp;refine hK _ _ (fun h=>absurd rfl h) ?_;clear hK K;try go_frame
 refine tkd ?_;go_wp2_with fail
 go_ret;exact⟨rfl,T0.trans scC⟩
end Go.Proofs.YtbpklgllihhgpaaGreat
