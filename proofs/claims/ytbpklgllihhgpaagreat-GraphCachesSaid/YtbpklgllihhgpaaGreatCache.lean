/- The program's cache as a list in the order of use: Get and Put. -/
import Derived.Test.YtbpklgllihhgpaaGreatX
import Derived.Test.YtbpklgllihhgpaaGreatModel
import Derived.Test.YtbpklgllihhgpaaGreatHit
namespace Go.Proofs.YtbpklgllihhgpaaGreat
open Go.Den
open Go.ChangeMaps (setBlock)

def rowOK (x : Ent) : Prop := x.2.1.length = 256 ∧ x.2.1.all (·.oneCell') = true
theorem last_row {T : List Value} (hT : T.length = 256) (v : Value) : List.drop 256 (T ++ [v]) = [v] := by
  rw [List.drop_append_of_le_length (by omega), List.drop_of_length_le (by omega)]; rfl
theorem EsIs.ents {R : List Ent} {es : Array MapEntry} {cl : Nat} (h : EsIs R es cl) {time : Int} (hrow : ∀ x ∈ R, rowOK x) (ht : ∀ x ∈ R, x.2.2 ≤ time) : EntsF es cl time keyL usedL rowL := by
  have un : ∀ e ∈ es.toList, ∃ x ∈ R, e.key = .string x.1 ∧ e.val = .agg ⟨x.2.1 ++ [.int .i64 x.2.2]⟩ ∧ keyL e = x.1 ∧ usedL e = x.2.2 ∧ rowL e = ⟨x.2.1 ++ [.int .i64 x.2.2]⟩ := by
    intro e he
    obtain ⟨x, hx, h1, h2⟩ := h.key he
    refine ⟨x, hx, h1, h2, ?_, ?_, ?_⟩
    · unfold keyL; rw [h1]
    · unfold usedL; rw [h2]; simp only [last_row (hrow x hx).1]
    · unfold rowL; rw [h2]
  refine ⟨?_, ?_, ?_, ?_, ?_, h.born, h.nd, ?_, ?_⟩
  · intro e he; obtain ⟨x, hx, a, b, c, d, f⟩ := un e he; rw [a, c]
  · intro e he; obtain ⟨x, hx, a, b, c, d, f⟩ := un e he; rw [b, f]
  · intro e he; obtain ⟨x, hx, a, b, c, d, f⟩ := un e he; rw [f]; show (x.2.1 ++ [_]).length = 257; simp [(hrow x hx).1]
  · intro e he
    obtain ⟨x, hx, a, b, c, d, f⟩ := un e he
    rw [f, d]
    have : (⟨x.2.1 ++ [.int .i64 x.2.2]⟩ : Array Value)[256]? = (x.2.1 ++ [Value.int .i64 x.2.2])[256]? := by simp
    rw [this, List.getElem?_append_right (by rw [(hrow x hx).1]; exact Nat.le_refl _), (hrow x hx).1]
    rfl
  · intro e he
    obtain ⟨x, hx, a, b, c, d, f⟩ := un e he
    rw [f]
    have : (x.2.1 ++ [Value.int .i64 x.2.2]).all (·.oneCell') = true := by rw [List.all_append, (hrow x hx).2]; rfl
    simpa using this
  · intro i j x y hx hy hk
    have kk : ∀ (n : Nat) (e : MapEntry), es[n]? = some e → (es.toList.map fun e => keyL e)[n]? = some (keyL e) := by
      intro n e he
      rw [List.getElem?_map, Array.getElem?_toList, he]; rfl
    have hnd : (es.toList.map fun e => keyL e).Nodup := by
      have h1 : (es.toList.map fun e => keyL e) = (es.toList.map fun e => (e.key, e.val)).map fun p => keyL { key := p.1, val := p.2, born := 0 } := by
        rw [List.map_map]; rfl
      rw [h1]
      refine ((h.perm.map _).nodup_iff).2 ?_
      rw [List.map_map]
      have h2 : ((fun p : Value × Value => keyL { key := p.1, val := p.2, born := 0 }) ∘ encE) = (fun x : Ent => x.1) := by
        funext x; rfl
      rw [h2]; exact h.keys
    obtain ⟨i1, i2⟩ := List.getElem?_eq_some_iff.1 (kk i x hx)
    obtain ⟨j1, j2⟩ := List.getElem?_eq_some_iff.1 (kk j y hy)
    exact (List.getElem_inj hnd).1 (by rw [i2, j2, hk])
  · intro e he; obtain ⟨x, hx, a, b, c, d, f⟩ := un e he; rw [d]; exact ht x hx
/-- what was used longest ago goes -/
theorem EsIs.drop {y : Ent} {R : List Ent} {es : Array MapEntry} {cl : Nat} (h : EsIs (y :: R) es cl) (hrow : ∀ x ∈ y :: R, rowOK x) (hrise : (y :: R).Pairwise fun a b => a.2.2 < b.2.2)
    {i : Nat} {e : MapEntry} (hi : es[i]? = some e) (hmin : ∀ z ∈ es.toList, usedL e ≤ usedL z) : EsIs R (es.eraseIdxIfInBounds i) cl := by
  have hil : es.toList[i]? = some e := by rw [Array.getElem?_toList]; exact hi
  obtain ⟨hlt, hel⟩ := List.getElem?_eq_some_iff.1 hil
  have us : ∀ (e : MapEntry) (x : Ent), x ∈ y :: R → e.val = .agg ⟨x.2.1 ++ [.int .i64 x.2.2]⟩ → usedL e = x.2.2 := by
    intro e x hx h2
    unfold usedL; rw [h2]; simp only [last_row (hrow x hx).1]
  obtain ⟨x, hx, h1, h2⟩ := h.key (List.mem_of_getElem? hil)
  obtain ⟨z, hz, h3, h4⟩ := h.ent (x := y) (by simp)
  have hxy : x = y := by
    have h5 := hmin z hz
    rw [us e x hx h2, us z y (by simp) h4] at h5
    rcases List.mem_cons.1 hx with h6 | h6
    · exact h6
    · have := (List.pairwise_cons.1 hrise).1 x h6
      omega
  subst hxy
  have her : (es.eraseIdxIfInBounds i).toList = es.toList.take i ++ es.toList.drop (i + 1) := by
    have : i < es.size := by simpa using hlt
    unfold Array.eraseIdxIfInBounds
    rw [dif_pos this, Array.toList_eraseIdx, List.eraseIdx_eq_take_drop_succ]
  have hsplit : es.toList = es.toList.take i ++ e :: es.toList.drop (i + 1) := by
    rw [← hel, List.getElem_cons_drop, List.take_append_drop]
  refine ⟨?_, ?_, ?_, ?_⟩
  · rw [her]
    have p1 := h.perm
    rw [hsplit] at p1
    have p2 : ((es.toList.take i ++ e :: es.toList.drop (i + 1)).map fun e => (e.key, e.val)).Perm (encE x :: ((es.toList.take i ++ es.toList.drop (i + 1)).map fun e => (e.key, e.val))) := by
      have : encE x = (e.key, e.val) := by unfold encE; rw [h1, h2]
      rw [this]
      simp only [List.map_append, List.map_cons]
      exact List.perm_middle
    exact (p2.symm.trans p1).cons_inv
  · intro e' he'
    rw [her] at he'
    rcases List.mem_append.1 he' with q | q
    · exact h.born e' (List.mem_of_mem_take q)
    · exact h.born e' (List.mem_of_mem_drop q)
  · rw [her]
    have q := h.nd
    rw [hsplit] at q
    refine q.sublist ?_
    simp only [List.map_append, List.map_cons]
    exact List.Sublist.append_left (List.sublist_cons_self _ _) _
  · exact (List.nodup_cons.1 h.keys).2

theorem upd_any {R : List Ent} {es : Array MapEntry} {cl : Nat} (h : EsIs R es cl) (r : Nat) (k : ByteArray) (T : List Value) (t : Int) :
    ∃ es' cl', (∀ w', w'.heap[r]? = some (.map es cl) → (Instr.mapUpdate 124 (.map (some r)) (.string k) (.agg ⟨T ++ [.int .i64 t]⟩)).run Tryz.prog w' = .ok () (setBlock w' r (.map es' cl'))) ∧ EsIs (rem k R ++ [(k, T, t)]) es' cl' := by
  by_cases hk : k ∈ R.map (·.1)
  · obtain ⟨x, hx, rfl⟩ := List.mem_map.1 hk
    obtain ⟨j, e, h1, h2, h3, h4⟩ := h.find_some hx
    exact ⟨_, _, fun w' hw => upd_old hw h1 h2 h3, h.turn hx h2 h3 h4 T t⟩
  · rw [rem_none hk]
    exact ⟨_, _, fun w' hw => upd_new hw (h.find_none hk), h.push hk T t⟩
/-- 'use', by what is behind it -/
theorem use_nice (b r : Nat) (k : ByteArray) (T : List Value) (hT : T.length = 256) (bud time h m ev : Int) (w : World) (es : Array MapEntry) (cl : Nat) (ty : TypeId)
    (hb : w.heap[b]? = some (.cells (cellsC bud r time h m ev) ty (0, 0))) (hm : w.heap[r]? = some (.map es cl)) (ht0 : 0 ≤ time) (ht1 : time ≤ 1000000000000)
    (es' : Array MapEntry) (cl' : Nat) (hup : ∀ w', w'.heap[r]? = some (.map es cl) → (Instr.mapUpdate 124 (.map (some r)) (.string k) (.agg ⟨T ++ [.int .i64 (time + 1)]⟩)).run Tryz.prog w' = .ok () (setBlock w' r (.map es' cl'))) :
    Calls Tryz.prog 55 #[.pointer (some ⟨b, 0, none⟩), .string k, .agg ⟨T⟩] w fun e w' => e = .returned (.tuple #[]) ∧
      (w'.heap[b]? = some (.cells (cellsC bud r (time + 1) h m ev) ty (0, 0)) ∧ w'.heap[r]? = some (.map es' cl') ∧ Turn [b, r] w w') := by
  have hlt : b < w.heap.size := (Array.getElem?_eq_some_iff.1 hb).1
  have hlr : r < w.heap.size := (Array.getElem?_eq_some_iff.1 hm).1
  have hbr : b ≠ r := by rintro rfl; rw [hb] at hm; cases hm
  refine (use_any b r k T hT bud time h m ev w es cl ty hb hm ht0 ht1 es' cl' hup).mono ?_
  rintro e w' ⟨rfl, n, rfl⟩
  refine ⟨rfl, ?_, ?_, (((((Turn.refl [b, r] w).alloc _).setCell _ (.inl (by simp))).drawn n).setBlock _ (.inl (by simp)))⟩
  · simp only [setBlock, World.heap_drewN]
    rw [Array.getElem?_setIfInBounds, if_neg (Ne.symm hbr)]
    simp only [World.setCell, Array.getElem?_modify, if_true, (MapKept.heap_alloc w _).2 b hlt, hb]; rfl
  · simp only [setBlock, World.heap_drewN]
    rw [Array.getElem?_setIfInBounds, if_pos rfl, if_pos]
    show r < (World.setCell _ _ _).heap.size
    simp [World.setCell]; omega

/-- the program's cache -/
structure CacheIs (b r : Nat) (bud time h m ev : Int) (R : List Ent) (w : World) : Prop where
  ex : ∃ es cl ty, w.heap[b]? = some (.cells (cellsC bud r time h m ev) ty (0, 0)) ∧ w.heap[r]? = some (.map es cl) ∧ EsIs R es cl
  row : ∀ x ∈ R, rowOK x
  rise : R.Pairwise fun a b => a.2.2 < b.2.2
  le : ∀ x ∈ R, x.2.2 ≤ time
theorem rise_rem {R : List Ent} {k : ByteArray} {T : List Value} {time : Int} (h : R.Pairwise fun a b => a.2.2 < b.2.2) (hle : ∀ x ∈ R, x.2.2 ≤ time) : (rem k R ++ [(k, T, time + 1)]).Pairwise fun a b => a.2.2 < b.2.2 := by
  refine List.pairwise_append.2 ⟨h.sublist List.filter_sublist, by simp, fun a ha b hb => ?_⟩
  simp at hb
  subst hb
  have := hle a (List.mem_filter.1 ha).1
  show a.2.2 < time + 1
  omega
theorem row_rem {R : List Ent} {k : ByteArray} {T : List Value} {t : Int} (h : ∀ x ∈ R, rowOK x) (hT : T.length = 256) (ho : T.all (·.oneCell') = true) : ∀ x ∈ rem k R ++ [(k, T, t)], rowOK x := by
  intro x hx
  rcases List.mem_append.1 hx with hx | hx
  · exact h x (List.mem_filter.1 hx).1
  · simp at hx; subst hx; exact ⟨hT, ho⟩
theorem le_rem {R : List Ent} {k : ByteArray} {T : List Value} {time : Int} (hle : ∀ x ∈ R, x.2.2 ≤ time) : ∀ x ∈ rem k R ++ [(k, T, time + 1)], x.2.2 ≤ time + 1 := by
  intro x hx
  rcases List.mem_append.1 hx with hx | hx
  · have := hle x (List.mem_filter.1 hx).1; omega
  · simp at hx; subst hx; exact Int.le_refl _

theorem cache_miss {b r : Nat} {k : ByteArray} {bud time h m ev : Int} {R : List Ent} {w : World} (hc : CacheIs b r bud time h m ev R w) (hk : k ∉ R.map (·.1)) (h0 : 0 ≤ m) (h1 : m ≤ 1000000000000) :
    Calls Tryz.prog 28 #[.pointer (some ⟨b, 0, none⟩), .string k] w fun e w' => e = .returned (.tuple #[.agg Z66, .bool false]) ∧ CacheIs b r bud time h (m + 1) ev R w' ∧ Turn [b, r] w w' := by
  obtain ⟨⟨es, cl, ty, q1, q2, q3⟩, q4, q5, q6⟩ := hc
  have hbr : b ≠ r := by rintro rfl; rw [q1] at q2; cases q2
  refine (get_miss b r k bud time h m ev w es cl ty q1 q2 h0 h1 (q3.find_none hk)).mono ?_
  rintro e w' ⟨rfl, p1, p2⟩
  refine ⟨rfl, ⟨⟨es, cl, ty, p1, ?_, q3⟩, q4, q5, q6⟩, p2.mono (by simp)⟩
  rw [p2.old r (Array.getElem?_eq_some_iff.1 q2).1 (by simp [Ne.symm hbr])]; exact q2
theorem cache_hit {b r : Nat} {x : Ent} {bud time h m ev : Int} {R : List Ent} {w : World} (hc : CacheIs b r bud time h m ev R w) (hx : x ∈ R) (h0 : 0 ≤ h) (h1 : h ≤ 1000000000000) (ht0 : 0 ≤ time) (ht1 : time ≤ 1000000000000) :
    Calls Tryz.prog 28 #[.pointer (some ⟨b, 0, none⟩), .string x.1] w fun e w' => e = .returned (.tuple #[.agg ⟨x.2.1⟩, .bool true]) ∧ CacheIs b r bud (time + 1) (h + 1) m ev (rem x.1 R ++ [(x.1, x.2.1, time + 1)]) w' ∧ Turn [b, r] w w' := by
  obtain ⟨⟨es, cl, ty, q1, q2, q3⟩, q4, q5, q6⟩ := hc
  obtain ⟨j, e, f1, f2, f3, f4⟩ := q3.find_some hx
  obtain ⟨es', cl', u1, u2⟩ := upd_any q3 r x.1 x.2.1 (time + 1)
  rw [f4] at f1
  refine (get_hit b r x.1 x.2.1 x.2.2 (q4 x hx).1 (q4 x hx).2 bud time h m ev w es cl ty q1 q2 h0 h1 ht0 ht1 j f1 es' cl' u1).mono ?_
  rintro e w' ⟨rfl, p1, p2, p3⟩
  exact ⟨rfl, ⟨⟨es', cl', ty, p1, p2, u2⟩, row_rem q4 (q4 x hx).1 (q4 x hx).2, rise_rem q5 q6, le_rem q6⟩, p3⟩
theorem EsIs.size {R : List Ent} {es : Array MapEntry} {cl : Nat} (h : EsIs R es cl) : es.size = R.length := by
  have := h.perm.length_eq
  simpa using this
theorem cache_put {b r : Nat} {k : ByteArray} {T : List Value} (hT : T.length = 256) (ho : T.all (·.oneCell') = true) {bud time h m ev : Int} {R : List Ent} {w : World} (hc : CacheIs b r bud time h m ev R w)
    (ht0 : 0 ≤ time) (ht1 : time < 1000000000000) (he0 : 0 ≤ ev) (he1 : ev ≤ 1000000000000) :
    Calls Tryz.prog 26 #[.pointer (some ⟨b, 0, none⟩), .string k, .agg ⟨T⟩] w fun e w' => e = .returned (.tuple #[]) ∧
      ((((rem k R).length + 1 : Int) ≤ bud ∧ CacheIs b r bud (time + 1) h m ev (rem k R ++ [(k, T, time + 1)]) w') ∨ (¬ ((rem k R).length + 1 : Int) ≤ bud ∧ CacheIs b r bud (time + 1) h m (ev + 1) (rem k R ++ [(k, T, time + 1)]).tail w')) ∧ Turn [b, r] w w' := by
  obtain ⟨⟨es, cl, ty, q1, q2, q3⟩, q4, q5, q6⟩ := hc
  have hlt : b < w.heap.size := (Array.getElem?_eq_some_iff.1 q1).1
  have hlr : r < w.heap.size := (Array.getElem?_eq_some_iff.1 q2).1
  have hbr : b ≠ r := by rintro rfl; rw [q1] at q2; cases q2
  obtain ⟨es', cl', u1, u2⟩ := upd_any q3 r k T (time + 1)
  have hrow := row_rem (k := k) (t := time + 1) q4 hT ho
  have hrise := rise_rem (k := k) (T := T) q5 q6
  have hle := le_rem (k := k) (T := T) q6
  have hsz : es'.size = (rem k R).length + 1 := by rw [u2.size]; simp
  have cf : ∀ w1 : World, w1.heap[b]? = some (.cells (cellsC bud r (time + 1) h m ev) ty (0, 0)) → w1.heap[r]? = some (.map es' cl') → CacheF b 0 r bud (time + 1) ev es' cl' w1 := by
    intro w1 a1 a2
    refine ⟨?_, ?_, ?_, ?_, ?_, a2⟩ <;> simp [World.cell?, World.frozen?, a1, cellsC]
  have huse := use_nice b r k T hT bud time h m ev (w.alloc (.cells ⟨T⟩ 66)) es cl ty (by rw [(MapKept.heap_alloc w _).2 b hlt]; exact q1) (by rw [(MapKept.heap_alloc w _).2 r hlr]; exact q2) ht0 (by omega) es' cl' u1
  refine (put_any b 0 k ⟨T⟩ hT w _ huse ?_).mono ?_
  · rintro w1 ⟨a1, a2, a3⟩
    refine ⟨r, bud, time + 1, ev, es', cl', cf w1 a1 a2, ?_⟩
    by_cases hfit : (es'.size : Int) ≤ bud
    · exact .inl hfit
    · exact .inr ⟨hfit, _, _, _, u2.ents hrow hle, by omega, by omega, he0, he1, by omega⟩
  · rintro e w' ⟨rfl, w1, ⟨a1, a2, a3⟩, r0, bud0, time0, ev0, es0, cl0, hcf0, hpost⟩
    have hcf := cf w1 a1 a2
    have i1 : r0 = r := by have := hcf0.c1.symm.trans hcf.c1; cases this; rfl
    subst i1
    have i2 : bud0 = bud := by have := hcf0.c0.symm.trans hcf.c0; cases this; rfl
    have i3 : ev0 = ev := by have := hcf0.c5.symm.trans hcf.c5; cases this; rfl
    have i4 : es0 = es' ∧ cl0 = cl' := by have := hcf0.mp.symm.trans hcf.mp; cases this; exact ⟨rfl, rfl⟩
    obtain ⟨i4, i5⟩ := i4
    rw [i2, i4] at hpost
    rw [i5, i3] at hpost
    have T1 : Turn [b, r0] w w1 := ((Turn.refl [b, r0] w).alloc _).trans a3
    rcases hpost with ⟨hfit, n, rfl⟩ | ⟨hfit, key, used, row, hef, i, x, hix, hmin, p1, p2, p3, p4, p5, p6, p7⟩
    · exact ⟨rfl, .inl ⟨by omega, ⟨⟨es', cl', ty, a1, a2, u2⟩, hrow, hrise, hle⟩⟩, T1.drawn n⟩
    · have hef2 := u2.ents hrow hle
      have hused : ∀ z ∈ es'.toList, used z = usedL z := by
        intro z hz
        have e1 := hef.la z hz
        have e2 := hef2.la z hz
        have e3 : row z = rowL z := by
          have := (hef.va z hz).symm.trans (hef2.va z hz)
          injection this
        rw [e3] at e1
        have := e1.symm.trans e2
        injection this with this
        injection this
      have hxm : x ∈ es'.toList := by
        rw [← Array.getElem?_toList] at hix
        exact List.mem_of_getElem? hix
      have hmin' : ∀ z ∈ es'.toList, usedL x ≤ usedL z := fun z hz => by rw [← hused x hxm, ← hused z hz]; exact hmin z hz
      obtain ⟨y, R', hR⟩ : ∃ y R', rem k R ++ [(k, T, time + 1)] = y :: R' := by
        cases hr : rem k R with
        | nil => exact ⟨_, _, rfl⟩
        | cons a l => exact ⟨_, _, rfl⟩
      rw [hR] at u2 hrow hrise hle ⊢
      refine ⟨rfl, .inr ⟨by omega, ⟨⟨_, cl', ty, ?_, p1, u2.drop hrow hrise hix hmin'⟩, fun z hz => hrow z (List.mem_cons_of_mem _ hz), (List.pairwise_cons.1 hrise).2, fun z hz => hle z (List.mem_cons_of_mem _ hz)⟩⟩, ?_⟩
      · rw [p2]
        simp only [World.setCell, Array.getElem?_modify, if_true, a1]; rfl
      · exact T1.trans ⟨p4, fun j hj hn => p3 j hj (fun e => hn (by simp [e])) (fun e => hn (by simp [e])), p5, p6, p7⟩
end Go.Proofs.YtbpklgllihhgpaaGreat
