/- The program's cache and the reference's, side by side: the small functions, plain laws, parts for the law of the caches. -/
import Derived.Test.YtbpklgllihhgpaaGreatUse
import Derived.Test.YtbpklgllihhgpaaGreatRGetH
import Derived.Test.YtbpklgllihhgpaaGreatCache
import Derived.Test.YtbpklgllihhgpaaGreatFill
import Derived.DeepKeys
namespace Go.Proofs.YtbpklgllihhgpaaGreat
open Go.RowKit
open Go.ChangeMaps (setBlock)

set_option maxRecDepth 100000 in
theorem stats_any (b r : Nat) (bud time h m ev : Int) (w : World) (ty : TypeId) (hb : w.heap[b]? = some (.cells (cellsC bud r time h m ev) ty (0, 0))) :
    Calls Tryz.prog 30 #[.pointer (some ⟨b, 0, none⟩)] w fun e w' => e = .returned (.tuple #[.int .i64 h, .int .i64 m, .int .i64 ev]) ∧ ∃ n, w' = w.drewN n := by
  have c3 : w.cell? ⟨b, 3, none⟩ = some (.int .i64 h) := by simp [World.cell?, hb, cellsC]
  have c4 : w.cell? ⟨b, 4, none⟩ = some (.int .i64 m) := by simp [World.cell?, hb, cellsC]
  have c5 : w.cell? ⟨b, 5, none⟩ = some (.int .i64 ev) := by simp [World.cell?, hb, cellsC]
  clear hb
  go_enter Tryz.func30, Tryz.ntmps30
  go_wp2_with fail
  go_quiet (fail)
  go_wp2_with fail
  go_ret3
  exact ⟨rfl, _, rfl⟩
set_option maxRecDepth 100000 in
theorem count_any (b r : Nat) (bud time h m ev : Int) (w : World) (ty : TypeId) (es : Array MapEntry) (cl : Nat) (hb : w.heap[b]? = some (.cells (cellsC bud r time h m ev) ty (0, 0))) (hm : w.heap[r]? = some (.map es cl)) :
    Calls Tryz.prog 31 #[.pointer (some ⟨b, 0, none⟩)] w fun e w' => e = .returned (.int .i64 es.size) ∧ w' = w := by
  have c1 : w.cell? ⟨b, 1, none⟩ = some (.map (some r)) := by simp [World.cell?, hb, cellsC]
  have hlen : ∀ ty, (Builtin.len_ #[124] ty #[.map (some r)]).run Tryz.prog w = .ok (.int .i64 es.size) w := fun ty => run_len_map Tryz.underlying124 hm
  clear hb hm
  go_enter Tryz.func31, Tryz.ntmps31
  go_wp2_with fail
  go_ret
  exact ⟨rfl, rfl⟩
theorem run_clear_map {w : World} {r : Nat} {es : Array MapEntry} {cl : Nat} (hm : w.heap[r]? = some (.map es cl)) (ty : TypeId) :
    (Builtin.clear_ #[124] ty #[.map (some r)]).run Tryz.prog w = .ok (.tuple #[]) (setBlock w r (.map #[] cl)) := by
  simp [Builtin.clear_, run_underlying Tryz.underlying124, MapKept.run_getObj_map hm, MapKept.run_setObj_map _ hm, Result.andThen, setBlock]
set_option maxRecDepth 100000 in
theorem clear_any (b r : Nat) (bud time h m ev : Int) (w : World) (ty : TypeId) (es : Array MapEntry) (cl : Nat) (hb : w.heap[b]? = some (.cells (cellsC bud r time h m ev) ty (0, 0))) (hm : w.heap[r]? = some (.map es cl)) :
    Calls Tryz.prog 23 #[.pointer (some ⟨b, 0, none⟩)] w fun e w' => e = .returned (.tuple #[]) ∧ w' = setBlock w r (.map #[] cl) := by
  have c1 : w.cell? ⟨b, 1, none⟩ = some (.map (some r)) := by simp [World.cell?, hb, cellsC]
  have hcl := fun ty => run_clear_map hm ty
  clear hb hm
  go_enter Tryz.func23, Tryz.ntmps23
  go_wp2_with fail
  go_end0
  exact ⟨rfl, rfl⟩
theorem make_map (w : World) : (Instr.makeMap 124 none).run Tryz.prog w = .ok (.map (some w.heap.size)) (w.alloc (.map #[] 0)) := by
  simp [Instr.makeMap, Result.andThen]
set_option maxRecDepth 100000 in
theorem new_any (n : Int) (w : World) :
    Calls Tryz.prog 22 #[.int .i64 n] w fun e w' => e = .returned (.pointer (some ⟨w.heap.size + 1, 0, none⟩)) ∧ w' = (w.alloc (.map #[] 0)).alloc (.cells (cellsC (max n 0) w.heap.size 0 0 0 0) 126) := by
  have hmk := make_map w
  by_cases hn : n < 0
  · have h1 : max n 0 = 0 := by omega
    rw [h1]
    clear h1
    go_enter Tryz.func22, Tryz.ntmps22
    go_wp2_with fail
    all_goals first | omega | (go_ret; exact ⟨rfl, rfl⟩)
  · have h1 : max n 0 = n := by omega
    rw [h1]
    clear h1
    go_enter Tryz.func22, Tryz.ntmps22
    go_wp2_with fail
    all_goals first | omega | (go_ret; exact ⟨rfl, rfl⟩)
end Go.Proofs.YtbpklgllihhgpaaGreat

namespace Go.Proofs.YtbpklgllihhgpaaGreat
open Go.RowKit Go.Den
open Go.ChangeMaps (setBlock)

def refOf (R : List Ent) : List REnt := R.map fun x => (x.1, x.2.1)
theorem refOf_keys (R : List Ent) : (refOf R).map (·.1) = R.map (·.1) := by simp [refOf]
theorem refOf_rem (k : ByteArray) (R : List Ent) : refOf (rem k R) = remR k (refOf R) := by
  unfold refOf rem remR
  rw [List.filter_map]; rfl
theorem refOf_snoc (R : List Ent) (k : ByteArray) (T : List Value) (t : Int) : refOf (R ++ [(k, T, t)]) = refOf R ++ [(k, T)] := by simp [refOf]
theorem refOf_tail (R : List Ent) : refOf R.tail = (refOf R).tail := by unfold refOf; rw [List.map_tail]
theorem refOf_len (R : List Ent) : (refOf R).length = R.length := by simp [refOf]

def isU8 (v : Value) : Bool := match v with | .int .u8 x => decide (0 ≤ x) && decide (x ≤ 255) | _ => false
def okU8 (T : List Value) : Prop := T.all isU8 = true
structure JointAt (W : World) (base bc rc bw : Nat) (n : Int) (i : Nat) (R : List Ent) (time h m ev : Int) (w : World) : Prop where
  c : CacheIs bc rc (max n 0) time h m ev R w
  r : RefIs base bw n h m ev (refOf R) w
  keys : (R.map (·.1)).Nodup
  len : (R.length : Int) ≤ max n 0
  n1 : n ≤ 800
  i1 : i ≤ 1000
  t0 : 0 ≤ time
  t1 : time ≤ i
  h0 : 0 ≤ h
  h1 : h ≤ i
  m0 : 0 ≤ m
  m1 : m ≤ i
  e0 : 0 ≤ ev
  e1 : ev ≤ i
  ext : Ext0 W w
  lc : W.heap.size ≤ bc
  lr : W.heap.size ≤ rc
  lw : W.heap.size ≤ bw
  uc : bc < base
  ur : rc < base
  uw : bw < base
  nc : bw ≠ bc
  nr : bw ≠ rc
  ub : base ≤ w.heap.size
  u8 : ∀ x ∈ R, okU8 x.2.1
def Joint (W : World) (base bc rc bw : Nat) (n : Int) (i : Nat) (w : World) : Prop := ∃ R time h m ev, JointAt W base bc rc bw n i R time h m ev w

theorem CacheIs.turn {bs : List Nat} {b r : Nat} {bud time h m ev : Int} {R : List Ent} {w w' : World} (hc : CacheIs b r bud time h m ev R w) (t : Turn bs w w') (hb : b ∉ bs) (hr : r ∉ bs) : CacheIs b r bud time h m ev R w' := by
  obtain ⟨⟨es, cl, ty, q1, q2, q3⟩, q4, q5, q6⟩ := hc
  exact ⟨⟨es, cl, ty, (t.old b (Array.getElem?_eq_some_iff.1 q1).1 hb).trans q1, (t.old r (Array.getElem?_eq_some_iff.1 q2).1 hr).trans q2, q3⟩, q4, q5, q6⟩
theorem CacheIs.turnA {base : Nat} {bs : List Nat} {b r : Nat} {bud time h m ev : Int} {R : List Ent} {w w' : World} (hc : CacheIs b r bud time h m ev R w) (t : TurnA base bs w w') (hb : b ∉ bs) (hr : r ∉ bs) (h1 : b < base) (h2 : r < base) : CacheIs b r bud time h m ev R w' := by
  obtain ⟨⟨es, cl, ty, q1, q2, q3⟩, q4, q5, q6⟩ := hc
  exact ⟨⟨es, cl, ty, (t.old b (Array.getElem?_eq_some_iff.1 q1).1 h1 hb).trans q1, (t.old r (Array.getElem?_eq_some_iff.1 q2).1 h2 hr).trans q2, q3⟩, q4, q5, q6⟩
theorem RefIs.turn {bs : List Nat} {base b : Nat} {bud h m ev : Int} {R : List REnt} {w w' : World} (hr : RefIs base b bud h m ev R w) (t : Turn bs w w') (hb : b ∉ bs) (hs : ∀ g ∈ bs, g < base) : RefIs base b bud h m ev R w' := by
  obtain ⟨⟨vk, vt, q1, q2, q3⟩, q4⟩ := hr
  refine ⟨⟨vk, vt, (t.old b (Array.getElem?_eq_some_iff.1 q1).1 hb).trans q1, q2.keep fun g hg => ?_, q3.keep fun g hg => ?_⟩, q4⟩
  · exact t.old g (q2.lt g hg).2.1 fun hm => by have := hs g hm; have := (q2.lt g hg).1; omega
  · exact t.old g (q3.lt g hg).2.1 fun hm => by have := hs g hm; have := (q3.lt g hg).1; omega
theorem ext_turn {W w w' : World} {bs : List Nat} (h : Ext0 W w) (t : Turn bs w w') (hb : ∀ g ∈ bs, W.heap.size ≤ g) : Ext0 W w' :=
  ⟨Nat.le_trans h.size t.size, fun j hj => (t.old j (Nat.lt_of_lt_of_le hj h.size) fun hm => by have := hb j hm; omega).trans (h.old j hj), t.os.trans h.os, t.tape.trans h.tape, t.output.trans h.output⟩
theorem ext_turnA {W w w' : World} {base : Nat} {bs : List Nat} (h : Ext0 W w) (t : TurnA base bs w w') (hb : ∀ g ∈ bs, W.heap.size ≤ g) (hl : W.heap.size ≤ base) : Ext0 W w' :=
  ⟨Nat.le_trans h.size t.size, fun j hj => (t.old j (Nat.lt_of_lt_of_le hj h.size) (by omega) fun hm => by have := hb j hm; omega).trans (h.old j hj), t.os.trans h.os, t.tape.trans h.tape, t.output.trans h.output⟩
namespace JointAt
variable {W : World} {base bc rc bw : Nat} {n : Int} {i : Nat} {R : List Ent} {time h m ev : Int} {w w' : World}
theorem turn (J : JointAt W base bc rc bw n i R time h m ev w) (t : Turn [] w w') : JointAt W base bc rc bw n i R time h m ev w' :=
  { J with c := J.c.turn t (by simp) (by simp), r := J.r.kept t, ext := ext_turn J.ext t (by simp), ub := Nat.le_trans J.ub t.size }
end JointAt
theorem Joint.turn {W : World} {base bc rc bw : Nat} {n : Int} {i : Nat} {w w' : World} (h : Joint W base bc rc bw n i w) (t : Turn [] w w') : Joint W base bc rc bw n i w' := by
  obtain ⟨R, a, b, c, d, J⟩ := h
  exact ⟨R, a, b, c, d, J.turn t⟩

theorem Joint.lt {W : World} {base bc rc bw : Nat} {n : Int} {i : Nat} {w : World} (h : Joint W base bc rc bw n i w) : bc < w.heap.size ∧ rc < w.heap.size ∧ bw < w.heap.size := by
  obtain ⟨R, a, b, c, d, J⟩ := h
  have := J.uc; have := J.ur; have := J.uw; have := J.ub
  omega
def HalfP (W : World) (base bc rc bw : Nat) (n : Int) (i : Nat) (k : ByteArray) (T : List Value) (w1 : World) : Prop :=
  ∀ w', Turn [] w1 w' → Calls Tryz.prog 27 #[.pointer (some ⟨bw, 0, none⟩), .string k, .agg ⟨T⟩] w' fun e w2 => e = .returned (.tuple #[]) ∧ Joint W base bc rc bw n (i + 1) w2
theorem joint_put {W : World} {base bc rc bw : Nat} {n : Int} {i : Nat} {w : World} (hJ : Joint W base bc rc bw n i w) (hi : i < 1000) (k : ByteArray) {T : List Value} (hT : T.length = 256) (ho : T.all (·.oneCell') = true) (hu : okU8 T) :
    Calls Tryz.prog 26 #[.pointer (some ⟨bc, 0, none⟩), .string k, .agg ⟨T⟩] w fun e w1 => e = .returned (.tuple #[]) ∧ HalfP W base bc rc bw n i k T w1 ∧ Turn [bc, rc] w w1 := by
  obtain ⟨R, time, h, m, ev, J⟩ := hJ
  have b1 := J.t1; have b2 := J.h1; have b3 := J.m1; have b4 := J.e1; have b5 := J.i1
  have b6 := J.t0; have b7 := J.h0; have b8 := J.m0; have b9 := J.e0; have b10 := J.n1; have b11 := J.len
  refine (cache_put hT ho J.c J.t0 (by omega) J.e0 (by omega) (k := k)).mono ?_
  rintro e w1 ⟨rfl, hc, t1⟩
  refine ⟨rfl, fun w' t' => ?_, t1⟩
  have tt := (t1.trans (t'.mono (cs := [bc, rc]) (by simp)))
  have hr : RefIs base bw n h m ev (refOf R) w' := J.r.turn tt (by simp [J.nc, J.nr]) (by simp [J.uc, J.ur])
  have hlen : (rem k R).length ≤ R.length := List.length_filter_le _ _
  have hkk : ((refOf R).map (·.1)).Nodup := by rw [refOf_keys]; exact J.keys
  refine (rput (k := k) (T := T) hr hkk (by rw [refOf_len]; omega) J.uw (Nat.le_trans J.ub tt.size) hT ho J.e0 (by omega) (by omega)).mono ?_
  rintro e w2 ⟨rfl, hp, tA⟩
  refine ⟨rfl, ?_⟩
  have hext := ext_turnA (ext_turn J.ext tt (by simp [J.lc, J.lr])) tA (by simp [J.lw]) (by have := J.lc; have := J.uc; omega)
  have hub : base ≤ w2.heap.size := Nat.le_trans (Nat.le_trans J.ub tt.size) tA.size
  rw [← refOf_rem, refOf_len] at hp
  have hnd : ((rem k R ++ [(k, T, time + 1)]).map (·.1)).Nodup := by
    simp only [List.map_append, List.map_cons, List.map_nil]
    refine List.nodup_append.2 ⟨rem_keys J.keys, by simp, fun a ha b hb => ?_⟩
    simp at hb
    subst hb
    rintro rfl
    exact rem_not ha
  have hu8 : ∀ x ∈ rem k R ++ [(k, T, time + 1)], okU8 x.2.1 := by
    intro x hx
    rcases List.mem_append.1 hx with hx | hx
    · exact J.u8 x (List.mem_filter.1 hx).1
    · simp at hx; subst hx; exact hu
  rcases hc with ⟨f1, hc⟩ | ⟨f1, hc⟩
  · rcases hp with ⟨f2, hp⟩ | ⟨f2, hp⟩
    · have hc2 := (hc.turn t' (by simp) (by simp)).turnA tA (by simp [Ne.symm J.nc]) (by simp [Ne.symm J.nr]) J.uc J.ur
      refine ⟨rem k R ++ [(k, T, time + 1)], time + 1, h, m, ev, { J with u8 := hu8, c := hc2, r := by rw [refOf_snoc]; exact hp, keys := hnd, len := ?_, i1 := by omega, t0 := by omega, t1 := by omega, h1 := by omega, m1 := by omega, e1 := by omega, ext := hext, ub := hub }⟩
      simp; omega
    · exact absurd f1 f2
  · rcases hp with ⟨f2, hp⟩ | ⟨f2, hp⟩
    · exact absurd f2 f1
    · have hc2 := (hc.turn t' (by simp) (by simp)).turnA tA (by simp [Ne.symm J.nc]) (by simp [Ne.symm J.nr]) J.uc J.ur
      refine ⟨(rem k R ++ [(k, T, time + 1)]).tail, time + 1, h, m, ev + 1, { J with u8 := fun x hx => hu8 x (List.mem_of_mem_tail hx), c := hc2, r := by rw [refOf_tail, refOf_snoc]; exact hp, keys := ?_, len := ?_, i1 := by omega, t0 := by omega, t1 := by omega, h1 := by omega, m1 := by omega, e0 := by omega, e1 := by omega, ext := hext, ub := hub }⟩
      · rw [List.map_tail]; exact hnd.sublist (List.tail_sublist _)
      · simp; omega
theorem z66_u8 : okU8 Z66.toList := by
  unfold okU8
  kernel_rfl
def HalfG (W : World) (base bc rc bw : Nat) (n : Int) (i : Nat) (k : ByteArray) (T : List Value) (ok : Bool) (w1 : World) : Prop :=
  ∀ w', Turn [] w1 w' → Calls Tryz.prog 29 #[.pointer (some ⟨bw, 0, none⟩), .string k] w' fun e w2 => e = .returned (.tuple #[.agg ⟨T⟩, .bool ok]) ∧ Joint W base bc rc bw n (i + 1) w2 ∧ TurnA w'.heap.size [bw] w' w2
def GetPost (W : World) (base bc rc bw : Nat) (n : Int) (i : Nat) (k : ByteArray) (w : World) (e : Ending) (w1 : World) : Prop :=
  ∃ T ok, e = .returned (.tuple #[.agg ⟨T⟩, .bool ok]) ∧ T.length = 256 ∧ T.all (·.oneCell') = true ∧ okU8 T ∧ HalfG W base bc rc bw n i k T ok w1 ∧ Turn [bc, rc] w w1
theorem joint_get {W : World} {base bc rc bw : Nat} {n : Int} {i : Nat} {w : World} (hJ : Joint W base bc rc bw n i w) (hi : i < 1000) (k : ByteArray) :
    Calls Tryz.prog 28 #[.pointer (some ⟨bc, 0, none⟩), .string k] w (GetPost W base bc rc bw n i k w) := by
  obtain ⟨R, time, h, m, ev, J⟩ := hJ
  have b1 := J.t1; have b2 := J.h1; have b3 := J.m1; have b4 := J.e1; have b5 := J.i1
  have b6 := J.t0; have b7 := J.h0; have b8 := J.m0; have b9 := J.e0; have b10 := J.n1; have b11 := J.len
  by_cases hk : k ∈ R.map (·.1)
  · obtain ⟨x, hx, rfl⟩ := List.mem_map.1 hk
    refine (cache_hit J.c hx J.h0 (by omega) J.t0 (by omega)).mono ?_
    rintro e w1 ⟨rfl, hc, t1⟩
    refine ⟨x.2.1, true, rfl, (J.c.row x hx).1, (J.c.row x hx).2, J.u8 x hx, fun w' t' => ?_, t1⟩
    have tt := (t1.trans (t'.mono (cs := [bc, rc]) (by simp)))
    have hr : RefIs base bw n h m ev (refOf R) w' := J.r.turn tt (by simp [J.nc, J.nr]) (by simp [J.uc, J.ur])
    obtain ⟨A, B, hAB⟩ := List.append_of_mem hx
    have hnk := J.keys
    rw [hAB, List.map_append, List.map_cons] at hnk
    have hxA : x.1 ∉ A.map (·.1) := fun hm => (List.nodup_append.1 hnk).2.2 _ hm _ (by simp) rfl
    have hxB : x.1 ∉ B.map (·.1) := (List.nodup_cons.1 (List.nodup_append.1 hnk).2.1).1
    have hrem : rem x.1 R = A ++ B := by
      have e1 := rem_none hxA
      have e2 := rem_none hxB
      rw [hAB]
      unfold rem at *
      rw [List.filter_append, e1, List.filter_cons_of_neg (by simp), e2]
    have hre : refOf R = refOf A ++ (x.1, x.2.1) :: refOf B := by rw [hAB]; simp [refOf]
    have hlenR : R.length = A.length + B.length + 1 := by rw [hAB]; simp; omega
    rw [hre] at hr
    refine (rget_hit hr (by rw [refOf_keys]; exact hxA) (by simp [refOf_len]; omega) J.uw (Nat.le_trans J.ub tt.size) J.h0 (by omega)).mono ?_
    rintro e w2 ⟨rfl, hp, tA⟩
    refine ⟨rfl, ?_, tA⟩
    have tA := turnA_base tA (Nat.le_trans J.ub tt.size)
    have hext := ext_turnA (ext_turn J.ext tt (by simp [J.lc, J.lr])) tA (by simp [J.lw]) (by have := J.lc; have := J.uc; omega)
    have hub : base ≤ w2.heap.size := Nat.le_trans (Nat.le_trans J.ub tt.size) tA.size
    have hc2 := (hc.turn t' (by simp) (by simp)).turnA tA (by simp [Ne.symm J.nc]) (by simp [Ne.symm J.nr]) J.uc J.ur
    have hu8 : ∀ y ∈ rem x.1 R ++ [(x.1, x.2.1, time + 1)], okU8 y.2.1 := by
      intro y hy
      rcases List.mem_append.1 hy with hy | hy
      · exact J.u8 y (List.mem_filter.1 hy).1
      · simp at hy; subst hy; exact J.u8 x hx
    refine ⟨rem x.1 R ++ [(x.1, x.2.1, time + 1)], time + 1, h + 1, m, ev, { J with u8 := hu8, c := hc2, r := ?_, keys := ?_, len := ?_, i1 := by omega, t0 := by omega, t1 := by omega, h0 := by omega, h1 := by omega, m1 := by omega, e1 := by omega, ext := hext, ub := hub }⟩
    · rw [refOf_snoc, hrem]
      have : refOf (A ++ B) = refOf A ++ refOf B := by simp [refOf]
      rw [this]; exact hp
    · simp only [List.map_append, List.map_cons, List.map_nil]
      refine List.nodup_append.2 ⟨rem_keys J.keys, by simp, fun a ha b hb => ?_⟩
      simp at hb
      subst hb
      rintro rfl
      exact rem_not ha
    · rw [hrem]; simp; omega
  · refine (cache_miss J.c hk J.m0 (by omega)).mono ?_
    rintro e w1 ⟨rfl, hc, t1⟩
    refine ⟨Z66.toList, false, by simp, by rw [Array.length_toList]; exact sizeZ66, by have := oneZ66; simpa using this, z66_u8, fun w' t' => ?_, t1⟩
    have tt := (t1.trans (t'.mono (cs := [bc, rc]) (by simp)))
    have hr : RefIs base bw n h m ev (refOf R) w' := J.r.turn tt (by simp [J.nc, J.nr]) (by simp [J.uc, J.ur])
    refine (rget_miss (k := k) hr (by rw [refOf_keys]; exact hk) (by rw [refOf_len]; omega) J.uw (Nat.le_trans J.ub tt.size) J.m0 (by omega)).mono ?_
    rintro e w2 ⟨rfl, hp, tA⟩
    refine ⟨by simp, ?_, tA⟩
    have tA := turnA_base tA (Nat.le_trans J.ub tt.size)
    have hext := ext_turnA (ext_turn J.ext tt (by simp [J.lc, J.lr])) tA (by simp [J.lw]) (by have := J.lc; have := J.uc; omega)
    have hub : base ≤ w2.heap.size := Nat.le_trans (Nat.le_trans J.ub tt.size) tA.size
    have hc2 := (hc.turn t' (by simp) (by simp)).turnA tA (by simp [Ne.symm J.nc]) (by simp [Ne.symm J.nr]) J.uc J.ur
    exact ⟨R, time, h, m + 1, ev, { J with c := hc2, r := hp, i1 := by omega, t1 := by omega, h1 := by omega, m0 := by omega, m1 := by omega, e1 := by omega, ext := hext, ub := hub }⟩
end Go.Proofs.YtbpklgllihhgpaaGreat

namespace Go.Proofs.YtbpklgllihhgpaaGreat
open Go.RowKit Go.Den
open Go.ChangeMaps (setBlock)

def restN (x n : Int) : Int := (x.tmod n + n).tmod n
theorem tmod_bd (x n : Int) (hn : 1 ≤ n) : -n < x.tmod n ∧ x.tmod n < n := by
  refine ⟨?_, Int.tmod_lt_of_pos x (by omega)⟩
  have h := Int.tmod_lt_of_pos (-x) (show (0 : Int) < n by omega)
  rw [Int.neg_tmod] at h
  omega
theorem restN_bd (x n : Int) (hn : 1 ≤ n) : 0 ≤ restN x n ∧ restN x n < n := by
  unfold restN
  have h := tmod_bd x n hn
  exact ⟨Int.tmod_nonneg _ (by omega), Int.tmod_lt_of_pos _ (by omega)⟩
theorem rest8 (x : Int) (w : World) : Calls Tryz.prog 21 #[.int .i64 x, .int .i64 8] w fun e w' => e = .returned (.int .i64 (restN x 8)) ∧ w = w' := by
  obtain ⟨h2, h3⟩ := tmod_bd x 8 (by omega)
  have e : (x.tmod 8 + 8).tmod 8 = (x.tmod 8 + 8) % 8 := Int.tmod_eq_emod_of_nonneg (by omega)
  unfold restN
  rw [e]
  clear e
  go_enter Tryz.func21, Tryz.ntmps21
  go_wp2
  go_ret
  exact ⟨rfl, rfl⟩
theorem rest100 (x : Int) (w : World) : Calls Tryz.prog 21 #[.int .i64 x, .int .i64 100] w fun e w' => e = .returned (.int .i64 (restN x 100)) ∧ w = w' := by
  obtain ⟨h2, h3⟩ := tmod_bd x 100 (by omega)
  have e : (x.tmod 100 + 100).tmod 100 = (x.tmod 100 + 100) % 100 := Int.tmod_eq_emod_of_nonneg (by omega)
  unfold restN
  rw [e]
  clear e
  go_enter Tryz.func21, Tryz.ntmps21
  go_wp2
  go_ret
  exact ⟨rfl, rfl⟩

structure Cleared (W : World) (base bc rc bw : Nat) (n : Int) (i : Nat) (w1 : World) : Prop where
  c1 : ∃ x, w1.cell? ⟨bw, 1, none⟩ = some x
  c2 : ∃ x, w1.cell? ⟨bw, 2, none⟩ = some x
  f1 : w1.frozen? ⟨bw, 1, none⟩ = false
  f2 : w1.frozen? ⟨bw, 2, none⟩ = false
  j : Joint W base bc rc bw n i ((w1.setCell ⟨bw, 1, none⟩ (.slice none 0 0)).setCell ⟨bw, 2, none⟩ (.slice none 0 0))
theorem joint_clear {W : World} {base bc rc bw : Nat} {n : Int} {i : Nat} {w : World} (hJ : Joint W base bc rc bw n i w) :
    Calls Tryz.prog 23 #[.pointer (some ⟨bc, 0, none⟩)] w fun e w1 => e = .returned (.tuple #[]) ∧ Cleared W base bc rc bw n i w1 := by
  obtain ⟨R, time, h, m, ev, J⟩ := hJ
  obtain ⟨⟨es, cl, ty, q1, q2, q3⟩, q4, q5, q6⟩ := J.c
  have hlr : rc < w.heap.size := (Array.getElem?_eq_some_iff.1 q2).1
  have hcr : bc ≠ rc := by rintro rfl; rw [q1] at q2; cases q2
  refine (clear_any bc rc _ _ _ _ _ w ty es cl q1 q2).mono ?_
  rintro e w1 ⟨rfl, rfl⟩
  refine ⟨rfl, ?_⟩
  have t1 : Turn [rc] w (setBlock w rc (.map #[] cl)) := (Turn.refl _ w).setBlock _ (.inl (by simp))
  have hr := J.r.turn t1 (by simp [J.nr]) (by simp [J.ur])
  have p1 := (t1.old bc (Array.getElem?_eq_some_iff.1 q1).1 (by simp [hcr])).trans q1
  have p2 : (setBlock w rc (.map #[] cl)).heap[rc]? = some (.map #[] cl) := by
    simp only [setBlock]
    rw [Array.getElem?_setIfInBounds, if_pos rfl, if_pos hlr]
  obtain ⟨A, c, A', c', r1, r2, r3, r4⟩ := after_take hr
  have hub := Nat.le_trans J.ub t1.size
  have hext := ext_turn J.ext t1 (by simp [J.lr])
  generalize setBlock w rc (.map #[] cl) = U at *
  have x1 := setCell_block (i := 1) (v := .slice none 0 0) r1
  have x2 := setCell_block (i := 2) (v := .slice none 0 0) x1
  have tt : Turn [bw] U ((U.setCell ⟨bw, 1, none⟩ (.slice none 0 0)).setCell ⟨bw, 2, none⟩ (.slice none 0 0)) := ((Turn.refl _ U).setCell _ (.inl (by simp))).setCell _ (.inl (by simp))
  refine ⟨⟨_, cR r1 1⟩, ⟨_, cR r1 2⟩, fR r1 1, fR r1 2, ?_⟩
  refine ⟨[], time, h, m, ev, { J with u8 := by simp, c := ?_, r := ?_, keys := by simp, len := by simp; omega, ext := ext_turn hext tt (by simp [J.lw]), ub := Nat.le_trans hub tt.size }⟩
  · refine ⟨⟨#[], cl, ty, (tt.old bc (Array.getElem?_eq_some_iff.1 p1).1 (by simp [Ne.symm J.nc])).trans p1, (tt.old rc (Array.getElem?_eq_some_iff.1 p2).1 (by simp [Ne.symm J.nr])).trans p2, ⟨by simp, by simp, by simp, by simp⟩⟩, by simp, by simp, by simp⟩
  · exact ⟨⟨.slice none 0 0, .slice none 0 0, x2, SRow.nil _ _ _ _, SRow.nil _ _ _ _⟩, by simp [refOf]⟩

structure Look (bc bw : Nat) (n : Int) (N : Nat) (A : Option Addr) (cp : Nat) (h m ev : Int) (w : World) : Prop where
  cnt : ∀ q, Calls Tryz.prog 31 #[.pointer (some ⟨bc, 0, none⟩)] (w.drewN q) fun e w' => e = .returned (.int .i64 N) ∧ w' = w.drewN q
  k : w.cell? ⟨bw, 1, none⟩ = some (.slice A N cp)
  s3 : w.cell? ⟨bw, 3, none⟩ = some (.int .i64 h)
  s4 : w.cell? ⟨bw, 4, none⟩ = some (.int .i64 m)
  s5 : w.cell? ⟨bw, 5, none⟩ = some (.int .i64 ev)
  le : (N : Int) ≤ max n 0
theorem joint_look {W : World} {base bc rc bw : Nat} {n : Int} {i : Nat} {w : World} (hJ : Joint W base bc rc bw n i w) :
    ∃ N A cp h m ev, Look bc bw n N A cp h m ev w ∧ Calls Tryz.prog 30 #[.pointer (some ⟨bc, 0, none⟩)] w fun e w' => e = .returned (.tuple #[.int .i64 h, .int .i64 m, .int .i64 ev]) ∧ ∃ q, w' = w.drewN q := by
  obtain ⟨R, time, h, m, ev, J⟩ := hJ
  obtain ⟨⟨es, cl, ty, q1, q2, q3⟩, q4, q5, q6⟩ := J.c
  obtain ⟨A, c, A', c', r1, r2, r3, r4⟩ := after_take J.r
  refine ⟨R.length, A, c, h, m, ev, ⟨fun q => ?_, ?_, cR r1 3, cR r1 4, cR r1 5, J.len⟩, stats_any bc rc _ _ _ _ _ w ty q1⟩
  · have := count_any bc rc _ _ _ _ _ (w.drewN q) ty es cl q1 q2
    rw [q3.size] at this
    exact this
  · have := cR r1 1
    rw [refOf_len] at this
    exact this
theorem joint_init (W : World) (n : Int) (hn : n ≤ 800) (u : World) (he : Ext0 W u) :
    Joint W (u.heap.size + 3) (u.heap.size + 1) u.heap.size (u.heap.size + 2) n 0 (((u.alloc (.map #[] 0)).alloc (.cells (cellsC (max n 0) u.heap.size 0 0 0 0) 126)).alloc (.cells (cellsR n (.slice none 0 0) (.slice none 0 0) 0 0 0) 58)) := by
  have hsz := he.size
  have hse : ∀ (u : World) (o : Obj), (u.alloc o).heap.size = u.heap.size + 1 := fun u o => by show (u.heap.push o).size = _; simp
  have s1 := hse u (.map #[] 0)
  have s2 := hse (u.alloc (.map #[] 0)) (.cells (cellsC (max n 0) u.heap.size 0 0 0 0) 126)
  have s3 := hse ((u.alloc (.map #[] 0)).alloc (.cells (cellsC (max n 0) u.heap.size 0 0 0 0) 126)) (.cells (cellsR n (.slice none 0 0) (.slice none 0 0) 0 0 0) 58)
  have a1 := heap_alloc_new u (.map #[] 0)
  have a2 := heap_alloc_new (u.alloc (.map #[] 0)) (.cells (cellsC (max n 0) u.heap.size 0 0 0 0) 126)
  have a3 := heap_alloc_new ((u.alloc (.map #[] 0)).alloc (.cells (cellsC (max n 0) u.heap.size 0 0 0 0) 126)) (.cells (cellsR n (.slice none 0 0) (.slice none 0 0) 0 0 0) 58)
  rw [s1] at a2
  rw [s2, s1] at a3
  have b1 := ((MapKept.heap_alloc _ (.cells (cellsR n (.slice none 0 0) (.slice none 0 0) 0 0 0) 58)).2 u.heap.size (by omega)).trans (((MapKept.heap_alloc _ (.cells (cellsC (max n 0) u.heap.size 0 0 0 0) 126)).2 u.heap.size (by omega)).trans a1)
  have b2 := ((MapKept.heap_alloc _ (.cells (cellsR n (.slice none 0 0) (.slice none 0 0) 0 0 0) 58)).2 (u.heap.size + 1) (by omega)).trans a2
  refine ⟨[], 0, 0, 0, 0, { c := ⟨⟨#[], 0, 126, b2, b1, ⟨by simp, by simp, by simp, by simp⟩⟩, by simp, by simp, by simp⟩, r := ⟨⟨_, _, a3, SRow.nil _ _ _ _, SRow.nil _ _ _ _⟩, by simp [refOf]⟩, keys := by simp, len := by simp; omega, n1 := hn, i1 := by omega, t0 := by omega, t1 := by omega, h0 := by omega, h1 := by omega, m0 := by omega, m1 := by omega, e0 := by omega, e1 := by omega, ext := ((he.alloc _).alloc _).alloc _, lc := by omega, lr := by omega, lw := by omega, uc := by omega, ur := by omega, uw := by omega, nc := by omega, nr := by omega, ub := by omega, u8 := by simp }⟩

theorem mapM_some {α β : Type} {f : α → Option β} : ∀ {l : List α}, (∀ i ∈ l, ∃ y, f i = some y) → ∃ ys, l.mapM f = some ys
  | [], _ => ⟨[], rfl⟩
  | a :: l, h => by
    obtain ⟨y, hy⟩ := h a (by simp)
    obtain ⟨ys, hys⟩ := mapM_some (l := l) fun i hi => h i (by simp [hi])
    exact ⟨y :: ys, by simp [List.mapM_cons, hy, hys]⟩
theorem cells66 : Tryz.prog.cellsOf 66 = 256 := by kernel_rfl
theorem cells64 : Tryz.prog.cellsOf 64 = 4 := by kernel_rfl
theorem cells5 : Tryz.prog.cellsOf 5 = 1 := by kernel_rfl
theorem key66 : Tryz.prog.keyTypeAt 10 66 = true := by kernel_rfl
theorem lits_u8 {v : Value} (h : isU8 v = true) : ∃ y, Tryz.prog.keyLits 1 5 [v] = some y := by
  unfold isU8 at h
  split at h
  · rename_i x
    simp at h
    refine ⟨[.int .u8 x], ?_⟩
    have hwf : (Lit.int .u8 x).wf = true := WalkArith.wf_u8 (by omega)
    simp [Program.keyLits, Tryz.underlying5, hwf]
  · cases h
theorem lits_pix {c : List Value} (hl : c.length = 4) (h : c.all isU8 = true) : ∃ y, Tryz.prog.keyLits 2 64 c = some y := by
  match c, hl with
  | [a, b, d, e], _ =>
    simp only [List.all_cons, List.all_nil, Bool.and_true, Bool.and_eq_true] at h
    obtain ⟨ya, ha⟩ := lits_u8 h.1
    obtain ⟨yb, hb⟩ := lits_u8 h.2.1
    obtain ⟨yd, hd⟩ := lits_u8 h.2.2.1
    obtain ⟨ye, he⟩ := lits_u8 h.2.2.2
    refine ⟨[ya, yb, yd, ye].flatten, ?_⟩
    unfold Program.keyLits
    simp [Tryz.underlying64, cells64, cells5, ha, hb, hd, he]
theorem lits_tile {T : List Value} (hT : T.length = 256) (hu : okU8 T) : ∃ y, Tryz.prog.keyLits 3 66 T = some y := by
  obtain ⟨ys, hys⟩ := mapM_some (f := fun i => Tryz.prog.keyLits 2 64 ((T.drop (i * Tryz.prog.cellsOf 64)).take (Tryz.prog.cellsOf 64))) (l := List.range 64) fun i hi => by
    have hi := List.mem_range.1 hi
    rw [cells64]
    refine lits_pix (by simp; omega) ?_
    unfold okU8 at hu
    rw [List.all_eq_true] at hu ⊢
    exact fun v hv => hu v (List.mem_of_mem_drop (List.mem_of_mem_take hv))
  refine ⟨ys.flatten, ?_⟩
  unfold Program.keyLits
  simp only [Tryz.underlying66, cells66, hT, if_true]
  rw [hys]
  rfl
theorem tile_eq {T : List Value} (hT : T.length = 256) (hu : okU8 T) (w : World) : (Op.equalIn 10000 66 (.agg ⟨T⟩) (.agg ⟨T⟩)).run Tryz.prog w = .ok true w := by
  obtain ⟨y, hy⟩ := lits_tile hT hu
  have hf : (Value.agg ⟨T⟩).formed Tryz.prog 66 = true := by
    simp [Value.formed, Tryz.underlying66, cells66, hT]
  have hc : (Value.agg ⟨T⟩).cells.toList = T := by simp [Value.cells]
  obtain ⟨r, hr, hiff⟩ := run_equalIn_deep (P := Tryz.prog) 9990 10 66 key66 w 3 3 (.agg ⟨T⟩) (.agg ⟨T⟩) y y hf hf (by rw [hc]; exact hy) (by rw [hc]; exact hy)
  rw [hiff.2 rfl] at hr
  exact hr
theorem fill_all (f : Value → Bool) (p : List Value) (n : Nat) (hp : p.all f = true) (h0 : f (.int .u8 0) = true) : (fillRow p n).all f = true := by
  unfold fillRow
  rw [List.all_eq_true] at hp ⊢
  intro v hv
  rcases List.mem_append.1 hv with hv | hv
  · obtain ⟨q, hq, hvq⟩ := List.mem_flatten.1 hv
    rw [(List.mem_replicate.1 hq).2] at hvq
    exact hp v hvq
  · rw [(List.mem_replicate.1 hv).2]; exact h0
theorem fill_ok (a b c d : Int) (h : (isU8 (.int .u8 a) && isU8 (.int .u8 b) && isU8 (.int .u8 c) && isU8 (.int .u8 d)) = true) : (fillRow [.int .u8 a, .int .u8 b, .int .u8 c, .int .u8 d] 64).length = 256 ∧ (fillRow [.int .u8 a, .int .u8 b, .int .u8 c, .int .u8 d] 64).all (·.oneCell') = true ∧ okU8 (fillRow [.int .u8 a, .int .u8 b, .int .u8 c, .int .u8 d] 64) := by
  simp only [Bool.and_eq_true] at h
  exact ⟨fillRow_len _ rfl 64 (by omega), fill_all _ _ _ rfl rfl, fill_all _ _ _ (by simp [h.1.1.1, h.1.1.2, h.1.2, h.2]) rfl⟩
end Go.Proofs.YtbpklgllihhgpaaGreat
