/- The program's map of used tiles as a list in the order of use: plain laws, no program in sight but for the map's entries. -/
import Derived.Test.YtbpklgllihhgpaaGreatUse
namespace Go.Proofs.YtbpklgllihhgpaaGreat

/-- the entries without key k -/
def rem (k : ByteArray) (R : List Ent) : List Ent := R.filter fun x => decide (x.1 ≠ k)
structure EsIs (R : List Ent) (es : Array MapEntry) (cl : Nat) : Prop where
  perm : (es.toList.map fun e => (e.key, e.val)).Perm (R.map encE)
  born : ∀ e ∈ es.toList, e.born < cl
  nd : (es.toList.map (·.born)).Nodup
  keys : (R.map (·.1)).Nodup

theorem rem_none {k : ByteArray} {R : List Ent} (h : k ∉ R.map (·.1)) : rem k R = R := by
  refine List.filter_eq_self.2 fun x hx => decide_eq_true fun e => h ?_
  rw [← e]; exact List.mem_map_of_mem hx
theorem rem_keys {k : ByteArray} {R : List Ent} (h : (R.map (·.1)).Nodup) : ((rem k R).map (·.1)).Nodup := h.sublist (List.Sublist.map _ List.filter_sublist)
theorem rem_not {k : ByteArray} {R : List Ent} : k ∉ (rem k R).map (·.1) := by
  intro h
  obtain ⟨x, hx, rfl⟩ := List.mem_map.1 h
  have := (List.mem_filter.1 hx).2
  simp at this
theorem rem_perm : ∀ {R : List Ent} {x : Ent}, x ∈ R → (R.map (·.1)).Nodup → R.Perm (x :: rem x.1 R)
  | y :: R, x, hx, hn => by
    rw [List.map_cons, List.nodup_cons] at hn
    rcases List.mem_cons.1 hx with rfl | hx
    · have h1 : rem x.1 (x :: R) = R := by
        unfold rem
        rw [List.filter_cons_of_neg (by simp)]
        exact rem_none hn.1
      rw [h1]
    · have hne : y.1 ≠ x.1 := fun e => hn.1 (by rw [e]; exact List.mem_map_of_mem hx)
      have h1 : rem x.1 (y :: R) = y :: rem x.1 R := by
        unfold rem
        rw [List.filter_cons_of_pos (by simp [hne])]
      rw [h1]
      exact ((rem_perm hx hn.2).cons y).trans (List.Perm.swap _ _ _)

namespace EsIs
variable {R : List Ent} {es : Array MapEntry} {cl : Nat}
theorem key (h : EsIs R es cl) {e : MapEntry} (he : e ∈ es.toList) : ∃ x ∈ R, e.key = .string x.1 ∧ e.val = .agg ⟨x.2.1 ++ [.int .i64 x.2.2]⟩ := by
  have : (e.key, e.val) ∈ R.map encE := h.perm.subset (List.mem_map_of_mem (f := fun e : MapEntry => (e.key, e.val)) he)
  obtain ⟨x, hx, hxe⟩ := List.mem_map.1 this
  unfold encE at hxe
  injection hxe with h1 h2
  exact ⟨x, hx, h1.symm, h2.symm⟩
theorem isKeys (h : EsIs R es cl) : ∀ x ∈ es.toList, MapKept.IsKey .string x.key := by
  intro e he
  obtain ⟨x, _, h1, _⟩ := h.key he
  rw [h1]; exact isKey _
theorem ent (h : EsIs R es cl) {x : Ent} (hx : x ∈ R) : ∃ e ∈ es.toList, e.key = .string x.1 ∧ e.val = .agg ⟨x.2.1 ++ [.int .i64 x.2.2]⟩ := by
  have : encE x ∈ es.toList.map fun e => (e.key, e.val) := h.perm.symm.subset (List.mem_map_of_mem hx)
  obtain ⟨e, he, hxe⟩ := List.mem_map.1 this
  unfold encE at hxe
  injection hxe with h1 h2
  exact ⟨e, he, h1, h2⟩
theorem find_none (h : EsIs R es cl) {k : ByteArray} (hk : k ∉ R.map (·.1)) : Instr.findNow .string (.string k) es.toList 0 = some none := by
  rcases MapKept.findNow_spec (isKey k) es.toList 0 h.isKeys with ⟨h1, _⟩ | ⟨j, e, _, h2, h3⟩
  · exact h1
  · obtain ⟨x, hx, h4, _⟩ := h.key (List.mem_of_getElem? h2)
    rw [h4] at h3
    injection h3 with h3
    exact absurd (by rw [← h3]; exact List.mem_map_of_mem hx) hk
theorem find_some (h : EsIs R es cl) {x : Ent} (hx : x ∈ R) : ∃ j e, Instr.findNow .string (.string x.1) es.toList 0 = some (some (j, e.val)) ∧ es[j]? = some e ∧ e.key = .string x.1 ∧ e.val = .agg ⟨x.2.1 ++ [.int .i64 x.2.2]⟩ := by
  rcases MapKept.findNow_spec (isKey x.1) es.toList 0 h.isKeys with ⟨_, h2⟩ | ⟨j, e, h1, h2, h3⟩
  · obtain ⟨e, he, h4, _⟩ := h.ent hx
    exact absurd h4 (h2 e he)
  · have hem := List.mem_of_getElem? h2
    obtain ⟨y, hy, h4, h5⟩ := h.key hem
    have hyx : y = x := by
      rw [h4] at h3
      injection h3 with h3
      obtain ⟨a, ha, hax⟩ := List.mem_iff_getElem.1 hy
      obtain ⟨b, hb, hbx⟩ := List.mem_iff_getElem.1 hx
      have e1 : (R.map (·.1))[a]'(by simpa using ha) = (R.map (·.1))[b]'(by simpa using hb) := by simp [hax, hbx, h3]
      have e2 := (List.getElem_inj h.keys).1 e1
      subst e2
      rw [← hax, hbx]
    subst hyx
    rw [Nat.zero_add] at h1
    exact ⟨j, e, h1, by rw [← Array.getElem?_toList]; exact h2, h4, h5⟩
/-- a new key -/
theorem push (h : EsIs R es cl) {k : ByteArray} (hk : k ∉ R.map (·.1)) (T : List Value) (t : Int) :
    EsIs (R ++ [(k, T, t)]) (es.push { key := .string k, val := .agg ⟨T ++ [.int .i64 t]⟩, born := cl }) (cl + 1) where
  perm := by
    simp only [Array.toList_push, List.map_append, List.map_cons, List.map_nil]
    exact h.perm.append_right _
  born e he := by
    simp only [Array.toList_push, List.mem_append, List.mem_singleton] at he
    rcases he with he | rfl
    · exact Nat.lt_succ_of_lt (h.born e he)
    · exact Nat.lt_succ_self _
  nd := by
    simp only [Array.toList_push, List.map_append, List.map_cons, List.map_nil]
    refine List.nodup_append.2 ⟨h.nd, by simp, fun a ha b hb => ?_⟩
    obtain ⟨e, he, rfl⟩ := List.mem_map.1 ha
    simp at hb
    subst hb
    exact Nat.ne_of_lt (h.born e he)
  keys := by
    simp only [List.map_append, List.map_cons, List.map_nil]
    refine List.nodup_append.2 ⟨h.keys, by simp, fun a ha b hb => ?_⟩
    simp at hb
    subst hb
    rintro rfl
    exact hk ha
/-- a key that is there: its entry goes behind all others -/
theorem turn (h : EsIs R es cl) {x : Ent} (hx : x ∈ R) {j : Nat} {e : MapEntry} (hj : es[j]? = some e) (hk : e.key = .string x.1) (hv : e.val = .agg ⟨x.2.1 ++ [.int .i64 x.2.2]⟩) (T : List Value) (t : Int) :
    EsIs (rem x.1 R ++ [(x.1, T, t)]) (es.modify j fun e => { e with key := .string x.1, val := .agg ⟨T ++ [.int .i64 t]⟩ }) cl := by
  have hjl : es.toList[j]? = some e := by rw [Array.getElem?_toList]; exact hj
  obtain ⟨hlt, hel⟩ := List.getElem?_eq_some_iff.1 hjl
  have hsplit : es.toList = es.toList.take j ++ e :: es.toList.drop (j + 1) := by
    rw [← hel, List.getElem_cons_drop, List.take_append_drop]
  have hmod : (es.modify j fun e => { e with key := .string x.1, val := .agg ⟨T ++ [.int .i64 t]⟩ }).toList =
      es.toList.take j ++ { e with key := .string x.1, val := .agg ⟨T ++ [.int .i64 t]⟩ } :: es.toList.drop (j + 1) := by
    rw [Array.toList_modify, List.modify_eq_take_cons_drop hlt, hel]
  have hrest : ((es.toList.take j ++ es.toList.drop (j + 1)).map fun e => (e.key, e.val)).Perm ((rem x.1 R).map encE) := by
    have h1 : (encE x :: ((es.toList.take j ++ es.toList.drop (j + 1)).map fun e => (e.key, e.val))).Perm (encE x :: (rem x.1 R).map encE) := by
      have h2 := h.perm
      rw [hsplit] at h2
      have h3 : ((es.toList.take j ++ e :: es.toList.drop (j + 1)).map fun e => (e.key, e.val)).Perm (encE x :: ((es.toList.take j ++ es.toList.drop (j + 1)).map fun e => (e.key, e.val))) := by
        have : encE x = (e.key, e.val) := by unfold encE; rw [hk, hv]
        rw [this]
        simp only [List.map_append, List.map_cons]
        exact List.perm_middle
      exact h3.symm.trans (h2.trans ((rem_perm hx h.keys).map encE))
    exact h1.cons_inv
  refine ⟨?_, ?_, ?_, ?_⟩
  · rw [hmod]
    simp only [List.map_append, List.map_cons, List.map_nil]
    refine (List.perm_middle.trans ?_).trans (List.perm_append_comm (l₁ := [encE (x.1, T, t)]))
    simp only [List.singleton_append]
    refine List.Perm.cons _ ?_
    rw [← List.map_append]
    exact hrest
  · intro e' he'
    rw [hmod] at he'
    rcases List.mem_append.1 he' with h1 | h1
    · exact h.born e' (List.mem_of_mem_take h1)
    · rcases List.mem_cons.1 h1 with rfl | h1
      · exact h.born e (List.mem_of_getElem? hjl)
      · exact h.born e' (List.mem_of_mem_drop h1)
  · rw [hmod]
    have h1 := h.nd
    rw [hsplit] at h1
    simpa using h1
  · simp only [List.map_append, List.map_cons, List.map_nil]
    refine List.nodup_append.2 ⟨rem_keys h.keys, by simp, fun a ha b hb => ?_⟩
    simp at hb
    subst hb
    rintro rfl
    exact rem_not ha
end EsIs
end Go.Proofs.YtbpklgllihhgpaaGreat
