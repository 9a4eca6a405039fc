/-
  Part of the proofs about the heap: an abstract memory, its compiled code, and the contracts of the functions over it.
  Conditions: each theorem names its own.
-/
import Derived.Test.YtnkdjfmidiffdaaAm4
import Derived.Sort.Row
import Derived.Sort.Grow
import Derived.ChangeArms
import Derived.ChangeReads
import Derived.Carry
import Derived.JoinedCond
import Derived.ProofKit
import Derived.OpenShut
set_option linter.unusedSimpArgs false
set_option linter.unusedVariables false
/-
  MAPS WHOSE KEYS ARE NUMBERS.
-/
namespace Go.Am
open Go.RowKit

def keyval (e : AEnt) : AV × AV := (e.key, e.val)
def kvA (p : Int × AV) : AV × AV := (.int .i64 p.1, p.2)
/-- A map with numbers for keys: what it holds, in the order in which it came. -/
structure IMap (h : AHeap) (M : Nat) (kv : List (Int × AV)) : Prop where
  out : ∃ es ck, h M = some (.map es ck) ∧ es.map keyval = kv.map kvA ∧ (∀ e ∈ es, e.born < ck) ∧ (es.map (·.born)).Nodup
  nodup : (kv.map (·.1)).Nodup

theorem IMap.keep {h h' : AHeap} {M : Nat} {kv : List (Int × AV)} (m : IMap h M kv) (e : h' M = h M) : IMap h' M kv := by
  obtain ⟨es, ck, h1, h2⟩ := m.out
  exact ⟨⟨es, ck, by rw [e]; exact h1, h2⟩, m.nodup⟩
theorem IMap.some_ {h : AHeap} {M : Nat} {kv : List (Int × AV)} (m : IMap h M kv) : h M ≠ none := by
  obtain ⟨es, ck, h1, _⟩ := m.out
  rw [h1]; simp
theorem IMap.new {h : AHeap} {M : Nat} : IMap (h.upd M (.map [] 0)) M [] := ⟨⟨[], 0, AHeap.upd_same _ _ _, rfl, fun e he => (by cases he), by simp⟩, by simp⟩

theorem find_miss {n : Int} : ∀ {es : List AEnt} {kv : List (Int × AV)} (i : Nat), es.map keyval = kv.map kvA → (∀ p ∈ kv, p.1 ≠ n) → findA .int (.int .i64 n) es i = some none
  | [], _, _, _, _ => rfl
  | e :: es, [], _, h, _ => by simp at h
  | e :: es, p :: kv, i, h, hn => by
    simp only [List.map_cons, List.cons.injEq, keyval, kvA, Prod.mk.injEq] at h
    obtain ⟨⟨h1, _⟩, h3⟩ := h
    have hp : decide (n = p.1) = false := decide_eq_false fun e => hn p (List.mem_cons_self ..) e.symm
    have ih := find_miss (n := n) (es := es) (kv := kv) (i + 1) h3 fun q hq => hn q (List.mem_cons_of_mem _ hq)
    simp only [findA, h1, sameKey, if_true, hp, ih]
theorem find_hit {n : Int} {v : AV} : ∀ {es : List AEnt} {kv : List (Int × AV)} (i : Nat), es.map keyval = kv.map kvA → (n, v) ∈ kv → (kv.map (·.1)).Nodup →
    ∃ j e, findA .int (.int .i64 n) es i = some (some (i + j, e)) ∧ es[j]? = some e ∧ kv[j]? = some (n, v) ∧ e.key = .int .i64 n ∧ e.val = v
  | [], kv, _, h, hm, _ => by cases kv <;> simp at h hm
  | e :: es, [], _, h, _, _ => by simp at h
  | e :: es, p :: kv, i, h, hm, hnd => by
    simp only [List.map_cons, List.cons.injEq, keyval, kvA, Prod.mk.injEq] at h
    obtain ⟨⟨h1, h2⟩, h3⟩ := h
    simp only [List.map_cons, List.nodup_cons] at hnd
    by_cases e0 : n = p.1
    · have hv : p = (n, v) := by
        rcases List.mem_cons.1 hm with h | h
        · exact h.symm
        · exact absurd (List.mem_map.2 ⟨(n, v), h, e0⟩) hnd.1
      subst hv
      refine ⟨0, e, ?_, rfl, rfl, h1, h2⟩
      simp [findA, h1, sameKey]
    · have hm' : (n, v) ∈ kv := by
        rcases List.mem_cons.1 hm with h | h
        · exact absurd (by rw [← h]) e0
        · exact h
      obtain ⟨j, e', g1, g2, g3, g4⟩ := find_hit (n := n) (v := v) (i + 1) h3 hm' hnd.2
      refine ⟨j + 1, e', ?_, by simpa using g2, by simpa using g3, g4⟩
      simp only [findA, h1, sameKey, if_true, decide_eq_false e0, g1]
      simp; omega

theorem keyOk_int (n : Int) : keyOk .int (.int .i64 n) = true := by simp [keyOk, sameKey]
theorem IMap.miss {h : AHeap} {M : Nat} {kv : List (Int × AV)} (m : IMap h M kv) {n : Int} (hn : ∀ p ∈ kv, p.1 ≠ n) (z : AV) (ok : Bool) : lookupA h .int z (.map (some M)) (.int .i64 n) ok = some (outA ok z false) := by
  obtain ⟨es, ck, h1, h2, _⟩ := m.out
  simp [lookupA, h1, find_miss 0 h2 hn]
theorem IMap.hit {h : AHeap} {M : Nat} {kv : List (Int × AV)} (m : IMap h M kv) {n : Int} {v : AV} (hn : (n, v) ∈ kv) (z : AV) (ok : Bool) : lookupA h .int z (.map (some M)) (.int .i64 n) ok = some (outA ok v true) := by
  obtain ⟨es, ck, h1, h2, _⟩ := m.out
  obtain ⟨j, e, g1, _, _, _, g5⟩ := find_hit 0 h2 hn m.nodup
  simp [lookupA, h1, g1, g5]
theorem IMap.len {h : AHeap} {M : Nat} {kv : List (Int × AV)} (m : IMap h M kv) : lenA h .map (.map (some M)) = some (.int .i64 kv.length) := by
  obtain ⟨es, ck, h1, h2, _⟩ := m.out
  have := congrArg List.length h2
  simp at this
  simp [lenA, h1, this]
/-- A new key. -/
theorem IMap.put {h : AHeap} {M : Nat} {kv : List (Int × AV)} (m : IMap h M kv) {n : Int} (hn : ∀ p ∈ kv, p.1 ≠ n) (v : AV) : ∃ x, updateA h .int (.map (some M)) (.int .i64 n) v = .val undefA (h.upd M x) ∧ IMap (h.upd M x) M (kv ++ [(n, v)]) := by
  obtain ⟨es, ck, h1, h2, h3, h4⟩ := m.out
  refine ⟨.map (es ++ [{ key := .int .i64 n, val := v, born := ck }]) (ck + 1), ?_, ⟨_, _, AHeap.upd_same _ _ _, by simp [h2, keyval, kvA], fun e he => ?_, ?_⟩, ?_⟩
  · simp only [updateA, h1, keyOk_int, if_true, find_miss 0 h2 hn]
  · rcases List.mem_append.1 he with he | he
    · have := h3 e he; omega
    · simp at he; subst he; exact Nat.lt_succ_self _
  · rw [List.map_append, List.nodup_append]
    refine ⟨h4, by simp, fun a ha b hb => ?_⟩
    obtain ⟨e, he, rfl⟩ := List.mem_map.1 ha
    simp at hb; subst hb
    have := h3 e he; omega
  · rw [List.map_append, List.nodup_append]
    refine ⟨m.nodup, by simp, fun a ha b hb => ?_⟩
    obtain ⟨p, hp, rfl⟩ := List.mem_map.1 ha
    simp at hb; subst hb
    exact hn p hp
/-- A key that is there, with the same element. -/
theorem IMap.put_same {h : AHeap} {M : Nat} {kv : List (Int × AV)} (m : IMap h M kv) {n : Int} {v : AV} (hn : (n, v) ∈ kv) : ∃ x, updateA h .int (.map (some M)) (.int .i64 n) v = .val undefA (h.upd M x) ∧ IMap (h.upd M x) M kv := by
  obtain ⟨es, ck, h1, h2, h3, h4⟩ := m.out
  obtain ⟨j, e, g1, g2, g3, g4, g5⟩ := find_hit 0 h2 hn m.nodup
  have hj := (List.getElem?_eq_some_iff.1 g2).1
  have he : es.set j { key := .int .i64 n, val := v, born := e.born } = es := by
    apply List.ext_getElem?
    intro i
    by_cases ei : j = i
    · subst ei
      rw [List.getElem?_set_self hj, g2]
      obtain ⟨a, b, c⟩ := e
      simp only [] at g4 g5
      subst g4 g5; rfl
    · rw [List.getElem?_set_ne ei]
  refine ⟨.map (es.set j { key := .int .i64 n, val := v, born := e.born }) ck, ?_, ⟨es, ck, by rw [he]; exact AHeap.upd_same _ _ _, h2, h3, h4⟩, m.nodup⟩
  simp only [updateA, h1, keyOk_int, if_true, g1, Nat.zero_add]
/-- A key goes. -/
theorem eraseIdx_filter {α : Type} {f : α → Int} {n : Int} : ∀ {l : List α} {j : Nat} {x : α}, l[j]? = some x → f x = n → (l.map f).Nodup → l.eraseIdx j = l.filter fun y => decide (f y ≠ n)
  | [], j, x, h, _, _ => by simp at h
  | y :: l, 0, x, h, hx, hn => by
    simp at h; subst h
    simp only [List.map_cons, List.nodup_cons] at hn
    simp only [List.eraseIdx_cons_zero, List.filter_cons, hx, ne_eq, not_true_eq_false, decide_false, Bool.false_eq_true, if_false]
    symm
    rw [List.filter_eq_self]
    intro z hz
    simp only [decide_eq_true_eq]
    intro e
    exact hn.1 (List.mem_map.2 ⟨z, hz, e.trans hx.symm⟩)
  | y :: l, j + 1, x, h, hx, hn => by
    simp at h
    simp only [List.map_cons, List.nodup_cons] at hn
    have hy : f y ≠ n := fun e => hn.1 (List.mem_map.2 ⟨x, List.mem_of_getElem? h, hx.trans e.symm⟩)
    have ih := eraseIdx_filter h hx hn.2
    simp [List.eraseIdx_cons_succ, hy, ih]
theorem map_eraseIdx' {α β : Type} (f : α → β) : ∀ (l : List α) (j : Nat), (l.eraseIdx j).map f = (l.map f).eraseIdx j
  | [], _ => rfl
  | _ :: _, 0 => rfl
  | x :: l, j + 1 => by simp [map_eraseIdx' f l j]
theorem IMap.del {h : AHeap} {M : Nat} {kv : List (Int × AV)} (m : IMap h M kv) {n : Int} {v : AV} (hn : (n, v) ∈ kv) : ∃ x, deleteA h .int (.map (some M)) (.int .i64 n) = .val (.tuple []) (h.upd M x) ∧ IMap (h.upd M x) M (kv.filter fun p => decide (p.1 ≠ n)) := by
  obtain ⟨es, ck, h1, h2, h3, h4⟩ := m.out
  obtain ⟨j, e, g1, g2, g3, g4, g5⟩ := find_hit 0 h2 hn m.nodup
  refine ⟨.map (es.eraseIdx j) ck, by simp only [deleteA, h1, keyOk_int, if_true, g1, Nat.zero_add], ⟨_, _, AHeap.upd_same _ _ _, ?_, fun e he => h3 e (List.mem_of_mem_eraseIdx he), ?_⟩, ?_⟩
  · rw [map_eraseIdx', h2, ← eraseIdx_filter g3 rfl m.nodup, map_eraseIdx']
  · rw [map_eraseIdx']
    exact h4.sublist (List.eraseIdx_sublist ..)
  · exact m.nodup.sublist ((List.filter_sublist).map _)

/-! ### Going through a map. -/
/-- What of a map has been gone through. -/
structure ItAt (h : AHeap) (b M : Nat) (kv done : List (Int × AV)) : Prop where
  out : ∃ es ck seen, h M = some (.map es ck) ∧ es.map keyval = kv.map kvA ∧ (∀ e ∈ es, e.born < ck) ∧ (es.map (·.born)).Nodup ∧ h b = some (.iter (some M) ck seen ck) ∧
    ∃ ds : List AEnt, ds.map (·.born) = seen ∧ ds.map keyval = done.map kvA ∧ (∀ e ∈ ds, e ∈ es) ∧ seen.Nodup
  nodup : (kv.map (·.1)).Nodup
theorem ItAt.keep {h h' : AHeap} {b M : Nat} {kv done : List (Int × AV)} (m : ItAt h b M kv done) (e : h' M = h M) (e' : h' b = h b) : ItAt h' b M kv done := by
  obtain ⟨es, ck, seen, h1, h2, h3, h4, h5, h6⟩ := m.out
  exact ⟨⟨es, ck, seen, by rw [e]; exact h1, h2, h3, h4, by rw [e']; exact h5, h6⟩, m.nodup⟩
theorem ItAt.imap {h : AHeap} {b M : Nat} {kv done : List (Int × AV)} (m : ItAt h b M kv done) : IMap h M kv := by
  obtain ⟨es, ck, seen, h1, h2, h3, h4, _⟩ := m.out
  exact ⟨⟨es, ck, h1, h2, h3, h4⟩, m.nodup⟩
theorem ItAt.iter {h : AHeap} {b M : Nat} {kv done : List (Int × AV)} (m : ItAt h b M kv done) : h b ≠ none := by
  obtain ⟨es, ck, seen, h1, h2, h3, h4, h5, _⟩ := m.out
  rw [h5]; simp
theorem IMap.range {h : AHeap} {M : Nat} {kv : List (Int × AV)} (m : IMap h M kv) : ∃ x, rangeA h (.map (some M)) = .new x (fun b => .ptr (some (b, 0))) h ∧ ∀ b, h b = none → ItAt (h.upd b x) b M kv [] := by
  obtain ⟨es, ck, h1, h2, h3, h4⟩ := m.out
  refine ⟨.iter (some M) ck [] ck, by simp only [rangeA, h1], fun b hb => ⟨⟨es, ck, [], ?_, h2, h3, h4, AHeap.upd_same _ _ _, [], rfl, rfl, fun e he => (by cases he), by simp⟩, m.nodup⟩⟩
  rw [AHeap.upd_other _ _ fun e => by rw [e, hb] at h1; cases h1]; exact h1

theorem nodup_inj {α β : Type} {f : α → β} : ∀ {l : List α}, (l.map f).Nodup → ∀ {a b : α}, a ∈ l → b ∈ l → f a = f b → a = b
  | x :: l, h, a, b, ha, hb, e => by
    simp only [List.map_cons, List.nodup_cons] at h
    rcases List.mem_cons.1 ha with h1 | h1
    · rcases List.mem_cons.1 hb with h2 | h2
      · rw [h1, h2]
      · exact absurd (List.mem_map.2 ⟨b, h2, by rw [← e, h1]⟩) h.1
    · rcases List.mem_cons.1 hb with h2 | h2
      · exact absurd (List.mem_map.2 ⟨a, h1, by rw [e, h2]⟩) h.1
      · exact nodup_inj h.2 h1 h2 e
theorem nodup_of_map {α β : Type} {f : α → β} : ∀ {l : List α}, (l.map f).Nodup → l.Nodup
  | [], _ => List.nodup_nil
  | x :: l, h => by
    simp only [List.map_cons, List.nodup_cons] at h ⊢
    exact ⟨fun hx => h.1 (List.mem_map.2 ⟨x, hx, rfl⟩), nodup_of_map h.2⟩
theorem nodup_map {α β : Type} {f : α → β} : ∀ {l : List α}, l.Nodup → (∀ a b, a ∈ l → b ∈ l → f a = f b → a = b) → (l.map f).Nodup
  | [], _, _ => List.nodup_nil
  | x :: l, h, hi => by
    simp only [List.map_cons, List.nodup_cons] at h ⊢
    refine ⟨fun hx => ?_, nodup_map h.2 fun a b ha hb => hi a b (List.mem_cons_of_mem _ ha) (List.mem_cons_of_mem _ hb)⟩
    obtain ⟨y, hy, e⟩ := List.mem_map.1 hx
    have := hi y x (List.mem_cons_of_mem _ hy) (List.mem_cons_self ..) e
    subst this
    exact h.1 hy
theorem kvA_inj {p q : Int × AV} (h : kvA p = kvA q) : p = q := by
  obtain ⟨a, b⟩ := p
  obtain ⟨c, d⟩ := q
  simp only [kvA, Prod.mk.injEq, AV.int.injEq, true_and] at h
  rw [h.1, h.2]
theorem perm_of_subset {α : Type} {l m : List α} (h1 : l.Nodup) (h2 : m.Nodup) (h3 : ∀ x, x ∈ l ↔ x ∈ m) : l.Perm m := (List.perm_ext_iff_of_nodup h1 h2).2 h3

theorem keyval_done {es ds : List AEnt} {kv done : List (Int × AV)} (h2 : es.map keyval = kv.map kvA) (h3 : ds.map keyval = done.map kvA) (hsub : ∀ e ∈ ds, e ∈ es) : ∀ p ∈ done, p ∈ kv := by
  intro p hp
  have h : kvA p ∈ ds.map keyval := by rw [h3]; exact List.mem_map.2 ⟨p, hp, rfl⟩
  obtain ⟨e, he, he'⟩ := List.mem_map.1 h
  have : kvA p ∈ kv.map kvA := by rw [← h2, ← he']; exact List.mem_map.2 ⟨e, hsub e he, rfl⟩
  obtain ⟨q, hq, hq'⟩ := List.mem_map.1 this
  exact kvA_inj hq' ▸ hq

theorem ItAt.next {h : AHeap} {b M : Nat} {kv done : List (Int × AV)} (m : ItAt h b M kv done) : ∃ L, nextA h (.ptr (some (b, 0))) = .any L ∧ ∀ o ∈ L,
    (o = (.tuple [.bool false], h) ∧ done.Perm kv) ∨
    ∃ p x, p ∈ kv ∧ p ∉ done ∧ o = (.tuple [.bool true, .int .i64 p.1, p.2], h.upd b x) ∧ ItAt (h.upd b x) b M kv (done ++ [p]) ∧ entryA (h.upd b x) (.ptr (some (b, 0))) = some (.tuple [.int .i64 p.1, p.2]) := by
  obtain ⟨es, ck, seen, h1, h2, h3, h4, h5, ds, d1, d2, d3, d4⟩ := m.out
  have hbM : M ≠ b := fun e => by rw [e, h5] at h1; cases h1
  have hst : ¬ ((!seen.isEmpty && !es.isEmpty && es.all fun e => decide (ck ≤ e.born)) = true) := by
    simp only [Bool.and_eq_true, Bool.not_eq_true', List.isEmpty_eq_false_iff, List.all_eq_true, decide_eq_true_eq, not_and]
    rintro ⟨_, hne⟩ hall
    obtain ⟨e, he⟩ := List.exists_mem_of_ne_nil es hne
    have := h3 e he
    have := hall e he
    omega
  have hold : (es.filter fun e => !seen.contains e.born).filter (fun e => decide (e.born < ck)) = es.filter fun e => !seen.contains e.born := by
    rw [List.filter_eq_self]
    intro e he
    have := h3 e ((List.mem_filter.1 he).1)
    simpa using this
  have hnew : (es.filter fun e => !seen.contains e.born).filter (fun e => decide (ck ≤ e.born)) = [] := by
    rw [List.filter_eq_nil_iff]
    intro e he
    have := h3 e ((List.mem_filter.1 he).1)
    simp; omega
  have hkvn : kv.Nodup := nodup_of_map m.nodup
  have hkn : (es.map keyval).Nodup := by rw [h2]; exact nodup_map hkvn fun a b _ _ e => kvA_inj e
  have hev : nextA h (.ptr (some (b, 0))) = .any ((if (es.filter fun e => !seen.contains e.born).isEmpty = true then [(AV.tuple [.bool false], h)] else []) ++
      (es.filter fun e => !seen.contains e.born).map fun e => (AV.tuple [.bool true, e.key, e.val], h.upd b (.iter (some M) ck (seen ++ [e.born]) ck))) := by
    simp only [nextA, h5, h1, if_neg hst, hold, hnew, List.append_nil]
  refine ⟨_, hev, fun o ho => ?_⟩
  rcases List.mem_append.1 ho with ho | ho
  · split at ho
    · rename_i hemp
      simp at ho; subst ho
      refine .inl ⟨rfl, ?_⟩
      have hall : ∀ e ∈ es, e.born ∈ seen := by
        intro e he
        have : (es.filter fun e => !seen.contains e.born) = [] := by simpa using hemp
        rw [List.filter_eq_nil_iff] at this
        simpa using this e he
      have hdn : done.Nodup := by
        have hk : (done.map kvA).Nodup := by
          rw [← d2]
          exact nodup_map (nodup_of_map (f := fun e : AEnt => e.born) (by rw [d1]; exact d4)) fun a b ha hb e => nodup_inj hkn (d3 a ha) (d3 b hb) e
        exact nodup_of_map hk
      refine perm_of_subset hdn hkvn fun p => ⟨keyval_done h2 d2 d3 p, fun hp => ?_⟩
      have hp' : kvA p ∈ es.map keyval := by rw [h2]; exact List.mem_map.2 ⟨p, hp, rfl⟩
      obtain ⟨e, he, hk⟩ := List.mem_map.1 hp'
      have hb := hall e he
      rw [← d1] at hb
      obtain ⟨e', he', hb'⟩ := List.mem_map.1 hb
      have hee : e' = e := nodup_inj h4 (d3 e' he') he hb'
      subst hee
      have : kvA p ∈ done.map kvA := by rw [← d2, ← hk]; exact List.mem_map.2 ⟨e', he', rfl⟩
      obtain ⟨q, hq, hq'⟩ := List.mem_map.1 this
      exact kvA_inj hq' ▸ hq
    · simp at ho
  · obtain ⟨e, he, rfl⟩ := List.mem_map.1 ho
    obtain ⟨he1, he2⟩ := List.mem_filter.1 he
    have hns : e.born ∉ seen := by simpa using he2
    have hk : keyval e ∈ kv.map kvA := by rw [← h2]; exact List.mem_map.2 ⟨e, he1, rfl⟩
    obtain ⟨p, hp, hpe⟩ := List.mem_map.1 hk
    have hke : e.key = .int .i64 p.1 ∧ e.val = p.2 := by
      simp only [kvA, keyval, Prod.mk.injEq] at hpe
      exact ⟨hpe.1.symm, hpe.2.symm⟩
    refine .inr ⟨p, .iter (some M) ck (seen ++ [e.born]) ck, hp, fun hd => ?_, by rw [hke.1, hke.2], ⟨⟨es, ck, seen ++ [e.born], by rw [AHeap.upd_other _ _ hbM]; exact h1, h2, h3, h4, AHeap.upd_same _ _ _, ds ++ [e], by simp [d1], by simp [d2, hpe], ?_, ?_⟩, m.nodup⟩, ?_⟩
    · have : kvA p ∈ ds.map keyval := by rw [d2]; exact List.mem_map.2 ⟨p, hd, rfl⟩
      obtain ⟨e', he', hk'⟩ := List.mem_map.1 this
      have hee : e' = e := nodup_inj hkn (d3 e' he') he1 (hk'.trans hpe)
      subst hee
      exact hns (d1 ▸ List.mem_map.2 ⟨e', he', rfl⟩)
    · intro x hx
      rcases List.mem_append.1 hx with hx | hx
      · exact d3 x hx
      · simp at hx; subst hx; exact he1
    · rw [List.nodup_append]
      exact ⟨d4, by simp, fun a ha b hb => by simp at hb; subst hb; exact fun e' => hns (e' ▸ ha)⟩
    · have hfind : es.find? (fun x => x.born == e.born) = some e := by
        rw [List.find?_eq_some_iff_getElem]
        obtain ⟨i, hi, rfl⟩ := List.mem_iff_getElem.1 he1
        refine ⟨by simp, i, hi, rfl, fun j hj => ?_⟩
        have pw := List.pairwise_iff_getElem.1 h4
        have := pw j i (by simpa using by omega) (by simpa using hi) hj
        simpa using this
      simp only [entryA, AHeap.upd_same, List.getLast?_append, List.getLast?_singleton, Option.some_or, AHeap.upd_other _ _ hbM, h1, hfind, hke.1, hke.2, Option.map_some]
      simp

section rules
variable {P : Program} {N : Nat} {rd : Bool} {Q : AEx → TM → List ADef → AHeap → Prop} {ks : List Kont} {tm : TM} {ds : List ADef} {h : AHeap}
theorem res_any {dst : Option Nat} {l : List AOper} {L : List (AV × AHeap)} : WkRes P N rd Q ks dst l tm ds h (.any L) = ∀ o ∈ L, WkOps P N rd Q ks l (tm.put dst o.1) ds o.2 := _root_.id rfl
/-- A yield: what the round leaves. -/
def YRets (P : Program) (N : Nat) (b : Nat) (args : List AV) (h : AHeap) (R : AV → AHeap → Prop) : Prop := AYields P N b args h fun e h' => match e with
  | .ret v => R v h'
  | .panic _ => False
theorem AYields.mono' {b : Nat} {args : List AV} {R R' : AEnd → AHeap → Prop} (c : AYields P N b args h R) (hr : ∀ x h', Dom h h' → R x h' → R' x h') : AYields P N b args h R' := fun ι w L vs s hL hv =>
  let ⟨l, f, t, a, bd, e, rr⟩ := c ι w L vs s hL hv
  ⟨l, f, t, a, bd, e, rr.mono fun _ _ ⟨ι', h', x, a1, a2, a3, a4, r⟩ => ⟨ι', h', x, a1, a2, a3, a4, hr _ _ a1.dom r⟩⟩
theorem res_yield {dst : Option Nat} {l : List AOper} {b : Nat} {args : List AV} {R : AV → AHeap → Prop} (hc : YRets P N b args h R) (h1 : ∀ v h', Dom h h' → R v h' → WkOps P N rd Q ks l (tm.put dst v) ds h') :
    WkRes P N rd Q ks dst l tm ds h (.yield b args) := by
  unfold WkRes ARes.wp
  refine AYields.mono' hc fun x h' hd hr => ?_
  cases x with
  | ret v => exact h1 v h' hd hr
  | panic v => exact hr.elim
end rules
end Go.Am
/-
  FUNCTIONS THAT ARE RANGED OVER: what they promise to whoever ranges.
-/
namespace Go.Am
open Go.RowKit

section
variable {P : Program} {N : Nat}

/-- One who is told numbers: J of what was told, of whose blocks are his. -/
structure Feeds (P : Program) (N : Nat) (l : Nat) (h0 : AHeap) (B : Nat) (J : List Int → (Nat → Prop) → AHeap → Prop) : Prop where
  keep : ∀ done S h h', J done S h → (∀ c, S c → h' c = h c) → J done S h'
  dom : ∀ done S h, J done S h → ∀ c, S c → h c ≠ none ∧ h0 c = none
  step : ∀ done n S h, done.length < B → J done S h → More h0 h → YRets P N l [.int .i64 n] h fun r h' => r = .bool true ∧ ∃ S', J (done ++ [n]) S' h' ∧ (∀ c, h c ≠ none → ¬ S c → h' c = h c) ∧ ∀ c, S' c → S c ∨ h c = none
/-- A function that tells numbers. -/
def Tells (P : Program) (N : Nat) (fv : AV) (h0 : AHeap) (G : List Int → Prop) (B : Nat) : Prop :=
  ∃ g first cap, fv = .func (.func g) first cap ∧ ∀ l J h S, More h0 h → Feeds P N l h0 B J → J [] S h → ARets P N g (first ++ [.yld l] ++ cap) h fun _ h' => More h0 h' ∧ ∃ done S', G done ∧ J done S' h'

theorem Feeds.more {l : Nat} {h0 : AHeap} {B : Nat} {J : List Int → (Nat → Prop) → AHeap → Prop} (_f : Feeds P N l h0 B J) {S : Nat → Prop} {h h' : AHeap} (m : More h0 h) (hS : ∀ c, S c → h0 c = none) (k : ∀ c, h c ≠ none → ¬ S c → h' c = h c) : More h0 h' := fun c hc => by
  have h1 := m c hc
  rw [k c (by rw [h1]; exact hc) fun e => hc (hS c e)]; exact h1
end

section
variable {P : Program} {N : Nat} {rd : Bool} {Q : AEx → TM → List ADef → AHeap → Prop} {ks : List Kont} {tm : TM} {ds : List ADef} {h : AHeap}
theorem wk_range {f : AOpd} {ps : List Nat} {aa ab : ACode} (hrd : rd = false) {g : FuncId} {first cap : List AV} (hf : f.ev tm = .func (.func g) first cap)
    (hc : ∀ (D l : Nat), h D = none → h l = none → l ≠ D → ∀ (fn : FuncId) (n : Nat) (ca cb : Code), LoopOk P n ps aa ab ca cb →
      ACalls P N g (first ++ [.yld l] ++ cap) ((h.upd D (.raw (.deferred (some [])))).upd l (.loop .ready none fn tm n ps ca cb)) (rangeEnd (Fin P N rd Q ks) tm ds D l fun st pend => .loop st pend fn tm n ps ca cb)) :
    Wk P N rd Q ks (.rangeFunc f ps aa ab) tm ds h := by
  subst hrd
  exact ⟨rfl, g, first, cap, hf, hc⟩
/-- A round by walking. -/
theorem yrets_of_wk (hm : P.follows .mixedOrders = true) {l : Nat} {fn : FuncId} {tm : TM} {n : Nat} {ps : List Nat} {aa ab : ACode} {ca cb : Code} (lok : LoopOk P n ps aa ab ca cb) {args : List AV} (hargs : args.length = ps.length) {h : AHeap} {R : AV → AHeap → Prop}
    (hl : h l = some (.loop .ready none fn tm n ps ca cb))
    (hwp : Wk P N true (fun e tm1 ds h1 => e = .normal ∧ ds = [] ∧ h1 l = some (.loop .ready none fn tm n ps ca cb) ∧
      Wk P N true (roundPostA l (fun st pend => .loop st pend fn tm n ps ca cb) fun e h' => match e with
        | .ret v => R v h'
        | .panic _ => False) [] ab tm1 [] (h1.upd l (.loop .busy none fn tm n ps ca cb))) [] aa (putAll tm ps args) [] h) : YRets P N l args h R := by
  refine ayields_of_wp hm lok hargs hl (wk_start ?_)
  refine Am.wp_mono aa (fun e tm1 ds h1 hx => ?_) _ _ _ hwp
  simp only [Fin] at hx ⊢
  obtain ⟨h1, h2, h3, h4⟩ := hx
  exact ⟨h1, h2, h3, wk_start h4⟩
/-- The loop over a function that tells numbers, gone through to its end. -/
theorem wk_tells {fv : AV} {f : AOpd} {ps : List Nat} {aa ab : ACode} {G : List Int → Prop} {B : Nat} {h0 : AHeap} (hrd : rd = false) (hf : f.ev tm = fv) (m0 : More h0 h) (T : Tells P N fv h0 G B) (J : Nat → Nat → (AHeap → Prop) → List Int → (Nat → Prop) → AHeap → Prop)
    (feeds : ∀ T, T = tm → ∀ (D l : Nat), h D = none → h l = none → l ≠ D → ∀ (fn : FuncId) (n : Nat) (ca cb : Code), LoopOk P n ps aa ab ca cb → ∀ K : AHeap → Prop, (K = fun h' => h' l = some (.loop .ready none fn T n ps ca cb) ∧ h' D = some (.raw (.deferred (some [])))) →
      Feeds P N l h0 B (J D l K) ∧ ∃ S, J D l K [] S ((h.upd D (.raw (.deferred (some [])))).upd l (.loop .ready none fn T n ps ca cb)))
    (K1 : ∀ D l K done S h', J D l K done S h' → K h')
    (done_ : ∀ D l K done S h', D ≠ l → G done → J D l K done S h' → More h0 h' → h' D = some (.raw (.deferred (some []))) → ∀ x, Fin P N rd Q ks .normal tm (.coll D :: ds) (h'.upd l x)) :
    Wk P N rd Q ks (.rangeFunc f ps aa ab) tm ds h := by
  obtain ⟨g, first, cap, rfl, T⟩ := T
  refine wk_range hrd hf fun D l hD hl hne fn n ca cb lok => ?_
  obtain ⟨F, S, j0⟩ := feeds tm rfl D l hD hl hne fn n ca cb lok _ rfl
  have m : More h ((h.upd D (.raw (.deferred (some [])))).upd l (.loop .ready none fn tm n ps ca cb)) := (More.upd hD _).trans (More.upd (by rw [AHeap.upd_other _ _ hne]; exact hl) _)
  refine ACalls.mono (T l _ _ S (m0.trans m) F j0) fun x h' hx => ?_
  cases x with
  | panic v => exact hx.elim
  | ret v =>
    obtain ⟨m', done, S', hg, hj⟩ := hx
    obtain ⟨k1, k2⟩ := K1 _ _ _ _ _ _ hj
    exact ⟨.ready, none, k1, by simp, done_ D l _ done S' h' (fun e => hne e.symm) hg hj m' k2 _⟩
end
end Go.Am
/-
  THE SORT's CONTRACT, TOLD BY AN ABSTRACT MEMORY.
-/
namespace Go.Am
open Go.RowKit

theorem Grown.upto {h0 h : AHeap} {sz : Nat} {v : AV} {cs : List AV} (g : Grown h0 h sz v cs) {n : Nat} (k : Nat) (hn : cs.length = n * sz) (hs : 0 < sz) (hk : k ≤ n) (kk : IntKind) :
    ∃ v', sliceA sz v none (some (.int kk k)) none = some v' ∧ Grown h0 h sz v' (cs.take (k * sz)) := by
  obtain ⟨v', e, s, b⟩ := g.at_.upto k hn hs hk kk
  exact ⟨v', e, g.more, s, fun c hc => g.own c (b c hc)⟩
/-- A new block of another's is turned. -/
theorem Grown.other {h0 h : AHeap} {sz : Nat} {v : AV} {cs : List AV} (g : Grown h0 h sz v cs) {b : Nat} (hb : h0 b = none) (hv : blkOf v ≠ some b) (x : ABlk) : Grown h0 (h.upd b x) sz v cs :=
  ⟨fun c hc => (AHeap.upd_other _ _ (by intro e; rw [e] at hc; exact hc hb)).trans (g.more c hc), g.at_.keep fun c hc => AHeap.upd_other _ _ (by intro e; rw [e] at hc; exact hv hc),
    fun c hc => ⟨(g.own c hc).1, by rw [AHeap.upd_other _ _ (by intro e; rw [e] at hc; exact hv hc)]; exact (g.own c hc).2⟩⟩

theorem mapBlock_other (w : World) (b k : Nat) (f : Array Value → Array Value) (hk : k ≠ b) : (Go.Sort.mapBlock w b f).heap[k]? = w.heap[k]? := by
  unfold Go.Sort.mapBlock
  simp only [Array.getElem?_modify]
  rw [if_neg fun e => hk e.symm]
theorem mapBlock_obj (w : World) (b : Nat) (f : Array Value → Array Value) (o : Obj) (hn : ∀ c e fr, o ≠ .cells c e fr) (h : w.heap[b]? = some o) : (Go.Sort.mapBlock w b f).heap[b]? = some o := by
  unfold Go.Sort.mapBlock
  simp only [Array.getElem?_modify, if_true, h, Option.map_some]
  cases o <;> first | rfl | exact absurd rfl (hn _ _ _)
theorem Sim.grow {N : Nat} {ι : Emb} {h : AHeap} {w : World} (s : Sim N ι h w) (os : Array Obj) : Sim N ι h (Go.Sort.grow w os) := by
  refine ⟨by have := s.size; simp; omega, s.fin, s.dom, fun b L x hL hx => ?_, s.apart⟩
  have h0 := s.at_ b L x hL hx
  rcases h0.lt with rfl | hlt
  · trivial
  · exact h0.same (Go.Sort.heap_grow_old w os hlt)

section
variable {P : Program} {N : Nat}
/-- What the sort leaves. -/
def SortSaid (P : Program) (f : FuncId) : Prop :=
  (∀ (blk off cap : Nat) (zs : List Int) (w : World), Go.Sort.Holds (Value.int .i64) w blk off zs.toArray → blk < w.heap.size → zs.length < 4611686018427387904 →
    Calls P f #[.slice (some ⟨blk, off, none⟩) zs.length cap] w fun e w' => e = .returned (.tuple #[]) ∧ ∃ n os, w' = Go.Sort.grow (Go.Sort.putRow (Value.int .i64) (Go.Sort.ahead w n) blk off (zs.mergeSort fun x y => decide (x ≤ y)).toArray) os) ∧
  ∀ (p : Option Addr) (cap : Nat) (w : World), Calls P f #[.slice p 0 cap] w fun e w' => e = .returned (.tuple #[]) ∧ w' = w

theorem sort_lift {f : FuncId} (hg : GoodFn P f) (hs : SortSaid P f) {h : AHeap} {v : AV} {l : List Int} (S : SliceAt h 1 v (l.map (.int .i64))) (own : ∀ b, blkOf v = some b → ∃ ds, h b = some (.cells ds false)) (hl : l.length < 4611686018427387904) :
    ARets P N f [v] h fun r h' => r = .tuple [] ∧ (∀ c, blkOf v ≠ some c → h' c = h c) ∧ (∀ b, blkOf v = some b → ∃ ds, h' b = some (.cells ds false)) ∧ SliceAt h' 1 v ((l.mergeSort fun x y => decide (x ≤ y)).map (.int .i64)) := by
  refine ⟨hg, fun ι w vs s hv => ?_⟩
  obtain ⟨H, H0⟩ := hs
  obtain ⟨p, sz', len, cap, ex, rfl, h1, h2, h3, h4⟩ := id S.out
  simp only [List.length_map, Nat.mul_one] at h1
  have hsz := hv.length
  obtain ⟨vl⟩ := vs
  cases hv with
  | cons _ cv _ l' hvr hnil =>
  cases hnil
  have same : l = [] → EndPost N ι h w (fun e h' => match e with
      | .ret r => r = .tuple [] ∧ (∀ c, blkOf (.slice p sz' len cap ex) ≠ some c → h' c = h c) ∧ (∀ b, blkOf (.slice p sz' len cap ex) = some b → ∃ ds, h' b = some (.cells ds false)) ∧ SliceAt h' 1 (.slice p sz' len cap ex) ((l.mergeSort fun x y => decide (x ≤ y)).map (.int .i64))
      | .panic _ => False) (.returned (.tuple #[])) w := fun e => by
    subst e
    exact ⟨ι, h, .ret (.tuple []), .refl ι h, s, .refl N w, .tuple _ _ .nil, rfl, fun _ _ => rfl, own, by simpa using S⟩
  by_cases hl0 : l = []
  · have hlen0 : len = 0 := by rw [← h1, hl0]; rfl
    subst hlen0
    cases hvr with
    | sliceNone =>
      exact (H0 none 0 w).mono fun e w' ⟨h5, h6⟩ => by subst h5 h6; exact same hl0
    | slice b o _ _ _ _ L hL a C hle hc hex ha =>
      exact (H0 (some a) C w).mono fun e w' ⟨h5, h6⟩ => by subst h5 h6; exact same hl0
  · have hpos : 0 < l.length := List.length_pos_iff.2 hl0
    cases hvr with
    | sliceNone => have := (h3 rfl).1; omega
    | slice b o _ _ _ _ L hL a C hle hc hex ha =>
      obtain ⟨hsz1, ds, ro, h5, h6, h7⟩ := h4 b o rfl
      subst hsz1
      obtain ⟨ds', h5'⟩ := own b rfl
      rw [h5] at h5'; cases h5'
      obtain ⟨rfl, hroom⟩ := ha (by omega)
      obtain ⟨b1, b2, b3, b4⟩ := s.at_ b L _ hL h5
      rw [Nat.mul_one] at hroom h6 h7
      have hcell : ∀ (j : Nat) (hj : j < l.length), w.cell? ⟨L.blk, L.off + o + j, none⟩ = some (.int .i64 l[j]) := fun j hj => by
        have : ds[o + j]? = some (.int .i64 l[j]) := by
          have e : ((ds.drop o).take len)[j]? = (l.map (.int .i64))[j]? := by rw [h7]
          rw [List.getElem?_take, if_pos (by omega), List.getElem?_drop] at e
          rw [e]; simp [hj]
        obtain ⟨cv, e1, e2⟩ := b4 (o + j) _ this
        cases e2
        rw [← e1, Nat.add_assoc]
      have hH : Go.Sort.Holds (Value.int .i64) w L.blk (L.off + o) l.toArray := fun j hj => by
        have hj' : j < l.length := by simpa using hj
        refine ⟨?_, ?_⟩
        · rw [hcell j hj']; simp [hj']
        · have := (b3 (o + j) (by omega)).2 rfl
          rw [← Nat.add_assoc] at this; exact this
      have hlen' : l.length = len := h1
      have call := H L.blk (L.off + o) C l w hH b2.1 hl
      rw [hlen'] at call
      refine call.mono fun e w' ⟨he, n, os, hw⟩ => ?_
      subst he hw
      generalize hsl : (l.mergeSort fun x y => decide (x ≤ y)) = sl
      have hsll : sl.length = l.length := by rw [← hsl]; simp
      have hHa : Go.Sort.Holds (Value.int .i64) (Go.Sort.ahead w n) L.blk (L.off + o) l.toArray := hH
      have cellIn : ∀ (j : Nat) (hj : j < sl.length), (Go.Sort.putRow (Value.int .i64) (Go.Sort.ahead w n) L.blk (L.off + o) sl.toArray).cell? ⟨L.blk, L.off + o + j, none⟩ = some (.int .i64 sl[j]) := fun j hj => by
        rw [Go.Sort.cell?_putRow (Value.int .i64) _ _ _ l.toArray sl.toArray hHa (by simp [hsll]) j (by simpa using hj)]
        simp [hj]
      have cellOut : ∀ i, i < L.off + o ∨ L.off + o + len ≤ i → (Go.Sort.putRow (Value.int .i64) (Go.Sort.ahead w n) L.blk (L.off + o) sl.toArray).cell? ⟨L.blk, i, none⟩ = w.cell? ⟨L.blk, i, none⟩ := fun i hi => by
        rw [Go.Sort.cell?_putRow_other]
        · rfl
        · simp only [List.size_toArray]
          rcases hi with hi | hi
          · exact .inr (.inl hi)
          · exact .inr (.inr (by omega))
      have sim1 : Sim N ι (h.upd b (.cells (setL ds o (sl.map (.int .i64))) false)) (Go.Sort.putRow (Value.int .i64) (Go.Sort.ahead w n) L.blk (L.off + o) sl.toArray) := by
        refine s.region (w' := Go.Sort.putRow (Value.int .i64) (Go.Sort.ahead w n) L.blk (L.off + o) sl.toArray) hL h5 (by simp [Go.Sort.ahead]) (fun k hk => mapBlock_other _ _ _ _ hk) (fun o' ho' hn => mapBlock_obj _ _ _ _ hn ho') (fun i hi => cellOut i (by omega)) (fun i => by rw [Go.Sort.frozen?_putRow]; rfl) (fun i hi => ?_) _ ?_ (fun i v hv => ?_)
        · by_cases hi' : o ≤ i ∧ i < o + len
          · have := cellIn (i - o) (by omega)
            rw [show L.off + o + (i - o) = L.off + i by omega] at this
            rw [this]; rfl
          · rw [cellOut _ (by omega)]; exact (b3 i hi).1
        · rw [setL_length]; exact b1
        · rw [setL_get (by simp; omega)] at hv
          split at hv
          · rename_i hi'
            simp only [List.length_map] at hi'
            have hj : i - o < sl.length := by omega
            rw [List.getElem?_map, List.getElem?_eq_getElem hj] at hv
            cases hv
            have := cellIn (i - o) hj
            rw [show L.off + o + (i - o) = L.off + i by omega] at this
            exact ⟨_, this, .int _ _⟩
          · rename_i hi'
            simp only [List.length_map] at hi'
            rw [cellOut _ (by omega)]; exact b4 i v hv
      refine ⟨ι, _, .ret (.tuple []), .of_dom (Dom.upd _ _ _ fun cs hc => by rw [h5] at hc; cases hc), sim1.grow os, ⟨rfl, rfl, rfl, by simp [Go.Sort.ahead], fun k hk => ?_⟩, .tuple _ _ .nil, rfl, fun c hc => ?_, fun c hc => ?_, ?_⟩
      · rw [Go.Sort.heap_grow_old _ _ (by simp [Go.Sort.ahead]; have := s.size; omega)]
        exact mapBlock_other _ _ _ _ (by have := b2.2 rfl; omega)
      · exact AHeap.upd_other _ _ fun e => hc (by rw [e]; rfl)
      · cases hc; exact ⟨_, AHeap.upd_same _ _ _⟩
      · refine ⟨some (b, o), 1, len, cap, ex, rfl, by simp [hsll, h1], h2, h3, fun b' o' e => ?_⟩
        cases e
        refine ⟨rfl, _, false, AHeap.upd_same _ _ _, by rw [setL_length]; omega, ?_⟩
        apply List.ext_getElem?
        intro j
        rw [List.getElem?_take, Nat.mul_one, List.getElem?_drop, setL_get (by simp; omega)]
        simp only [List.length_map]
        by_cases hj : j < len
        · rw [if_pos hj, if_pos (by omega), show o + j - o = j by omega]
        · rw [if_neg hj]
          symm
          rw [List.getElem?_eq_none (by simp; omega)]
end
end Go.Am
/-
  WHAT COMES IN, TOLD BY AN ABSTRACT MEMORY: every reading of numbers, flags, strings, slices and structs.
-/
namespace Go.Am
open Go.RowKit

/-- How abstract values stand for what was read. -/
inductive RepD {H : Type} (P : Program) (h : AHeap) : TypeId → DataW H → List AV → Prop
  | bool (t : TypeId) (hu : P.underlying t = some .bool) (b : Bool) : RepD P h t (.lit (.bool b)) [.bool b]
  | int (t : TypeId) (k : IntKind) (hu : P.underlying t = some (.int k)) (n : Int) (hw : (Lit.int k n).wf = true) : RepD P h t (.lit (.int k n)) [.int k n]
  | str (t : TypeId) (hu : P.underlying t = some .string) (l : List UInt8) : RepD P h t (.lit (.string l)) [.str (l.map UInt8.toNat)]
  | nil (t e : TypeId) (hu : P.underlying t = some (.slice e)) : RepD P h t .nil [.slice none 0 0 0 true]
  | slice (t e : TypeId) (hu : P.underlying t = some (.slice e)) (elems spare : List (DataW H)) (css : List (List AV)) (v : AV) (hp : 0 < P.cellsOf e) (hs : RSlice h (P.cellsOf e) v css.flatten) (hl : css.length = elems.length) (hz : ∀ c ∈ css, c.length = P.cellsOf e)
      (he : ∀ (i : Nat) (hi : i < css.length) (hi' : i < elems.length), RepD P h e elems[i] css[i]) : RepD P h t (.slice elems spare) [v]
  | agg (t : TypeId) (fs : Array Field) (hu : P.underlying t = some (.struct fs)) (parts : List (DataW H)) (css : List (List AV)) (hl : css.length = parts.length) (hf : css.length = fs.size)
      (he : ∀ (i : Nat) (hi : i < css.length) (hi' : i < parts.length) (hi2 : i < fs.size), RepD P h fs[i].type parts[i] css[i]) : RepD P h t (.agg parts) css.flatten

theorem RepD.more {H : Type} {P : Program} {h h' : AHeap} (m : More h h') {t : TypeId} {d : DataW H} {l : List AV} (r : RepD P h t d l) : RepD P h' t d l := by
  induction r with
  | bool t hu b => exact .bool t hu b
  | int t k hu n hw => exact .int t k hu n hw
  | str t hu l => exact .str t hu l
  | nil t e hu => exact .nil t e hu
  | slice t e hu elems spare css v hp hs hl hz he ih => exact .slice t e hu elems spare css v hp (hs.dom (Dom.more m)) hl hz ih
  | agg t fs hu parts css hl hf he ih => exact .agg t fs hu parts css hl hf ih
theorem RepD.bool_ {H : Type} {P : Program} {h : AHeap} {t : TypeId} (hu : P.underlying t = some .bool) {d : DataW H} {l : List AV} (r : RepD P h t d l) : ∃ b, d = .lit (.bool b) ∧ l = [.bool b] := by
  cases r with
  | bool _ _ b => exact ⟨b, rfl, rfl⟩
  | int _ _ hu' => rw [hu] at hu'; cases hu'
  | str _ hu' => rw [hu] at hu'; cases hu'
  | nil _ _ hu' => rw [hu] at hu'; cases hu'
  | slice _ _ hu' => rw [hu] at hu'; cases hu'
  | agg _ _ hu' => rw [hu] at hu'; cases hu'
theorem RepD.int_ {H : Type} {P : Program} {h : AHeap} {t : TypeId} {k : IntKind} (hu : P.underlying t = some (.int k)) {d : DataW H} {l : List AV} (r : RepD P h t d l) : ∃ n, d = .lit (.int k n) ∧ l = [.int k n] ∧ (Lit.int k n).wf = true := by
  cases r with
  | bool _ hu' b => rw [hu] at hu'; cases hu'
  | int _ k' hu' n hw => rw [hu] at hu'; cases hu'; exact ⟨n, rfl, rfl, hw⟩
  | str _ hu' => rw [hu] at hu'; cases hu'
  | nil _ _ hu' => rw [hu] at hu'; cases hu'
  | slice _ _ hu' => rw [hu] at hu'; cases hu'
  | agg _ _ hu' => rw [hu] at hu'; cases hu'
theorem RepD.slice_ {H : Type} {P : Program} {h : AHeap} {t e : TypeId} (hu : P.underlying t = some (.slice e)) {d : DataW H} {l : List AV} (r : RepD P h t d l) :
    (d = .nil ∧ l = [.slice none 0 0 0 true]) ∨ ∃ (elems spare : List (DataW H)) (css : List (List AV)) (v : AV), d = .slice elems spare ∧ l = [v] ∧ 0 < P.cellsOf e ∧ RSlice h (P.cellsOf e) v css.flatten ∧ css.length = elems.length ∧ (∀ c ∈ css, c.length = P.cellsOf e) ∧ ∀ (i : Nat) (hi : i < css.length) (hi' : i < elems.length), RepD P h e elems[i] css[i] := by
  cases r with
  | bool _ hu' b => rw [hu] at hu'; cases hu'
  | int _ _ hu' => rw [hu] at hu'; cases hu'
  | str _ hu' => rw [hu] at hu'; cases hu'
  | nil _ _ hu' => exact .inl ⟨rfl, rfl⟩
  | slice _ e' hu' elems spare css v hp hs hl hz he => rw [hu] at hu'; cases hu'; exact .inr ⟨elems, spare, css, v, rfl, rfl, hp, hs, hl, hz, he⟩
  | agg _ _ hu' => rw [hu] at hu'; cases hu'
theorem RepD.agg_ {H : Type} {P : Program} {h : AHeap} {t : TypeId} {fs : Array Field} (hu : P.underlying t = some (.struct fs)) {d : DataW H} {l : List AV} (r : RepD P h t d l) :
    ∃ (parts : List (DataW H)) (css : List (List AV)), d = .agg parts ∧ l = css.flatten ∧ css.length = parts.length ∧ css.length = fs.size ∧ ∀ (i : Nat) (hi : i < css.length) (hi' : i < parts.length) (hi2 : i < fs.size), RepD P h fs[i].type parts[i] css[i] := by
  cases r with
  | bool _ hu' b => rw [hu] at hu'; cases hu'
  | int _ _ hu' => rw [hu] at hu'; cases hu'
  | str _ hu' => rw [hu] at hu'; cases hu'
  | nil _ _ hu' => rw [hu] at hu'; cases hu'
  | slice _ _ hu' => rw [hu] at hu'; cases hu'
  | agg _ fs' hu' parts css hl hf he => rw [hu] at hu'; cases hu'; exact ⟨parts, css, rfl, rfl, hl, hf, he⟩

/-- A world with nothing but what came in. -/
structure Init (ι : Emb) (h : AHeap) (w : World) : Prop where
  sim : Sim w.heap.size ι h w
  ro : ∀ b x, h b = some x → ∃ cs, x = .cells cs true

theorem Init.empty (w : World) : Init (fun _ => none) (fun _ => none) w :=
  ⟨⟨Nat.le_refl _, ⟨0, fun _ _ => rfl⟩, fun b L h => (by cases h), fun b L x h => (by cases h), fun b b' L L' x x' _ h => (by cases h)⟩, fun b x h => (by cases h)⟩

theorem Init.add {ι : Emb} {h : AHeap} {w : World} (s : Init ι h w) {b : Nat} (hb : h b = none) {L : Loc} {cs : List AV} (hL : L.blk < w.heap.size) (hl : cs.length ≤ L.room) (hc : ∀ i, i < L.room → (w.cell? ⟨L.blk, L.off + i, none⟩).isSome = true)
    (hv : ∀ i v, cs[i]? = some v → ∃ cv, w.cell? ⟨L.blk, L.off + i, none⟩ = some cv ∧ VRel ι v cv) : Init (ι.upd b L) (h.upd b (.cells cs true)) w := by
  have hι := s.sim.fresh hb
  have hext : Ext ι (ι.upd b L) := Emb.ext_upd hι
  refine ⟨⟨Nat.le_refl _, AHeap.fin_upd s.sim.fin _ _, fun c M hM => ?_, fun c M x hM hx => ?_, fun c c' M M' x x' hn hM hM' hx hx' => ?_⟩, fun c x hx => ?_⟩
  · by_cases e : c = b
    · exact ⟨_, by rw [e]; exact AHeap.upd_same _ _ _⟩
    · rw [Emb.upd_other _ _ e] at hM; obtain ⟨x, hx⟩ := s.sim.dom c M hM; exact ⟨x, by rw [AHeap.upd_other _ _ e]; exact hx⟩
  · by_cases e : c = b
    · subst e; rw [Emb.upd_same] at hM; rw [AHeap.upd_same] at hx; cases hM; cases hx
      exact ⟨hl, ⟨hL, fun e => by cases e⟩, fun i hi => ⟨hc i hi, fun e => by cases e⟩, fun i v hi => let ⟨cv, a, r⟩ := hv i v hi; ⟨cv, a, r.ext hext⟩⟩
    · rw [Emb.upd_other _ _ e] at hM; rw [AHeap.upd_other _ _ e] at hx
      exact (s.sim.at_ c M x hM hx).ext hext
  · have ro : ∀ c x, (h.upd b (.cells cs true)) c = some x → ∃ ds, x = .cells ds true := fun c x hx => by
      by_cases e : c = b
      · subst e; rw [AHeap.upd_same] at hx; cases hx; exact ⟨_, rfl⟩
      · rw [AHeap.upd_other _ _ e] at hx; exact s.ro c x hx
    obtain ⟨ds, rfl⟩ := ro c x hx
    obtain ⟨ds', rfl⟩ := ro c' x' hx'
    exact .inl ⟨rfl, rfl⟩
  · by_cases e : c = b
    · subst e; rw [AHeap.upd_same] at hx; cases hx; exact ⟨_, rfl⟩
    · rw [AHeap.upd_other _ _ e] at hx; exact s.ro c x hx

theorem cells?_inv {w : World} {base : Nat} {a : Addr} {n : Nat} {cs : List Value} (h : w.cells? base a n = some cs) (hn : 0 < n) : a.spot = none ∧ cs.length = n ∧ ∀ i, i < n → ∃ v, cs[i]? = some v ∧ w.cell? ⟨a.block, a.off + i, none⟩ = some v := by
  unfold World.cells? at h
  split at h
  · have hl := mapM_some_length h
    have hg := fun i (hi : i < n) => mapM_some_get h i i (by simp [hi])
    simp only [List.length_range] at hl
    have hsp : a.spot = none := by
      have h0 := hg 0 hn
      simp only [Addr.add, if_true] at h0
      cases hs : a.spot with
      | none => rfl
      | some s =>
        have hv : w.cell? a = some (cs[0]'(by omega)) := by rw [h0]; simp
        simp only [World.cell?] at hv
        split at hv
        · simp [hs] at hv
        · cases hv
    refine ⟨hsp, hl, fun i hi => ⟨cs[i]'(by omega), by simp, ?_⟩⟩
    have h1 := hg i hi
    have e : a.add i = ⟨a.block, a.off + i, none⟩ := by
      unfold Addr.add
      split
      · rename_i h0; subst h0; cases a; simp_all
      · rfl
    rw [← e, h1]; simp
  · cases h

/-- The types that are made of numbers, flags, strings, slices and structs. -/
def simpleT (P : Program) (l : List TypeId) (t : TypeId) : Bool := match P.underlying t with
  | some .bool | some (.int _) | some .string => true
  | some (.slice e) => l.contains e && decide (0 < P.cellsOf e)
  | some (.struct fs) => fs.toList.all (fun f => l.contains f.type) && (fs.toList.foldl (fun (acc : Option Nat) f => acc.bind fun n => if f.offset = n then some (n + P.cellsOf f.type) else none) (some 0) == some (P.cellsOf t))
  | _ => false
def simpleAll (P : Program) (l : List TypeId) : Bool := l.all (simpleT P l)

theorem VsRel.flatten {ι : Emb} : ∀ {css : List (List AV)} {vss : List (List Value)}, css.length = vss.length → (∀ (i : Nat) (hi : i < css.length) (hi' : i < vss.length), VsRel ι css[i] vss[i]) → VsRel ι css.flatten vss.flatten
  | [], [], _, _ => .nil
  | [], _ :: _, h, _ => by simp at h
  | _ :: _, [], h, _ => by simp at h
  | c :: css, v :: vss, h, hr => by
    simp only [List.flatten_cons]
    refine (hr 0 (by simp) (by simp)).append (VsRel.flatten (by simpa using h) fun i hi hi' => ?_)
    have := hr (i + 1) (by simpa using hi) (by simpa using hi')
    simpa using this

section
variable {H : Type} {enc : TypeId × Value → H} {P : Program} {w : World} {held : Bool}

/-- What opening promises. -/
def Opens (P : Program) (w : World) (t : TypeId) (cs : List Value) (d : DataW H) : Prop := ∀ (ι : Emb) (h : AHeap), Init ι h w → ∃ (ι' : Emb) (h' : AHeap) (avs : List AV), Ext ι ι' ∧ More h h' ∧ Init ι' h' w ∧ VsRel ι' avs cs ∧ RepD P h' t d avs

theorem opens_list : ∀ (l : List (TypeId × List Value × DataW H)), (∀ p ∈ l, Opens P w p.1 p.2.1 p.2.2) → ∀ (ι : Emb) (h : AHeap), Init ι h w → ∃ (ι' : Emb) (h' : AHeap) (css : List (List AV)), Ext ι ι' ∧ More h h' ∧ Init ι' h' w ∧ css.length = l.length ∧
    ∀ (i : Nat) (hi : i < css.length) (hi' : i < l.length), VsRel ι' css[i] l[i].2.1 ∧ RepD P h' l[i].1 l[i].2.2 css[i]
  | [], _, ι, h, s => ⟨ι, h, [], .refl ι, .refl h, s, rfl, fun i hi => by simp at hi⟩
  | p :: l, hp, ι, h, s => by
    obtain ⟨ι1, h1, avs, e1, m1, s1, v1, r1⟩ := hp p (List.mem_cons_self ..) ι h s
    obtain ⟨ι2, h2, css, e2, m2, s2, hl, hr⟩ := opens_list l (fun q hq => hp q (List.mem_cons_of_mem _ hq)) ι1 h1 s1
    refine ⟨ι2, h2, avs :: css, e1.trans e2, m1.trans m2, s2, by simp [hl], fun i hi hi' => ?_⟩
    cases i with
    | zero => exact ⟨v1.ext e2, r1.more m2⟩
    | succ i =>
      have := hr i (by simpa using hi) (by simpa using hi')
      simpa using this

theorem fold_offsets (P : Program) : ∀ (fs : List Field) (n m : Nat), fs.foldl (fun (acc : Option Nat) f => acc.bind fun n => if f.offset = n then some (n + P.cellsOf f.type) else none) (some n) = some m →
    ∀ (cs : List Value), cs.length = m → (cs.drop n) = (fs.map fun f => (cs.drop f.offset).take (P.cellsOf f.type)).flatten
  | [], n, m, h, cs, hl => by
    simp at h; subst h
    simp [← hl]
  | f :: fs, n, m, h, cs, hl => by
    simp only [List.foldl_cons, Option.bind_some] at h
    by_cases e : f.offset = n
    · rw [if_pos e] at h
      have ih := fold_offsets P fs _ m h cs hl
      simp only [List.map_cons, List.flatten_cons, e, ← ih]
      rw [← List.drop_drop]
      exact (List.take_append_drop _ _).symm
    · rw [if_neg e] at h
      have : ∀ fs : List Field, fs.foldl (fun (acc : Option Nat) f => acc.bind fun n => if f.offset = n then some (n + P.cellsOf f.type) else none) none = none := fun fs => by
        induction fs with
        | nil => rfl
        | cons g gs ih => simpa using ih
      rw [this] at h; cases h

theorem opens {l : List TypeId} (hs : simpleAll P l = true) : ∀ (n : Nat) (t : TypeId) (cs : List Value) (x : DataW H × List MemPlace), l.contains t = true → DataW.trod enc P w 0 (fun _ => true) held n t cs = some x →
    (0 < w.heap.size ∨ ∀ c ∈ cs, ∀ a m k, c ≠ .slice (some a) m k) → Opens P w t cs x.1 := by
  intro n
  induction n with
  | zero => intro t cs x _ h; simp [DataW.trod] at h
  | succ n ih =>
    intro t cs x ht h hpos ι h0 s
    have hst : simpleT P l t = true := by
      have := List.all_eq_true.1 hs t (by simpa using ht)
      exact this
    unfold simpleT at hst
    split at hst
    · rename_i hu
      obtain ⟨b, rfl, rfl⟩ := DataW.trod_bool hu h
      exact ⟨ι, h0, [.bool b], .refl _, .refl _, s, .cons _ _ _ _ (.bool b) .nil, .bool t hu b⟩
    · rename_i k hu
      obtain ⟨m, rfl, rfl, hw⟩ := DataW.trod_int hu h
      exact ⟨ι, h0, [.int k m], .refl _, .refl _, s, .cons _ _ _ _ (.int k m) .nil, .int t k hu m hw⟩
    · rename_i hu
      obtain ⟨b, rfl, rfl, _⟩ := DataW.trod_string hu h
      exact ⟨ι, h0, _, .refl _, .refl _, s, .cons _ _ _ _ (.str _ b rfl) .nil, .str t hu _⟩
    · rename_i e hu
      simp only [Bool.and_eq_true, decide_eq_true_eq] at hst
      obtain ⟨hte, hsz⟩ := hst
      rcases DataW.trod_slice hu h with ⟨rfl, rfl⟩ | ⟨a, len, cap, elems, rest, n', hn, rfl, rfl, _, hle, _, hel, he, hr, _⟩
      · exact ⟨ι, h0, [.slice none 0 0 0 true], .refl _, .refl _, s, .cons _ _ _ _ (.sliceNone 0 true) .nil, .nil t e hu⟩
      · obtain rfl : n' = n := by omega
        have hpos' : 0 < w.heap.size := by
          rcases hpos with h | h
          · exact h
          · exact absurd rfl (h _ (List.mem_cons_self ..) a len cap)
        obtain ⟨hrl, hr⟩ := hr rfl
        -- each element's cells
        have each : ∀ i (hi : i < len), ∃ cs', w.cells? 0 (a.add (i * P.cellsOf e)) (P.cellsOf e) = some cs' ∧ DataW.trod enc P w 0 (fun _ => true) held n' e cs' = some (elems[i]'(by omega)) := fun i hi => by
          have := he i hi
          rw [List.getElem?_eq_getElem (by omega)] at this
          obtain ⟨cs', h1, h2⟩ := Option.bind_eq_some_iff.1 this
          exact ⟨cs', h1, h2⟩
        have eachr : ∀ j (hj : j < cap - len), ∃ cs', w.cells? 0 (a.add ((len + j) * P.cellsOf e)) (P.cellsOf e) = some cs' := fun j hj => by
          have := hr j hj
          rw [List.getElem?_eq_getElem (by omega)] at this
          obtain ⟨cs', h1, _⟩ := Option.bind_eq_some_iff.1 this
          exact ⟨cs', h1⟩
        have eachc : ∀ i, i < cap → ∃ cs', w.cells? 0 (a.add (i * P.cellsOf e)) (P.cellsOf e) = some cs' := fun i hi => by
          by_cases h : i < len
          · obtain ⟨cs', h1, _⟩ := each i h; exact ⟨cs', h1⟩
          · have := eachr (i - len) (by omega)
            rw [show len + (i - len) = i by omega] at this; exact this
        have addE : ∀ (k : Nat), (a.add k).block = a.block ∧ (a.add k).off = a.off + k := fun k => by
          unfold Addr.add; split
          · rename_i h0; subst h0; exact ⟨rfl, rfl⟩
          · exact ⟨rfl, rfl⟩
        have cellAt : ∀ i, i < cap * P.cellsOf e → (w.cell? ⟨a.block, a.off + i, none⟩).isSome = true := fun i hi => by
          have hq : i / P.cellsOf e < cap := Nat.div_lt_of_lt_mul (by rw [Nat.mul_comm]; exact hi)
          obtain ⟨cs', h1⟩ := eachc _ hq
          obtain ⟨_, _, h3⟩ := cells?_inv h1 hsz
          obtain ⟨v, _, h4⟩ := h3 (i % P.cellsOf e) (Nat.mod_lt _ hsz)
          rw [(addE _).1, (addE _).2] at h4
          have : a.off + i / P.cellsOf e * P.cellsOf e + i % P.cellsOf e = a.off + i := by rw [Nat.add_assoc, Nat.mul_comm, Nat.div_add_mod]
          rw [this] at h4; rw [h4]; rfl
        have choose : ∃ vss : List (List Value), vss.length = len ∧ ∀ i (hi : i < len) (hi' : i < vss.length), w.cells? 0 (a.add (i * P.cellsOf e)) (P.cellsOf e) = some vss[i] ∧ DataW.trod enc P w 0 (fun _ => true) held n' e vss[i] = some (elems[i]'(by omega)) := by
          refine ⟨(List.range len).map fun i => (w.cells? 0 (a.add (i * P.cellsOf e)) (P.cellsOf e)).getD [], by simp, fun i hi hi' => ?_⟩
          obtain ⟨cs', h1, h2⟩ := each i hi
          simp only [List.getElem_map, List.getElem_range, h1, Option.getD_some]
          exact ⟨trivial, h2⟩
        obtain ⟨vss, hvl, hvs⟩ := choose
        have hlen' : (vss.zip (elems.map fun y => y.1)).length = len := by simp; omega
        obtain ⟨ι1, h1, css, e1, m1, s1, hcl, hcr⟩ := opens_list (P := P) (w := w) ((vss.zip (elems.map fun y => y.1)).map fun p => (e, p.1, p.2)) (fun p hp => by
          obtain ⟨p, hp2, rfl⟩ := List.mem_map.1 hp
          obtain ⟨i, hi, rfl⟩ := List.mem_iff_getElem.1 hp2
          have hi2 : i < len := by omega
          obtain ⟨q1, q2⟩ := hvs i hi2 (by omega)
          have := ih e _ _ hte q2 (.inl hpos')
          simp only [List.getElem_zip, List.getElem_map]
          exact this) ι h0 s
        have hcl' : css.length = len := by rw [hcl, List.length_map]; exact hlen'
        have hvsz : ∀ i (hi : i < vss.length), vss[i].length = P.cellsOf e := fun i hi => by
          obtain ⟨q1, _⟩ := hvs i (by omega) hi
          exact (cells?_inv q1 hsz).2.1
        have hcv : ∀ i (hi : i < css.length), VsRel ι1 css[i] (vss[i]'(by omega)) := fun i hi => by
          have := (hcr i hi (by rw [List.length_map, hlen']; omega)).1
          simpa [List.getElem_zip] using this
        have hcsz : ∀ c ∈ css, c.length = P.cellsOf e := fun c hc => by
          obtain ⟨i, hi, rfl⟩ := List.mem_iff_getElem.1 hc
          rw [(hcv i hi).length, hvsz]
        have flat : ∀ {α : Type} (xss : List (List α)) (z : Nat), (∀ c ∈ xss, c.length = z) → xss.flatten.length = xss.length * z := fun xss z hz => by
          induction xss with
          | nil => simp
          | cons c xss ih =>
            have h1 := hz c (List.mem_cons_self ..)
            have h2 := ih fun d hd => hz d (List.mem_cons_of_mem _ hd)
            simp only [List.flatten_cons, List.length_append, h1, h2, List.length_cons, Nat.add_mul]; omega
        have hfl : css.flatten.length = len * P.cellsOf e := by rw [flat css _ hcsz, hcl']
        have hrel : VsRel ι1 css.flatten vss.flatten := VsRel.flatten (by omega) fun i hi hi' => hcv i hi
        obtain ⟨bf, hbf⟩ := s1.sim.fin
        have hb := hbf bf (Nat.le_refl _)
        -- where the cells of all elements stand
        have hcell : ∀ i v, vss.flatten[i]? = some v → w.cell? ⟨a.block, a.off + i, none⟩ = some v := by
          intro i v hv
          have hfv : vss.flatten.length = len * P.cellsOf e := by rw [flat vss _ (fun c hc => by obtain ⟨j, hj, rfl⟩ := List.mem_iff_getElem.1 hc; exact hvsz j hj), hvl]
          have hi : i < len * P.cellsOf e := by rw [← hfv]; exact (List.getElem?_eq_some_iff.1 hv).1
          have hq : i / P.cellsOf e < len := Nat.div_lt_of_lt_mul (by rw [Nat.mul_comm]; exact hi)
          obtain ⟨q1, _⟩ := hvs _ hq (by omega)
          obtain ⟨_, _, h3⟩ := cells?_inv q1 hsz
          obtain ⟨u, hu1, h4⟩ := h3 (i % P.cellsOf e) (Nat.mod_lt _ hsz)
          rw [(addE _).1, (addE _).2] at h4
          have ei : i / P.cellsOf e * P.cellsOf e + i % P.cellsOf e = i := by rw [Nat.mul_comm, Nat.div_add_mod]
          have e1 : a.off + i / P.cellsOf e * P.cellsOf e + i % P.cellsOf e = a.off + i := by rw [Nat.add_assoc, ei]
          rw [e1] at h4
          have at_ : ∀ (xss : List (List Value)) (z : Nat), (∀ c ∈ xss, c.length = z) → ∀ (j r : Nat) (hj : j < xss.length), r < z → xss.flatten[j * z + r]? = xss[j][r]? := by
            intro xss z hz
            induction xss with
            | nil => intro j r hj; simp at hj
            | cons c xss ih =>
              intro j r hj hr'
              have h1 := hz c (List.mem_cons_self ..)
              cases j with
              | zero => rw [Nat.zero_mul, Nat.zero_add, List.flatten_cons, List.getElem?_append_left (by omega)]; rfl
              | succ j =>
                have := ih (fun d hd => hz d (List.mem_cons_of_mem _ hd)) j r (by simpa using hj) hr'
                rw [List.flatten_cons, List.getElem?_append_right (by rw [h1, Nat.add_mul]; omega), h1, show (j + 1) * z + r - z = j * z + r by rw [Nat.add_mul]; omega, this]
                rfl
          have := at_ vss _ (fun c hc => by obtain ⟨j, hj, rfl⟩ := List.mem_iff_getElem.1 hc; exact hvsz j hj) (i / P.cellsOf e) (i % P.cellsOf e) (by omega) (Nat.mod_lt _ hsz)
          rw [ei, hv, hu1] at this
          rw [h4, ← this]
        have build : ∀ L : Loc, L.blk < w.heap.size → (0 < cap → L = ⟨a.block, a.off, cap * P.cellsOf e⟩) → (cap = 0 → L.room = 0) → (0 < cap → a.spot = none) → _ := fun L hL1 hL2 hL3 hsp => by
          have hlc : css.flatten.length ≤ L.room := by
            by_cases hc : 0 < cap
            · rw [hL2 hc, hfl]; exact Nat.mul_le_mul_right _ hle
            · have : len = 0 := by omega
              rw [hfl, this]; omega
          have s2 := s1.add hb (L := L) (cs := css.flatten) hL1 hlc (fun i hi => by
              by_cases hc : 0 < cap
              · rw [hL2 hc] at hi ⊢; exact cellAt i hi
              · have := hL3 (by omega); omega) (fun i v hv => by
              obtain ⟨cv, q1, q2⟩ := hrel.get hv
              by_cases hc : 0 < cap
              · rw [hL2 hc]; exact ⟨cv, hcell i cv q1, q2⟩
              · have : css.flatten.length = 0 := by have := hL3 (by omega); omega
                have := (List.getElem?_eq_some_iff.1 hv).1; omega)
          have hext : Ext ι1 (ι1.upd bf L) := Emb.ext_upd (s1.sim.fresh hb)
          have m2 := More.upd hb (.cells css.flatten true)
          exact (⟨ι1.upd bf L, h1.upd bf (.cells css.flatten true), [.slice (some (bf, 0)) (P.cellsOf e) len cap true], e1.trans hext, m1.trans m2, s2,
            .cons _ _ _ _ (.slice bf 0 (P.cellsOf e) len cap true L (Emb.upd_same _ _ _) a cap hle (Nat.le_refl _) (fun _ => rfl) (fun hc => by
              rw [hL2 hc]
              refine ⟨?_, by simp⟩
              have := hsp hc
              cases a; simp_all)) .nil,
            .slice t e hu _ _ css _ hsz ⟨⟨some (bf, 0), P.cellsOf e, len, cap, true, rfl, hfl, hle, fun e => (by cases e), fun b o e => by
              cases e
              exact ⟨rfl, css.flatten, true, AHeap.upd_same _ _ _, by omega, by rw [List.drop_zero, List.take_of_length_le (by omega)]⟩⟩, fun b hb => by cases hb; exact ⟨_, AHeap.upd_same _ _ _⟩⟩
              (by simp; omega) hcsz (fun i hi hi' => by
                have := (hcr i hi (by rw [List.length_map, hlen']; omega)).2
                simp only [List.getElem_map, List.getElem_zip] at this
                simp only [List.getElem_map]
                exact this.more m2)⟩ : ∃ ι' h' avs, Ext ι ι' ∧ More h0 h' ∧ Init ι' h' w ∧ VsRel ι' avs [.slice (some a) len cap] ∧ RepD P h' t (.slice (elems.map (·.1)) (rest.map (·.1))) avs)
        by_cases hc : 0 < cap
        · obtain ⟨cs', q1⟩ := eachc 0 hc
          obtain ⟨q2, q3, q4⟩ := cells?_inv q1 hsz
          obtain ⟨v, _, q5⟩ := q4 0 hsz
          rw [(addE _).1] at q5
          have hblk : a.block < w.heap.size := by
            unfold World.cell? at q5
            cases hh : w.heap[a.block]? with
            | none => simp [hh] at q5
            | some o => exact (Array.getElem?_eq_some_iff.1 hh).1
          have hsp : a.spot = none := by
            rw [Nat.zero_mul] at q2
            unfold Addr.add at q2; simpa using q2
          exact build ⟨a.block, a.off, cap * P.cellsOf e⟩ hblk (fun _ => rfl) (fun h => by omega) fun _ => hsp
        · exact build ⟨0, 0, 0⟩ hpos' (fun h => absurd h hc) (fun _ => rfl) fun h => absurd h hc
    · rename_i fs hu
      simp only [Bool.and_eq_true, List.all_eq_true, beq_iff_eq] at hst
      obtain ⟨hf, hoff⟩ := hst
      obtain ⟨xs, n', hn, rfl, hcl, hxl, hx⟩ := DataW.trod_struct hu h
      obtain rfl : n' = n := by omega
      have hflat := fold_offsets P fs.toList 0 _ hoff cs hcl
      rw [List.drop_zero] at hflat
      have hlen' : (fs.toList.zip (xs.map fun y => y.1)).length = fs.size := by simp; omega
      obtain ⟨ι1, h1, css, e1, m1, s1, hcl', hcr⟩ := opens_list (P := P) (w := w) ((fs.toList.zip (xs.map fun y => y.1)).map fun p => (p.1.type, (cs.drop p.1.offset).take (P.cellsOf p.1.type), p.2)) (fun p hp => by
        obtain ⟨p, hp2, rfl⟩ := List.mem_map.1 hp
        obtain ⟨i, hi, rfl⟩ := List.mem_iff_getElem.1 hp2
        have hi2 : i < fs.size := by omega
        have := hx i fs[i] (by simp)
        rw [List.getElem?_eq_getElem (by omega)] at this
        have := ih _ _ _ (hf fs[i] (by simp)) this (by
          rcases hpos with h | h
          · exact .inl h
          · exact .inr fun c hc => h c (List.mem_of_mem_drop (List.mem_of_mem_take hc)))
        simp only [List.getElem_zip, List.getElem_map, Array.getElem_toList]
        exact this) ι h0 s
      have hcl2 : css.length = fs.size := by rw [hcl', List.length_map]; exact hlen'
      refine ⟨ι1, h1, css.flatten, e1, m1, s1, ?_, .agg t fs hu _ css (by simp; omega) hcl2 fun i hi hi' hi2 => ?_⟩
      · rw [hflat]
        refine VsRel.flatten (by simp; omega) fun i hi hi' => ?_
        have := (hcr i hi (by rw [List.length_map, hlen']; omega)).1
        simpa [List.getElem_zip] using this
      · have := (hcr i hi (by rw [List.length_map, hlen']; omega)).2
        simpa [List.getElem_zip] using this
    · cases hst
end
end Go.Am
/-
  A LAW's FRAME: from a call told by an abstract memory to the statement's own words.
-/
namespace Go.Am
open Go.RowKit Go.ChangeShapes Go.WideShapes Go.ChangeAt

section
variable {H : Type} {enc : TypeId × Value → H} {P : Program}

theorem cell_pos {w : World} {r : Reach} {base : Nat} {u : TypeId} {a : Addr} {m k : Nat} (h : Cell.okWide P w r base u (.slice (some a) m k)) : 0 < w.heap.size := by
  unfold Cell.okWide at h
  split at h
  all_goals (rename_i heq; try cases heq)
  unfold Cell.ok at h
  split at h
  all_goals (try (rename_i heq; cases heq))
  · obtain ⟨_, _, _, _, row, cells, hs, _⟩ := h
    unfold World.shape? at hs
    cases hh : w.heap[a.block]? with
    | none => simp [hh] at hs
    | some o => have := (Array.getElem?_eq_some_iff.1 hh).1; omega
  · exact h.elim
theorem okWide_pos {w : World} {r : Reach} {base : Nat} {t : TypeId} {v : Value} (h : Value.okWide P w r base t v) : 0 < w.heap.size ∨ ∀ c ∈ v.cells.toList, ∀ a m k, c ≠ .slice (some a) m k := by
  by_cases hz : 0 < w.heap.size
  · exact .inl hz
  · refine .inr fun c hc a m k e => hz ?_
    subst e
    unfold Value.okWide at h
    split at h
    · obtain ⟨cs, rfl, _, _, _, _, hr⟩ := h
      obtain ⟨i, hi, e⟩ := List.mem_iff_getElem.1 hc
      have hi' : i < cs.size := by simpa [Value.cells] using hi
      have e' : cs[i]? = some (.slice (some a) m k) := by
        rw [Array.getElem?_eq_getElem hi']
        simp only [Value.cells, Array.getElem_toList] at e
        rw [e]
      obtain ⟨u, _, hu⟩ := hr i _ e'
      exact cell_pos hu
    · obtain ⟨cs, rfl, _, _, _, _, hr⟩ := h
      obtain ⟨i, hi, e⟩ := List.mem_iff_getElem.1 hc
      have hi' : i < cs.size := by simpa [Value.cells] using hi
      have e' : cs[i]? = some (.slice (some a) m k) := by
        rw [Array.getElem?_eq_getElem hi']
        simp only [Value.cells, Array.getElem_toList] at e
        rw [e]
      obtain ⟨u, _, hu⟩ := hr i _ e'
      exact cell_pos hu
    · cases v with
      | agg cs => unfold Cell.okWide at h; split at h <;> (rename_i heq; try cases heq); unfold Cell.ok at h; split at h <;> first | exact h.elim | (rename_i heq; cases heq)
      | slice p l c' =>
        simp only [Value.cells, List.mem_singleton] at hc
        simp at hc
        obtain ⟨rfl, rfl, rfl⟩ := hc
        exact cell_pos h
      | _ => simp [Value.cells] at hc

/-- A type of one cell. -/
def oneT (P : Program) (t : TypeId) : Bool := match P.underlying t with
  | some (.struct _) | some (.array _ _) => false
  | _ => true
theorem okWide_one {w : World} {r : Reach} {base : Nat} {t : TypeId} {v : Value} (h : Value.okWide P w r base t v) (ht : oneT P t = true) : ∀ cs, v ≠ .agg cs := by
  rintro cs rfl
  unfold oneT at ht
  unfold Value.okWide at h
  split at h
  · rename_i hu; rw [hu] at ht; cases ht
  · rename_i hu; rw [hu] at ht; cases ht
  · unfold Cell.okWide at h; split at h <;> (rename_i heq; try cases heq); unfold Cell.ok at h; split at h <;> first | exact h.elim | (rename_i heq; cases heq)
theorem VRel.of_cells {ι : Emb} {avs : List AV} {v : Value} (h : VsRel ι avs v.cells.toList) : ∃ a : AV, VRel ι a v ∧ a.cells = avs ∧ ((∀ cs, v ≠ .agg cs) → a.cells = [a]) := by
  cases v with
  | agg cs => exact ⟨.agg avs, .agg _ _ h, rfl, fun hn => absurd rfl (hn cs)⟩
  | _ =>
    simp only [Value.cells] at h
    cases h with
    | cons a _ l _ hv hs =>
      cases hs
      have hac : a.cells = [a] := by
        cases a with
        | agg cs => cases hv
        | _ => rfl
      exact ⟨a, hv, hac, fun _ => hac⟩

theorem opens_args {l : List TypeId} (hs : simpleAll P l = true) {w : World} {held : Bool} : ∀ {ts : List TypeId} {vs : List Value} {ds : List (DataW H)} {ps : List MemPlace}, DataW.TrodAll enc P w 0 (fun _ => true) held ts vs ds ps → ts.all (fun t => l.contains t) = true →
    (∀ (j : Nat) t v, ts[j]? = some t → vs[j]? = some v → (0 < w.heap.size ∨ ∀ c ∈ v.cells.toList, ∀ a m k, c ≠ .slice (some a) m k) ∧ (oneT P t = true → ∀ cs, v ≠ .agg cs)) →
    ∀ (ι : Emb) (h : AHeap), Init ι h w → ∃ (ι' : Emb) (h' : AHeap) (as : List AV), Ext ι ι' ∧ More h h' ∧ Init ι' h' w ∧ VsRel ι' as vs ∧ as.length = ds.length ∧ ts.length = ds.length ∧ ∀ (i : Nat) (hi : i < as.length) (hi' : i < ds.length) (hi2 : i < ts.length), RepD P h' ts[i] ds[i] as[i].cells ∧ (oneT P ts[i] = true → as[i].cells = [as[i]])
  | [], [], [], _, _, _, _, ι, h, s => ⟨ι, h, [], .refl ι, .refl h, s, .nil, rfl, rfl, fun i hi => by simp at hi⟩
  | t :: ts, v :: vs, d :: ds, ps, hA, hc, hv, ι, h, s => by
    obtain ⟨p, q, ⟨n, h1⟩, h2, rfl⟩ := hA
    simp only [List.all_cons, Bool.and_eq_true] at hc
    obtain ⟨ι1, k1, avs, e1, m1, s1, v1, r1⟩ := opens hs n t _ _ hc.1 h1 (hv 0 t v rfl rfl).1 ι h s
    obtain ⟨a, ha, hac, hone⟩ := VRel.of_cells v1
    obtain ⟨ι2, k2, as, e2, m2, s2, v2, l2, l3, r2⟩ := opens_args hs h2 hc.2 (fun j t v ht hv' => hv (j + 1) t v (by simpa using ht) (by simpa using hv')) ι1 k1 s1
    refine ⟨ι2, k2, a :: as, e1.trans e2, m1.trans m2, s2, .cons _ _ _ _ (ha.ext e2) v2, by simp [l2], by simp [l3], fun i hi hi' hi2 => ?_⟩
    cases i with
    | zero => simp only [List.getElem_cons_zero]; exact ⟨by rw [hac]; exact r1.more m2, fun ht => hone ((hv 0 t v rfl rfl).2 ht)⟩
    | succ i =>
      simp only [List.getElem_cons_succ]
      exact r2 i (by simpa using hi) (by simpa using hi') (by simpa using hi2)
  | [], [], _ :: _, _, h, _, _, _, _, _ => h.elim
  | [], _ :: _, _, _, h, _, _, _, _, _ => h.elim
  | _ :: _, [], _, _, h, _, _, _, _, _ => h.elim
  | _ :: _, _ :: _, [], _, h, _, _, _, _, _ => h.elim

/-- What came in reads behind the call as it did. -/
theorem trodAll_stays (hl : laidOutB P = true) {W W' : World} {sp : Nat → Bool} : ∀ {ts : List TypeId} {vs : List Value} {ds : List (DataW H)} {ps : List MemPlace}, ts.all (fun t => P.readableRec t && decide (t < P.types.size)) = true →
    DataW.TrodAll enc P W 0 (fun _ => true) true ts vs ds ps → (∀ p ∈ ps, W.sameAt W' p) → (∀ p ∈ ps, sp p.block = true) → DataW.TrodAll enc P W' 0 sp true ts vs ds ps
  | [], [], [], _, _, h, _, _ => h
  | t :: ts, v :: vs, d :: ds, ps, hr, h, h1, h2 => by
    obtain ⟨p, q, ht, hts, rfl⟩ := h
    simp only [List.all_cons, Bool.and_eq_true, decide_eq_true_eq] at hr
    exact ⟨p, q, WideElems.Trod_stays hl hr.1.1 hr.1.2 ht (fun x hx => h1 x (by simp [hx])) (fun x hx => h2 x (by simp [hx])), trodAll_stays hl hr.2 hts (fun x hx => h1 x (by simp [hx])) (fun x hx => h2 x (by simp [hx])), rfl⟩
  | [], [], _ :: _, _, _, h, _, _ => h.elim
  | [], _ :: _, _, _, _, h, _, _ => h.elim
  | _ :: _, [], _, _, _, h, _, _ => h.elim
  | _ :: _, _ :: _, [], _, _, h, _, _ => h.elim

/-- The closed facts that a law's frame asks of the program. -/
def frameB (P : Program) (l : List TypeId) (f : Func) (tb : TypeId) : Bool :=
  simpleAll P l && f.params.toList.all (fun t => l.contains t) && laidOutB P && f.params.toList.all (fun t => P.readableRec t && decide (t < P.types.size)) && (f.resultTypes == #[tb])

theorem law_post {f : Func} {s : ChangeSpec} {tb : TypeId} (hres : f.resultTypes = #[tb]) (hb : P.underlying tb = some .bool) (hvars : s.vars = []) (hl : laidOutB P = true) (hr : f.params.toList.all (fun t => P.readableRec t && decide (t < P.types.size)) = true)
    {apart : Bool} {W W' : World} {args : Array Value} {ds gs : List (DataW H)} {before : List MemPlace} (hW : DataW.Whole enc P f.params.toList s.vars apart W args.toList ds gs before) (hspec : s.fn H (ds ++ gs) = { results := [.lit (.bool true)], args := ds })
    (hbl : Below W.heap.size W W') : s.post enc P f apart true false false W args (.bool true) W' := by
  have hlt := hW.lt
  have hW2 := hW
  obtain ⟨p, q, hA, hV, rfl, hfz, hnd⟩ := hW
  have hlt' : ∀ x ∈ p, x.block < W.heap.size := fun x hx => hlt x (by simp [hx])
  have hsame : ∀ x ∈ p, W.sameAt W' x := fun x hx => hbl.same (hlt' x hx)
  have hgs : gs = [] ∧ q = [] := by
    rw [hvars] at hV
    cases gs with
    | nil => exact ⟨rfl, hV⟩
    | cons _ _ => exact hV.elim
  obtain ⟨rfl, rfl⟩ := hgs
  refine ⟨ds, [], p ++ [], [], p, [], hW2, ?_, ?_, ?_, hbl.frame _, fun e => by cases e⟩
  · rw [hspec, hres]
    exact ⟨[], [], ⟨1, by simp [DataW.trod, hb, Value.cells]⟩, rfl, rfl⟩
  · rw [hspec]
    exact trodAll_stays hl hr hA hsame fun x hx => by simpa using hlt' x hx
  · rw [hvars, hspec]; rfl

/-- THE FRAME OF A LAW: from a call told by an abstract memory. -/
theorem law_contract {fnum : FuncId} {f : Func} {s : ChangeSpec} {l : List TypeId} {tb : TypeId} (hfr : frameB P l f tb = true) (hb : P.underlying tb = some .bool) (hvars : s.vars = []) (hspec : ∀ ds : List (DataW H), ds.length = f.params.size → s.fn H ds = { results := [.lit (.bool true)], args := ds })
    {k : List (DataW H) → Prop}
    (call : ∀ (N : Nat) (h : AHeap) (as : List AV) (ds : List (DataW H)), as.length = ds.length → f.params.size = ds.length → (∀ (i : Nat) (hi : i < as.length) (hi' : i < ds.length) (hi2 : i < f.params.size), RepD P h f.params[i] ds[i] as[i].cells ∧ (oneT P f.params[i] = true → as[i].cells = [as[i]])) → k ds → ARets P N fnum as h fun r _ => r = .bool true)
    {apart : Bool} {W : World} {base : Nat} {args : Array Value} {ds gs : List (DataW H)} {before : List MemPlace} (hval : ∀ (j : Nat) t v, f.params[j]? = some t → args[j]? = some v → Value.okWide P W .any base t v)
    (hW : DataW.Whole enc P f.params.toList s.vars apart W args.toList ds gs before) (hk : k (ds ++ gs)) : Calls P fnum args W fun e W' => ∃ v, e = .returned v ∧ s.post enc P f apart true false false W args v W' := by
  simp only [frameB, Bool.and_eq_true, beq_iff_eq] at hfr
  obtain ⟨⟨⟨⟨h1, h2⟩, h3⟩, h4⟩, h5⟩ := hfr
  have hW2 := hW
  obtain ⟨p, q, hA, hV, _, hfz, hnd⟩ := hW
  have hgs : gs = [] := by
    rw [hvars] at hV
    cases gs with
    | nil => rfl
    | cons _ _ => exact hV.elim
  subst hgs
  obtain ⟨ι, h, as, _, _, s0, hv, hl1, hl2, hr⟩ := opens_args h1 hA h2 (fun j t v ht hv => ⟨okWide_pos (hval j t v (by simpa using ht) (by simpa using hv)), fun h => okWide_one (hval j t v (by simpa using ht) (by simpa using hv)) h⟩) _ _ (Init.empty W)
  rw [List.append_nil] at hk
  have hc := call W.heap.size h as ds hl1 (by simpa using hl2) (fun i hi hi' hi2 => by have := hr i hi hi' (by simpa using hi2); rwa [Array.getElem_toList] at this) hk
  refine (hc.2 ι W args s0.sim hv).mono fun e W' ⟨ι', h', x, _, s', hbl, he, hx⟩ => ?_
  cases x with
  | panic v => exact hx.elim
  | ret v =>
    simp only [] at hx
    subst hx
    cases e with
    | returned cv =>
      simp only [EndRel] at he
      cases he
      refine ⟨_, rfl, law_post h5 hb hvars h3 h4 hW2 ?_ hbl⟩
      rw [List.append_nil]
      exact hspec ds (by simpa using hl2.symm)
    | panicked c => exact he.elim
    | outgrown => exact he.elim
end
end Go.Am
