/-
  Part of the proofs about the heap: an abstract memory, its compiled code, and the contracts of the functions over it.
  Conditions: each theorem names its own.
-/
import Derived.Test.YtnkdjfmidiffdaaH3
set_option linter.unusedSimpArgs false
set_option linter.unusedVariables false
namespace Go.Proofs.Ytnkdjfmidiffdaa
open Go Go.Proofs Go.Am
variable {N : Nat}

abbrev srt (l : List Int) : List Int := l.mergeSort fun x y => decide (x ≤ y)
theorem srt_perm (l : List Int) : (srt l).Perm l := List.mergeSort_perm l _
theorem srt_mem {l : List Int} {n : Int} : n ∈ srt l ↔ n ∈ l := (srt_perm l).mem_iff
theorem srt_rising (l : List Int) : (srt l).Pairwise (· ≤ ·) := by
  have tr : ∀ a b c : Int, decide (a ≤ b) = true → decide (b ≤ c) = true → decide (a ≤ c) = true := fun a b c h1 h2 => by simp at *; omega
  have to : ∀ a b : Int, (decide (a ≤ b) || decide (b ≤ a)) = true := fun a b => by simp; omega
  exact (List.pairwise_mergeSort tr to l).imp fun h => by simpa using h
theorem srt_strict {l : List Int} (h : l.Nodup) : (srt l).Pairwise (· < ·) := by
  have h1 := srt_rising l
  have h2 : (srt l).Pairwise (· ≠ ·) := (srt_perm l).nodup_iff.2 h
  exact (h1.and h2).imp fun ⟨a, b⟩ => by omega
/-- Rising lists with the same numbers are the same. -/
theorem rising_eq : ∀ {l m : List Int}, l.Pairwise (· < ·) → m.Pairwise (· < ·) → (∀ n, n ∈ l ↔ n ∈ m) → l = m := by
  intro l m h1 h2 h
  have n1 : l.Nodup := h1.imp fun h => by omega
  have n2 : m.Nodup := h2.imp fun h => by omega
  exact List.Perm.eq_of_pairwise (le := fun a b => a < b) (fun a b _ _ h1 h2 => by omega) h1 h2 (perm_of_subset n1 n2 h)

def namesOf (l : List Ob) : List Int := l.map fun o => (o.name : Int)
theorem kv_names (os : List HO) : (kvOf os).map (·.1) = namesOf (obsOf os) := by simp [kvOf, namesOf, obsOf]
theorem names_nodup {l : List Ob} (h : (l.map (·.name)).Nodup) : (namesOf l).Nodup := by
  have : namesOf l = (l.map (·.name)).map fun n : Nat => (n : Int) := by simp [namesOf]
  rw [this]
  exact nodup_map h fun a b _ _ e => by omega

theorem names37_c {h : AHeap} {b M : Nat} {B used least : Int} {os : List HO} (H : HIn h b M B used least os) (g : HGood B used least (obsOf os)) :
    ARets Try.prog N 37 [.ptr (some (b, 0))] h fun r h' => Grown h h' 1 r ((srt (namesOf (obsOf os))).map (.int .i64)) := by
  refine acalls_of_wp c37_ok mixed (by show 1 ≤ 9; decide) (wk_start ?_)
  unfold c37
  simp only [wk_skip, wk_region, wk_seq, wk_block, wk_cond, wk_exit, wk_ret, wk_draw, cnd_true, cnd_false, fin_nil, fin_seq, fin_seq_exit, fin_seq_ret, fin_seq_panic, fin_block, fin_block_exit, fin_block_ret, fin_block_panic, fin_loop, fin_loop_exit, fin_loop_ret, fin_loop_panic, ops_nil, ops_cons, ops_guard, res_val, res_new, main_nil, main_cons, main_guard, mres_val, mres_new, AOp.ev, AOpd.ev, evAll, evParts, evOpt, put_get, put_none, wantA, ARes.ofOpt, tmOf, List.getD_cons_zero, List.getD_cons_succ, Nat.reduceEqDiff, if_true, if_false, reduceIte, Nat.reduceAdd, Nat.reduceMul, binA, intOp, eqOp, nilOf, lenA_slice, callA, AV.cells, undefA, Option.map_some, Option.map_none, Bool.false_eq_true, reduceCtorEq, beq_false, beq_true, g_true, g_false, mg_true, mg_false, Bool.not_true, Bool.not_false, decide_true, decide_false, not_true_eq_false, not_false_eq_true, List.nil_append, List.cons_append, List.append_nil, Option.isNone_some, Option.isNone_none, List.getElem?_cons_zero, List.getElem?_cons_succ, nilCheck_ptr, H.ld.1]
  refine res_ret (keys48_made _ rfl) ?_
  rintro r h1 d ⟨cb, hcb, rfl, rfl⟩
  have m1 := More.upd hcb (.cells [.map (some M)] false)
  have T := keys53_c (N := N) (AHeap.upd_same h cb _) (H.more m1).map
  have hlen : (kvOf os).length ≤ 65536 := by
    have := g.len; have := g.tot
    simp only [obsOf, List.length_map] at this
    simp [kvOf]; simp [obsOf] at *; omega
  simp only [wk_skip, wk_region, wk_seq, wk_block, wk_cond, wk_exit, wk_ret, wk_draw, cnd_true, cnd_false, fin_nil, fin_seq, fin_seq_exit, fin_seq_ret, fin_seq_panic, fin_block, fin_block_exit, fin_block_ret, fin_block_panic, fin_loop, fin_loop_exit, fin_loop_ret, fin_loop_panic, ops_nil, ops_cons, ops_guard, res_val, res_new, main_nil, main_cons, main_guard, mres_val, mres_new, AOp.ev, AOpd.ev, evAll, evParts, evOpt, put_get, put_none, wantA, ARes.ofOpt, tmOf, List.getD_cons_zero, List.getD_cons_succ, Nat.reduceEqDiff, if_true, if_false, reduceIte, Nat.reduceAdd, Nat.reduceMul, binA, intOp, eqOp, nilOf, lenA_slice, callA, AV.cells, undefA, Option.map_some, Option.map_none, Bool.false_eq_true, reduceCtorEq, beq_false, beq_true, g_true, g_false, mg_true, mg_false, Bool.not_true, Bool.not_false, decide_true, decide_false, not_true_eq_false, not_false_eq_true, List.nil_append, List.cons_append, List.append_nil, Option.isNone_some, Option.isNone_none, List.getElem?_cons_zero, List.getElem?_cons_succ]
  refine res_ret (sorted35_c T (by omega) fun l hl => by have := hl.length_eq; simp at this; omega) ?_
  rintro r h2 d2 ⟨l, hl, G⟩
  simp only [wk_skip, wk_region, wk_seq, wk_block, wk_cond, wk_exit, wk_ret, wk_draw, cnd_true, cnd_false, fin_nil, fin_seq, fin_seq_exit, fin_seq_ret, fin_seq_panic, fin_block, fin_block_exit, fin_block_ret, fin_block_panic, fin_loop, fin_loop_exit, fin_loop_ret, fin_loop_panic, ops_nil, ops_cons, ops_guard, res_val, res_new, main_nil, main_cons, main_guard, mres_val, mres_new, AOp.ev, AOpd.ev, evAll, evParts, evOpt, put_get, put_none, wantA, ARes.ofOpt, tmOf, List.getD_cons_zero, List.getD_cons_succ, Nat.reduceEqDiff, if_true, if_false, reduceIte, Nat.reduceAdd, Nat.reduceMul, binA, intOp, eqOp, nilOf, lenA_slice, callA, AV.cells, undefA, Option.map_some, Option.map_none, Bool.false_eq_true, reduceCtorEq, beq_false, beq_true, g_true, g_false, mg_true, mg_false, Bool.not_true, Bool.not_false, decide_true, decide_false, not_true_eq_false, not_false_eq_true, List.nil_append, List.cons_append, List.append_nil, Option.isNone_some, Option.isNone_none, List.getElem?_cons_zero, List.getElem?_cons_succ]
  refine fnEnd_ret1 ?_
  rw [kv_names] at hl
  rw [sort_perm hl] at G
  exact G.base m1

theorem all38_c {h : AHeap} {b M : Nat} {B used least : Int} {os : List HO} (H : HIn h b M B used least os) (g : HGood B used least (obsOf os)) :
    ARets Try.prog N 38 [.ptr (some (b, 0))] h fun r h' => More h h' ∧ Tells Try.prog N r h' (fun done => done = srt (namesOf (obsOf os))) (srt (namesOf (obsOf os))).length := by
  refine acalls_of_wp c38_ok mixed (by show 1 ≤ 10; decide) (wk_start ?_)
  unfold c38
  simp only [wk_skip, wk_region, wk_seq, wk_block, wk_cond, wk_exit, wk_ret, wk_draw, cnd_true, cnd_false, fin_nil, fin_seq, fin_seq_exit, fin_seq_ret, fin_seq_panic, fin_block, fin_block_exit, fin_block_ret, fin_block_panic, fin_loop, fin_loop_exit, fin_loop_ret, fin_loop_panic, ops_nil, ops_cons, ops_guard, res_val, res_new, main_nil, main_cons, main_guard, mres_val, mres_new, AOp.ev, AOpd.ev, evAll, evParts, evOpt, put_get, put_none, wantA, ARes.ofOpt, tmOf, List.getD_cons_zero, List.getD_cons_succ, Nat.reduceEqDiff, if_true, if_false, reduceIte, Nat.reduceAdd, Nat.reduceMul, binA, intOp, eqOp, nilOf, lenA_slice, callA, AV.cells, undefA, Option.map_some, Option.map_none, Bool.false_eq_true, reduceCtorEq, beq_false, beq_true, g_true, g_false, mg_true, mg_false, Bool.not_true, Bool.not_false, decide_true, decide_false, not_true_eq_false, not_false_eq_true, List.nil_append, List.cons_append, List.append_nil, Option.isNone_some, Option.isNone_none, List.getElem?_cons_zero, List.getElem?_cons_succ]
  refine res_ret (names37_c H g) ?_
  intro r h1 d G
  simp only [wk_skip, wk_region, wk_seq, wk_block, wk_cond, wk_exit, wk_ret, wk_draw, cnd_true, cnd_false, fin_nil, fin_seq, fin_seq_exit, fin_seq_ret, fin_seq_panic, fin_block, fin_block_exit, fin_block_ret, fin_block_panic, fin_loop, fin_loop_exit, fin_loop_ret, fin_loop_panic, ops_nil, ops_cons, ops_guard, res_val, res_new, main_nil, main_cons, main_guard, mres_val, mres_new, AOp.ev, AOpd.ev, evAll, evParts, evOpt, put_get, put_none, wantA, ARes.ofOpt, tmOf, List.getD_cons_zero, List.getD_cons_succ, Nat.reduceEqDiff, if_true, if_false, reduceIte, Nat.reduceAdd, Nat.reduceMul, binA, intOp, eqOp, nilOf, lenA_slice, callA, AV.cells, undefA, Option.map_some, Option.map_none, Bool.false_eq_true, reduceCtorEq, beq_false, beq_true, g_true, g_false, mg_true, mg_false, Bool.not_true, Bool.not_false, decide_true, decide_false, not_true_eq_false, not_false_eq_true, List.nil_append, List.cons_append, List.append_nil, Option.isNone_some, Option.isNone_none, List.getElem?_cons_zero, List.getElem?_cons_succ]
  refine res_ret (values49_made r (SliceAt_cell G.at_)) ?_
  rintro r2 h2 d2 ⟨cb, hcb, rfl, rfl⟩
  simp only [wk_skip, wk_region, wk_seq, wk_block, wk_cond, wk_exit, wk_ret, wk_draw, cnd_true, cnd_false, fin_nil, fin_seq, fin_seq_exit, fin_seq_ret, fin_seq_panic, fin_block, fin_block_exit, fin_block_ret, fin_block_panic, fin_loop, fin_loop_exit, fin_loop_ret, fin_loop_panic, ops_nil, ops_cons, ops_guard, res_val, res_new, main_nil, main_cons, main_guard, mres_val, mres_new, AOp.ev, AOpd.ev, evAll, evParts, evOpt, put_get, put_none, wantA, ARes.ofOpt, tmOf, List.getD_cons_zero, List.getD_cons_succ, Nat.reduceEqDiff, if_true, if_false, reduceIte, Nat.reduceAdd, Nat.reduceMul, binA, intOp, eqOp, nilOf, lenA_slice, callA, AV.cells, undefA, Option.map_some, Option.map_none, Bool.false_eq_true, reduceCtorEq, beq_false, beq_true, g_true, g_false, mg_true, mg_false, Bool.not_true, Bool.not_false, decide_true, decide_false, not_true_eq_false, not_false_eq_true, List.nil_append, List.cons_append, List.append_nil, Option.isNone_some, Option.isNone_none, List.getElem?_cons_zero, List.getElem?_cons_succ]
  have m1 := More.upd hcb (.cells [r] false)
  have hlen : (srt (namesOf (obsOf os))).length ≤ 65536 := by
    have h1 := g.len; have h2 := g.tot
    rw [(srt_perm _).length_eq]
    simp [namesOf]; omega
  exact fnEnd_ret1 ⟨G.more.trans m1, values54_c (AHeap.upd_same _ _ _) (slice_more G.at_ m1) (by omega)⟩

theorem reach17_c {h : AHeap} {b M : Nat} {B used least : Int} {os : List HO} (H : HIn h b M B used least os) (g : HGood B used least (obsOf os)) {rv : AV} {roots : List Int} (Hr : Ints h rv roots) (hl : roots.length ≤ 4000000000) :
    ARets Try.prog N 17 [.ptr (some (b, 0)), rv] h fun r h' => ∃ v e, r = .tuple [v, .int .i64 e] ∧
      ((¬ KnownN (obsOf os) roots ∧ e = 15 ∧ Grown h h' 1 v []) ∨
       (KnownN (obsOf os) roots ∧ e = 0 ∧ ∃ l : List Int, Grown h h' 1 v (l.map (.int .i64)) ∧ l.Pairwise (· < ·) ∧ l.length ≤ 65536 ∧ ∀ n : Int, n ∈ l ↔ ∃ k : Nat, n = k ∧ RchN (obsOf os) roots k)) := by
  refine acalls_of_wp c17_ok mixed (by show 2 ≤ 20; decide) (wk_start ?_)
  unfold c17
  simp only [wk_skip, wk_region, wk_seq, wk_block, wk_cond, wk_exit, wk_ret, wk_draw, cnd_true, cnd_false, fin_nil, fin_seq, fin_seq_exit, fin_seq_ret, fin_seq_panic, fin_block, fin_block_exit, fin_block_ret, fin_block_panic, fin_loop, fin_loop_exit, fin_loop_ret, fin_loop_panic, ops_nil, ops_cons, ops_guard, res_val, res_new, main_nil, main_cons, main_guard, mres_val, mres_new, AOp.ev, AOpd.ev, evAll, evParts, evOpt, put_get, put_none, wantA, ARes.ofOpt, tmOf, List.getD_cons_zero, List.getD_cons_succ, Nat.reduceEqDiff, if_true, if_false, reduceIte, Nat.reduceAdd, Nat.reduceMul, binA, intOp, eqOp, nilOf, lenA_slice, callA, AV.cells, undefA, Option.map_some, Option.map_none, Bool.false_eq_true, reduceCtorEq, beq_false, beq_true, g_true, g_false, mg_true, mg_false, Bool.not_true, Bool.not_false, decide_true, decide_false, not_true_eq_false, not_false_eq_true, List.nil_append, List.cons_append, List.append_nil, Option.isNone_some, Option.isNone_none, List.getElem?_cons_zero, List.getElem?_cons_succ]
  refine res_ret (mark34_c H g Hr hl) ?_
  rintro r h1 d ⟨m1, hr⟩
  rcases hr with ⟨hk, rfl⟩ | ⟨hk, M', seen, rfl, hM', im, hs⟩
  · simp only [wk_skip, wk_region, wk_seq, wk_block, wk_cond, wk_exit, wk_ret, wk_draw, cnd_true, cnd_false, fin_nil, fin_seq, fin_seq_exit, fin_seq_ret, fin_seq_panic, fin_block, fin_block_exit, fin_block_ret, fin_block_panic, fin_loop, fin_loop_exit, fin_loop_ret, fin_loop_panic, ops_nil, ops_cons, ops_guard, res_val, res_new, main_nil, main_cons, main_guard, mres_val, mres_new, AOp.ev, AOpd.ev, evAll, evParts, evOpt, put_get, put_none, wantA, ARes.ofOpt, tmOf, List.getD_cons_zero, List.getD_cons_succ, Nat.reduceEqDiff, if_true, if_false, reduceIte, Nat.reduceAdd, Nat.reduceMul, binA, intOp, eqOp, nilOf, lenA_slice, callA, AV.cells, undefA, Option.map_some, Option.map_none, Bool.false_eq_true, reduceCtorEq, beq_false, beq_true, g_true, g_false, mg_true, mg_false, Bool.not_true, Bool.not_false, decide_true, decide_false, not_true_eq_false, not_false_eq_true, List.nil_append, List.cons_append, List.append_nil, Option.isNone_some, Option.isNone_none, List.getElem?_cons_zero, List.getElem?_cons_succ]
    refine res_ret (keys36_made _ rfl) ?_
    rintro r h2 d2 ⟨cb, hcb, rfl, rfl⟩
    have m2 := More.upd hcb (.cells [.map none] false)
    simp only [wk_skip, wk_region, wk_seq, wk_block, wk_cond, wk_exit, wk_ret, wk_draw, cnd_true, cnd_false, fin_nil, fin_seq, fin_seq_exit, fin_seq_ret, fin_seq_panic, fin_block, fin_block_exit, fin_block_ret, fin_block_panic, fin_loop, fin_loop_exit, fin_loop_ret, fin_loop_panic, ops_nil, ops_cons, ops_guard, res_val, res_new, main_nil, main_cons, main_guard, mres_val, mres_new, AOp.ev, AOpd.ev, evAll, evParts, evOpt, put_get, put_none, wantA, ARes.ofOpt, tmOf, List.getD_cons_zero, List.getD_cons_succ, Nat.reduceEqDiff, if_true, if_false, reduceIte, Nat.reduceAdd, Nat.reduceMul, binA, intOp, eqOp, nilOf, lenA_slice, callA, AV.cells, undefA, Option.map_some, Option.map_none, Bool.false_eq_true, reduceCtorEq, beq_false, beq_true, g_true, g_false, mg_true, mg_false, Bool.not_true, Bool.not_false, decide_true, decide_false, not_true_eq_false, not_false_eq_true, List.nil_append, List.cons_append, List.append_nil, Option.isNone_some, Option.isNone_none, List.getElem?_cons_zero, List.getElem?_cons_succ]
    refine res_ret (sorted35_c (keys47_nil (N := N) (AHeap.upd_same h1 cb _)) (by omega) fun l hl => by subst hl; simp) ?_
    rintro r h3 d3 ⟨l, rfl, G⟩
    simp only [wk_skip, wk_region, wk_seq, wk_block, wk_cond, wk_exit, wk_ret, wk_draw, cnd_true, cnd_false, fin_nil, fin_seq, fin_seq_exit, fin_seq_ret, fin_seq_panic, fin_block, fin_block_exit, fin_block_ret, fin_block_panic, fin_loop, fin_loop_exit, fin_loop_ret, fin_loop_panic, ops_nil, ops_cons, ops_guard, res_val, res_new, main_nil, main_cons, main_guard, mres_val, mres_new, AOp.ev, AOpd.ev, evAll, evParts, evOpt, put_get, put_none, wantA, ARes.ofOpt, tmOf, List.getD_cons_zero, List.getD_cons_succ, Nat.reduceEqDiff, if_true, if_false, reduceIte, Nat.reduceAdd, Nat.reduceMul, binA, intOp, eqOp, nilOf, lenA_slice, callA, AV.cells, undefA, Option.map_some, Option.map_none, Bool.false_eq_true, reduceCtorEq, beq_false, beq_true, g_true, g_false, mg_true, mg_false, Bool.not_true, Bool.not_false, decide_true, decide_false, not_true_eq_false, not_false_eq_true, List.nil_append, List.cons_append, List.append_nil, Option.isNone_some, Option.isNone_none, List.getElem?_cons_zero, List.getElem?_cons_succ]
    refine fnEnd_ret2 ⟨r, 15, by simp [TM.put], .inl ⟨hk, rfl, ?_⟩⟩
    have := (G.base m2).base m1
    simpa using this
  · simp only [wk_skip, wk_region, wk_seq, wk_block, wk_cond, wk_exit, wk_ret, wk_draw, cnd_true, cnd_false, fin_nil, fin_seq, fin_seq_exit, fin_seq_ret, fin_seq_panic, fin_block, fin_block_exit, fin_block_ret, fin_block_panic, fin_loop, fin_loop_exit, fin_loop_ret, fin_loop_panic, ops_nil, ops_cons, ops_guard, res_val, res_new, main_nil, main_cons, main_guard, mres_val, mres_new, AOp.ev, AOpd.ev, evAll, evParts, evOpt, put_get, put_none, wantA, ARes.ofOpt, tmOf, List.getD_cons_zero, List.getD_cons_succ, Nat.reduceEqDiff, if_true, if_false, reduceIte, Nat.reduceAdd, Nat.reduceMul, binA, intOp, eqOp, nilOf, lenA_slice, callA, AV.cells, undefA, Option.map_some, Option.map_none, Bool.false_eq_true, reduceCtorEq, beq_false, beq_true, g_true, g_false, mg_true, mg_false, Bool.not_true, Bool.not_false, decide_true, decide_false, not_true_eq_false, not_false_eq_true, List.nil_append, List.cons_append, List.append_nil, Option.isNone_some, Option.isNone_none, List.getElem?_cons_zero, List.getElem?_cons_succ]
    refine res_ret (keys36_made _ rfl) ?_
    rintro r h2 d2 ⟨cb, hcb, rfl, rfl⟩
    have m2 := More.upd hcb (.cells [.map (some M')] false)
    have T := keys47_c (N := N) (AHeap.upd_same h1 cb _) (im.keep (m2 M' im.some_))
    have hkey : (seen.map fun n => (n, AV.bool true)).map (·.1) = seen := by rw [List.map_map]; exact List.map_id seen
    have hnd : seen.Nodup := by have := im.nodup; rw [hkey] at this; exact this
    have hlen : seen.length ≤ 65536 := by
      have h1 := g.len; have h2 := g.tot
      have h3 : (seen.map Int.toNat).length ≤ ((obsOf os).map (·.name)).length := nodup_len (nodup_map hnd fun a b ha hb e => by
        obtain ⟨k, rfl, _⟩ := (hs a).1 ha
        obtain ⟨k', rfl, _⟩ := (hs b).1 hb
        simp at e; omega) fun x hx => by
          obtain ⟨n, hn, rfl⟩ := List.mem_map.1 hx
          obtain ⟨k, rfl, hr⟩ := (hs n).1 hn
          obtain ⟨o, ho, rfl⟩ := hr.mem
          exact List.mem_map.2 ⟨o, ho, by simp⟩
      simp at h3 ⊢; omega
    simp only [wk_skip, wk_region, wk_seq, wk_block, wk_cond, wk_exit, wk_ret, wk_draw, cnd_true, cnd_false, fin_nil, fin_seq, fin_seq_exit, fin_seq_ret, fin_seq_panic, fin_block, fin_block_exit, fin_block_ret, fin_block_panic, fin_loop, fin_loop_exit, fin_loop_ret, fin_loop_panic, ops_nil, ops_cons, ops_guard, res_val, res_new, main_nil, main_cons, main_guard, mres_val, mres_new, AOp.ev, AOpd.ev, evAll, evParts, evOpt, put_get, put_none, wantA, ARes.ofOpt, tmOf, List.getD_cons_zero, List.getD_cons_succ, Nat.reduceEqDiff, if_true, if_false, reduceIte, Nat.reduceAdd, Nat.reduceMul, binA, intOp, eqOp, nilOf, lenA_slice, callA, AV.cells, undefA, Option.map_some, Option.map_none, Bool.false_eq_true, reduceCtorEq, beq_false, beq_true, g_true, g_false, mg_true, mg_false, Bool.not_true, Bool.not_false, decide_true, decide_false, not_true_eq_false, not_false_eq_true, List.nil_append, List.cons_append, List.append_nil, Option.isNone_some, Option.isNone_none, List.getElem?_cons_zero, List.getElem?_cons_succ]
    refine res_ret (sorted35_c T (by simpa using by omega) fun l hl => by have := hl.length_eq; simp at this; simp; omega) ?_
    rintro r h3 d3 ⟨l, hl, G⟩
    rw [hkey] at hl
    rw [sort_perm hl] at G
    simp only [wk_skip, wk_region, wk_seq, wk_block, wk_cond, wk_exit, wk_ret, wk_draw, cnd_true, cnd_false, fin_nil, fin_seq, fin_seq_exit, fin_seq_ret, fin_seq_panic, fin_block, fin_block_exit, fin_block_ret, fin_block_panic, fin_loop, fin_loop_exit, fin_loop_ret, fin_loop_panic, ops_nil, ops_cons, ops_guard, res_val, res_new, main_nil, main_cons, main_guard, mres_val, mres_new, AOp.ev, AOpd.ev, evAll, evParts, evOpt, put_get, put_none, wantA, ARes.ofOpt, tmOf, List.getD_cons_zero, List.getD_cons_succ, Nat.reduceEqDiff, if_true, if_false, reduceIte, Nat.reduceAdd, Nat.reduceMul, binA, intOp, eqOp, nilOf, lenA_slice, callA, AV.cells, undefA, Option.map_some, Option.map_none, Bool.false_eq_true, reduceCtorEq, beq_false, beq_true, g_true, g_false, mg_true, mg_false, Bool.not_true, Bool.not_false, decide_true, decide_false, not_true_eq_false, not_false_eq_true, List.nil_append, List.cons_append, List.append_nil, Option.isNone_some, Option.isNone_none, List.getElem?_cons_zero, List.getElem?_cons_succ]
    exact fnEnd_ret2 ⟨r, 0, by simp [TM.put], .inr ⟨hk, rfl, srt seen, (G.base m2).base m1, srt_strict hnd, by rw [(srt_perm _).length_eq]; exact hlen, fun n => srt_mem.trans (hs n)⟩⟩
end Go.Proofs.Ytnkdjfmidiffdaa
namespace Go.Proofs.Ytnkdjfmidiffdaa
open Go Go.Proofs Go.Am
variable {N : Nat}

theorem store_top {h : AHeap} {b M : Nat} {B used least u : Int} (ht : h b = some (.cells [.map (some M), .int .i64 B, .int .i64 used, .int .i64 least] false)) :
    storeA h 1 (.ptr (some (b, 0 + 2))) (.int .i64 u) = .val undefA (h.upd b (.cells [.map (some M), .int .i64 B, .int .i64 u, .int .i64 least] false)) ∧
    storeA h 1 (.ptr (some (b, 0 + 3))) (.int .i64 u) = .val undefA (h.upd b (.cells [.map (some M), .int .i64 B, .int .i64 used, .int .i64 u] false)) := by
  simp [storeA, ht, AV.cells, AV.oneCell, setL]
theorem HIn.setTop {h : AHeap} {b M : Nat} {B used least : Int} {os : List HO} {ρ : Nat → Nat} (H : HIn h b M B used least os) (O : HOwn h b M os ρ) (u l : Int) :
    HIn (h.upd b (.cells [.map (some M), .int .i64 B, .int .i64 u, .int .i64 l] false)) b M B u l os ∧ HOwn (h.upd b (.cells [.map (some M), .int .i64 B, .int .i64 u, .int .i64 l] false)) b M os ρ ∧
    Off ρ h (h.upd b (.cells [.map (some M), .int .i64 B, .int .i64 u, .int .i64 l] false)) := by
  have keep : ∀ c, ρ c ≠ 1 → (h.upd b (.cells [.map (some M), .int .i64 B, .int .i64 u, .int .i64 l] false)) c = h c := fun c hc => AHeap.upd_other _ _ fun e => hc (by rw [e]; exact O.top)
  refine ⟨⟨AHeap.upd_same _ _ _, H.map.keep (keep M (by have := O.map; omega)), fun o ho => (keep o.blk (by have := O.obj o ho; omega)).trans (H.obj o ho), fun o ho => (H.cells o ho).keep fun c hc => keep c (by have := (O.cel o ho c hc).1; omega),
    fun o ho => (H.refs o ho).keep fun c hc => keep c (by have := O.rfs o ho c hc; omega)⟩, ⟨O.top, O.map, O.obj, fun o ho c hc => ⟨(O.cel o ho c hc).1, by rw [keep c (by have := (O.cel o ho c hc).1; omega)]; exact (O.cel o ho c hc).2⟩, O.rfs, fun c hc => ?_⟩, fun c hc _ => keep c (by omega)⟩
  by_cases e : c = b
  · subst e; rw [AHeap.upd_same]; simp
  · rw [AHeap.upd_other _ _ e]; exact O.dom c hc
/-- The map holds fewer, the others are as they were. -/
theorem HIn.setMap {h : AHeap} {b M : Nat} {B used least : Int} {os os' : List HO} {ρ : Nat → Nat} (H : HIn h b M B used least os) (O : HOwn h b M os ρ) {x : ABlk} (im : IMap (h.upd M x) M (kvOf os')) (hs : ∀ o ∈ os', o ∈ os) :
    HIn (h.upd M x) b M B used least os' ∧ HOwn (h.upd M x) b M os' ρ ∧ Off ρ h (h.upd M x) := by
  have keep : ∀ c, ρ c ≠ 2 → (h.upd M x) c = h c := fun c hc => AHeap.upd_other _ _ fun e => hc (by rw [e]; exact O.map)
  refine ⟨⟨(keep b (by have := O.top; omega)).trans H.top, im, fun o ho => (keep o.blk (by have := O.obj o (hs o ho); omega)).trans (H.obj o (hs o ho)), fun o ho => (H.cells o (hs o ho)).keep fun c hc => keep c (by have := (O.cel o (hs o ho) c hc).1; omega),
    fun o ho => (H.refs o (hs o ho)).keep fun c hc => keep c (by have := O.rfs o (hs o ho) c hc; omega)⟩, ⟨O.top, O.map, fun o ho => O.obj o (hs o ho), fun o ho c hc => ⟨(O.cel o (hs o ho) c hc).1, by rw [keep c (by have := (O.cel o (hs o ho) c hc).1; omega)]; exact (O.cel o (hs o ho) c hc).2⟩, fun o ho => O.rfs o (hs o ho), fun c hc => ?_⟩, fun c hc _ => keep c (by omega)⟩
  by_cases e : c = M
  · subst e; rw [AHeap.upd_same]; simp
  · rw [AHeap.upd_other _ _ e]; exact O.dom c hc

theorem tot_filter {p : Ob → Bool} : ∀ {l : List Ob} {o : Ob}, (l.map (·.name)).Nodup → o ∈ l → (∀ x ∈ l, p x = true ↔ x.name ≠ o.name) → totOb (l.filter p) + sizeOb o = totOb l
  | x :: l, o, hn, ho, hp => by
    simp only [List.map_cons, List.nodup_cons] at hn
    have h1 := hp x (List.mem_cons_self ..)
    by_cases e : x.name = o.name
    · have hx : x = o := by
        rcases List.mem_cons.1 ho with h | h
        · exact h.symm
        · exact absurd (List.mem_map.2 ⟨o, h, e.symm⟩) hn.1
      subst hx
      have hpx : p x = false := by
        cases hh : p x with
        | false => rfl
        | true => exact absurd rfl (h1.1 hh)
      have hall : l.filter p = l := List.filter_eq_self.2 fun y hy => (hp y (List.mem_cons_of_mem _ hy)).2 fun ey => hn.1 (List.mem_map.2 ⟨y, hy, ey⟩)
      rw [List.filter_cons_of_neg (by simp [hpx]), hall]
      simp only [totOb, List.map_cons, List.sum_cons]; omega
    · have ho' : o ∈ l := by
        rcases List.mem_cons.1 ho with h | h
        · exact absurd (by rw [h]) e
        · exact h
      have ih := tot_filter hn.2 ho' fun y hy => hp y (List.mem_cons_of_mem _ hy)
      rw [List.filter_cons_of_pos (h1.2 e)]
      simp only [totOb, List.map_cons, List.sum_cons] at ih ⊢; omega
theorem obs_filter (p : Ob → Bool) (os : List HO) : obsOf (os.filter fun o => p o.ob) = (obsOf os).filter p := by
  induction os with
  | nil => rfl
  | cons x os ih =>
    simp only [obsOf, List.filter_cons, List.map_cons] at ih ⊢
    split <;> simp_all
theorem kv_filter (n : Int) (os : List HO) : kvOf (os.filter fun o => decide ((o.ob.name : Int) ≠ n)) = (kvOf os).filter fun p => decide (p.1 ≠ n) := by
  induction os with
  | nil => rfl
  | cons x os ih =>
    simp only [kvOf, List.filter_cons, List.map_cons] at ih ⊢
    split <;> simp_all

theorem filter_one {α : Type} {f : α → Int} : ∀ {l : List α} {x : α}, (l.map f).Nodup → x ∈ l → (l.filter fun y => decide (f y ≠ f x)).length + 1 = l.length
  | y :: l, x, h, hx => by
    simp only [List.map_cons, List.nodup_cons] at h
    by_cases e : f y = f x
    · have hall : (l.filter fun z => decide (f z ≠ f x)) = l := List.filter_eq_self.2 fun z hz => decide_eq_true fun ez => h.1 (List.mem_map.2 ⟨z, hz, ez.trans e.symm⟩)
      rw [List.filter_cons_of_neg (by simp [e]), hall]; rfl
    · have hx' : x ∈ l := by
        rcases List.mem_cons.1 hx with h | h
        · exact absurd (by rw [h]) e
        · exact h
      have ih := filter_one h.2 hx'
      rw [List.filter_cons_of_pos (by simp [e])]
      simp only [List.length_cons]; omega
/-- What stands while names are gone through. -/
def leftOs (os : List HO) (seen done : List Int) : List HO := os.filter fun o => decide ((o.ob.name : Int) ∈ seen ∨ (o.ob.name : Int) ∉ done)

open Classical in
/-- The objects that are reached. -/
noncomputable def liveOb (l : List Ob) (roots : List Int) : List Ob := l.filter fun o => decide (RchN l roots o.name)
theorem mem_live {l : List Ob} {roots : List Int} {o : Ob} : o ∈ liveOb l roots ↔ o ∈ l ∧ RchN l roots o.name := by simp [liveOb]

theorem HGood.live {B used least : Int} {l : List Ob} (g : HGood B used least l) (roots : List Int) {used' least' : Int} (hu : used' = totOb (liveOb l roots)) (hb : used' ≤ used) (hl : 1 ≤ least' ∧ ∀ n : Nat, 1 ≤ n → (n : Int) < least' → ∃ o ∈ liveOb l roots, o.name = n) : HGood B used' least' (liveOb l roots) := by
  refine ⟨fun o ho => g.same o (mem_live.1 ho).1, g.names.sublist ((List.filter_sublist).map _), fun o ho => g.pos o (mem_live.1 ho).1, fun o ho => g.few o (mem_live.1 ho).1, hu, by have := g.fits; omega, g.budget, hl, fun o ho j c hr hc => ?_⟩
  obtain ⟨h1, h2⟩ := mem_live.1 ho
  rcases g.closed o h1 j c hr hc with h | ⟨o', ho', rfl⟩
  · exact .inl h
  · exact .inr ⟨o', mem_live.2 ⟨ho', .step o o' j h2 h1 ho' hr hc⟩, rfl⟩

theorem collect22_c {h : AHeap} {b : Nat} {B : Int} {l : List Ob} {ρ : Nat → Nat} (R : HRep h b B l ρ) {rv : AV} {roots : List Int} (Hr : Ints h rv roots) (hl : roots.length ≤ 4000000000) :
    ARets Try.prog N 22 [.ptr (some (b, 0)), rv] h fun r h' => ∃ n e : Int, r = .tuple [.int .i64 n, .int .i64 e] ∧ Off ρ h h' ∧
      ((¬ KnownN l roots ∧ n = 0 ∧ e = 15 ∧ HRep h' b B l ρ) ∨ (KnownN l roots ∧ e = 0 ∧ n = (l.length : Int) - (liveOb l roots).length ∧ HRep h' b B (liveOb l roots) ρ)) := by
  obtain ⟨M, used, least, os, rfl, H, g, O⟩ := id R
  refine acalls_of_wp c22_ok mixed (by show 2 ≤ 69; decide) (wk_start ?_)
  unfold c22
  simp only [wk_skip, wk_region, wk_seq, wk_block, wk_cond, wk_exit, wk_ret, wk_draw, cnd_true, cnd_false, fin_nil, fin_seq, fin_seq_exit, fin_seq_ret, fin_seq_panic, fin_block, fin_block_exit, fin_block_ret, fin_block_panic, fin_loop, fin_loop_exit, fin_loop_ret, fin_loop_panic, ops_nil, ops_cons, ops_guard, res_val, res_new, main_nil, main_cons, main_guard, mres_val, mres_new, AOp.ev, AOpd.ev, evAll, evParts, evOpt, put_get, put_none, wantA, ARes.ofOpt, tmOf, List.getD_cons_zero, List.getD_cons_succ, Nat.reduceEqDiff, if_true, if_false, reduceIte, Nat.reduceAdd, Nat.reduceMul, binA, intOp, eqOp, nilOf, lenA_slice, callA, AV.cells, undefA, Option.map_some, Option.map_none, Bool.false_eq_true, reduceCtorEq, beq_false, beq_true, g_true, g_false, mg_true, mg_false, Bool.not_true, Bool.not_false, decide_true, decide_false, not_true_eq_false, not_false_eq_true, List.nil_append, List.cons_append, List.append_nil, Option.isNone_some, Option.isNone_none, List.getElem?_cons_zero, List.getElem?_cons_succ]
  refine res_ret (mark34_c H g Hr hl) ?_
  rintro r h1 d ⟨m1, hr⟩
  rcases hr with ⟨hk, rfl⟩ | ⟨hk, M', seen, rfl, hM', im, hs⟩
  · simp only [wk_skip, wk_region, wk_seq, wk_block, wk_cond, wk_exit, wk_ret, wk_draw, cnd_true, cnd_false, fin_nil, fin_seq, fin_seq_exit, fin_seq_ret, fin_seq_panic, fin_block, fin_block_exit, fin_block_ret, fin_block_panic, fin_loop, fin_loop_exit, fin_loop_ret, fin_loop_panic, ops_nil, ops_cons, ops_guard, res_val, res_new, main_nil, main_cons, main_guard, mres_val, mres_new, AOp.ev, AOpd.ev, evAll, evParts, evOpt, put_get, put_none, wantA, ARes.ofOpt, tmOf, List.getD_cons_zero, List.getD_cons_succ, Nat.reduceEqDiff, if_true, if_false, reduceIte, Nat.reduceAdd, Nat.reduceMul, binA, intOp, eqOp, nilOf, lenA_slice, callA, AV.cells, undefA, Option.map_some, Option.map_none, Bool.false_eq_true, reduceCtorEq, beq_false, beq_true, g_true, g_false, mg_true, mg_false, Bool.not_true, Bool.not_false, decide_true, decide_false, not_true_eq_false, not_false_eq_true, List.nil_append, List.cons_append, List.append_nil, Option.isNone_some, Option.isNone_none, List.getElem?_cons_zero, List.getElem?_cons_succ, Int.reduceEq]
    exact fnEnd_ret2 ⟨0, 15, by simp [TM.put], m1.off ρ, .inl ⟨hk, rfl, rfl, R.keep fun c hc => m1 c (O.dom c hc)⟩⟩
  · have hρM' : ρ M' = 0 := by
      by_cases e : ρ M' = 0
      · exact e
      · exact absurd hM' (O.dom _ e)
    simp only [wk_skip, wk_region, wk_seq, wk_block, wk_cond, wk_exit, wk_ret, wk_draw, cnd_true, cnd_false, fin_nil, fin_seq, fin_seq_exit, fin_seq_ret, fin_seq_panic, fin_block, fin_block_exit, fin_block_ret, fin_block_panic, fin_loop, fin_loop_exit, fin_loop_ret, fin_loop_panic, ops_nil, ops_cons, ops_guard, res_val, res_new, main_nil, main_cons, main_guard, mres_val, mres_new, AOp.ev, AOpd.ev, evAll, evParts, evOpt, put_get, put_none, wantA, ARes.ofOpt, tmOf, List.getD_cons_zero, List.getD_cons_succ, Nat.reduceEqDiff, if_true, if_false, reduceIte, Nat.reduceAdd, Nat.reduceMul, binA, intOp, eqOp, nilOf, lenA_slice, callA, AV.cells, undefA, Option.map_some, Option.map_none, Bool.false_eq_true, reduceCtorEq, beq_false, beq_true, g_true, g_false, mg_true, mg_false, Bool.not_true, Bool.not_false, decide_true, decide_false, not_true_eq_false, not_false_eq_true, List.nil_append, List.cons_append, List.append_nil, Option.isNone_some, Option.isNone_none, List.getElem?_cons_zero, List.getElem?_cons_succ]
    refine res_ret (names37_c (H.more m1) g) ?_
    intro nv h2 d2 G
    have m2 := m1.trans G.more
    have im2 := im.keep (G.more M' im.some_)
    obtain ⟨ns, hns⟩ : ∃ ns, ns = srt (namesOf (obsOf os)) := ⟨_, rfl⟩
    rw [← hns] at G
    have hmem : ∀ n : Int, n ∈ ns ↔ ∃ o ∈ os, (o.ob.name : Int) = n := fun n => by
      rw [hns, srt_mem]
      simp only [namesOf, obsOf, List.mem_map, List.map_map, Function.comp]
    have hnd : ns.Nodup := by rw [hns]; exact (srt_perm _).nodup_iff.2 (names_nodup g.names)
    have hnl : ns.length = os.length := by rw [hns, (srt_perm _).length_eq]; simp [namesOf, obsOf]
    have hosl : os.length ≤ 65536 := by have h1 := g.len; have h2 := g.tot; simp [obsOf] at h1 h2; omega
    have hlen := G.at_.len ns.length (by simp) (by omega)
    have hnv : ∀ c, blkOf nv = some c → ρ c = 0 := fun c hc => by
      by_cases e : ρ c = 0
      · exact e
      · have := (G.own c hc).1
        rw [m1 c (O.dom c e)] at this
        exact absurd this (O.dom c e)
    obtain ⟨H2, O2⟩ := H.keep O (h' := h2) fun c hc => m2 c (O.dom c hc)
    have hndo : (os.map fun o => o.ob.name).Nodup := by have := g.names; rw [obsOf, List.map_map] at this; exact this
    simp only [wk_skip, wk_region, wk_seq, wk_block, wk_cond, wk_exit, wk_ret, wk_draw, cnd_true, cnd_false, fin_nil, fin_seq, fin_seq_exit, fin_seq_ret, fin_seq_panic, fin_block, fin_block_exit, fin_block_ret, fin_block_panic, fin_loop, fin_loop_exit, fin_loop_ret, fin_loop_panic, ops_nil, ops_cons, ops_guard, res_val, res_new, main_nil, main_cons, main_guard, mres_val, mres_new, AOp.ev, AOpd.ev, evAll, evParts, evOpt, put_get, put_none, wantA, ARes.ofOpt, tmOf, List.getD_cons_zero, List.getD_cons_succ, Nat.reduceEqDiff, if_true, if_false, reduceIte, Nat.reduceAdd, Nat.reduceMul, binA, intOp, eqOp, nilOf, lenA_slice, callA, AV.cells, undefA, Option.map_some, Option.map_none, Bool.false_eq_true, reduceCtorEq, beq_false, beq_true, g_true, g_false, mg_true, mg_false, Bool.not_true, Bool.not_false, decide_true, decide_false, not_true_eq_false, not_false_eq_true, List.nil_append, List.cons_append, List.append_nil, Option.isNone_some, Option.isNone_none, List.getElem?_cons_zero, List.getElem?_cons_succ, hlen]
    refine wk_loop (fun k tm ds h' => ds = [] ∧ tm 0 = .ptr (some (b, 0)) ∧ tm 6 = .map (some M') ∧ tm 23 = nv ∧ tm 24 = .int .i64 ns.length ∧ ∃ (i : Nat) (u le : Int), tm 25 = .int .i64 i ∧ i + k = ns.length ∧
      tm 8 = .int .i64 ((os.length : Int) - (leftOs os seen (ns.take i)).length) ∧ HIn h' b M B u le (leftOs os seen (ns.take i)) ∧ HOwn h' b M (leftOs os seen (ns.take i)) ρ ∧ Off ρ h2 h' ∧ u = totOb (obsOf (leftOs os seen (ns.take i))) ∧
      1 ≤ le ∧ ∀ n : Nat, 1 ≤ n → (n : Int) < le → ∃ o ∈ leftOs os seen (ns.take i), o.ob.name = n) ns.length
      ⟨rfl, rfl, rfl, rfl, rfl, 0, used, least, rfl, by simp, ?_, ?_, ?_, .refl _ _, ?_, g.low.1, ?_⟩ ?_
    · have : leftOs os seen (ns.take 0) = os := by simp [leftOs]
      rw [this]; simp [TM.put]
    · have : leftOs os seen (ns.take 0) = os := by simp [leftOs]
      rw [this]; exact H2
    · have : leftOs os seen (ns.take 0) = os := by simp [leftOs]
      rw [this]; exact O2
    · have : leftOs os seen (ns.take 0) = os := by simp [leftOs]
      rw [this]; exact g.used_
    · have : leftOs os seen (ns.take 0) = os := by simp [leftOs]
      rw [this]
      intro n h1 h2
      obtain ⟨o, ho, e⟩ := g.low.2 n h1 h2
      obtain ⟨x, hx, rfl⟩ := of_obs ho
      exact ⟨x, hx, e⟩
    rintro k tm ds h' ⟨rfl, t0, t6, t23, t24, i, u, le, t25, hki, t8, Hi, Oi, off, hu, hle1, hle⟩
    simp only [wk_skip, wk_region, wk_seq, wk_block, wk_cond, wk_exit, wk_ret, wk_draw, cnd_true, cnd_false, fin_nil, fin_seq, fin_seq_exit, fin_seq_ret, fin_seq_panic, fin_block, fin_block_exit, fin_block_ret, fin_block_panic, fin_loop, fin_loop_exit, fin_loop_ret, fin_loop_panic, ops_nil, ops_cons, ops_guard, res_val, res_new, main_nil, main_cons, main_guard, mres_val, mres_new, AOp.ev, AOpd.ev, evAll, evParts, evOpt, put_get, put_none, wantA, ARes.ofOpt, tmOf, List.getD_cons_zero, List.getD_cons_succ, Nat.reduceEqDiff, if_true, if_false, reduceIte, Nat.reduceAdd, Nat.reduceMul, binA, intOp, eqOp, nilOf, lenA_slice, callA, AV.cells, undefA, Option.map_some, Option.map_none, Bool.false_eq_true, reduceCtorEq, beq_false, beq_true, g_true, g_false, mg_true, mg_false, Bool.not_true, Bool.not_false, decide_true, decide_false, not_true_eq_false, not_false_eq_true, List.nil_append, List.cons_append, List.append_nil, Option.isNone_some, Option.isNone_none, List.getElem?_cons_zero, List.getElem?_cons_succ, t24, t25]
    refine cond_dec (fun hi => ?_) (fun hi => ?_)
    · have hi' : i < ns.length := by omega
      have wri : IntKind.i64.wrap ((i : Int) + 1) = ((i + 1 : Nat) : Int) := by rw [wrap64 (by omega) (by omega)]; rfl
      obtain ⟨c, o, g1, _, g2⟩ := (slice_off off G.at_ hnv).get i (by simpa using hi') .i64
      simp only [List.getElem_map] at g2
      have imi := im2.keep (off M' hρM' im2.some_)
      have htk : ns.take (i + 1) = ns.take i ++ [ns[i]] := by rw [List.take_add_one, List.getElem?_eq_getElem hi']; rfl
      obtain ⟨x, hx, hxn⟩ := (hmem ns[i]).1 (List.getElem_mem hi')
      have hxd : ns[i] ∉ ns.take i := fun hm => by
        obtain ⟨j, hj, e⟩ := List.mem_iff_getElem.1 hm
        simp only [List.length_take] at hj
        rw [List.getElem_take] at e
        have := List.pairwise_iff_getElem.1 hnd j i (by omega) hi' (by omega)
        exact this e
      by_cases hsn : ns[i] ∈ seen
      · have hlk := imi.hit (n := ns[i]) (v := .bool true) (List.mem_map.2 ⟨_, hsn, rfl⟩) (.bool false) false
        have hsame : leftOs os seen (ns.take (i + 1)) = leftOs os seen (ns.take i) := by
          unfold leftOs
          refine List.filter_congr fun y hy => decide_eq_decide.2 ?_
          rw [htk]
          simp only [List.mem_append, List.mem_singleton]
          constructor
          · rintro (h | h)
            · exact .inl h
            · exact .inr fun h' => h (.inl h')
          · rintro (h | h)
            · exact .inl h
            · by_cases e : (y.ob.name : Int) = ns[i]
              · exact .inl (e ▸ hsn)
              · exact .inr fun h' => h'.elim h e
        simp only [wk_skip, wk_region, wk_seq, wk_block, wk_cond, wk_exit, wk_ret, wk_draw, cnd_true, cnd_false, fin_nil, fin_seq, fin_seq_exit, fin_seq_ret, fin_seq_panic, fin_block, fin_block_exit, fin_block_ret, fin_block_panic, fin_loop, fin_loop_exit, fin_loop_ret, fin_loop_panic, ops_nil, ops_cons, ops_guard, res_val, res_new, main_nil, main_cons, main_guard, mres_val, mres_new, AOp.ev, AOpd.ev, evAll, evParts, evOpt, put_get, put_none, wantA, ARes.ofOpt, tmOf, List.getD_cons_zero, List.getD_cons_succ, Nat.reduceEqDiff, if_true, if_false, reduceIte, Nat.reduceAdd, Nat.reduceMul, binA, intOp, eqOp, nilOf, lenA_slice, callA, AV.cells, undefA, Option.map_some, Option.map_none, Bool.false_eq_true, reduceCtorEq, beq_false, beq_true, g_true, g_false, mg_true, mg_false, Bool.not_true, Bool.not_false, decide_true, decide_false, not_true_eq_false, not_false_eq_true, List.nil_append, List.cons_append, List.append_nil, Option.isNone_some, Option.isNone_none, List.getElem?_cons_zero, List.getElem?_cons_succ, t6, t23, t25, g1, g2, keyOk_int, hlk, outA, wri]
        exact meet ⟨k - 1, by omega, rfl, by simp [TM.put, t0], by simp [TM.put, t6], by simp [TM.put, t23], by simp [TM.put, t24], i + 1, u, le, by simp [TM.put], by omega, by simp [TM.put, t8, hsame], by rw [hsame]; exact Hi, by rw [hsame]; exact Oi, off, by rw [hsame]; exact hu, hle1, by rw [hsame]; exact hle⟩
      · have hno : ∀ p ∈ (seen.map fun n => (n, AV.bool true)), p.1 ≠ ns[i] := fun p hp => by
          obtain ⟨n, hn, rfl⟩ := List.mem_map.1 hp
          exact fun e => hsn (e ▸ hn)
        have hlk := imi.miss hno (.bool false) false
        have hxl : x ∈ leftOs os seen (ns.take i) := by
          refine List.mem_filter.2 ⟨hx, decide_eq_true (.inr ?_)⟩
          rw [hxn]; exact hxd
        have hlx := Hi.hit hxl (.ptr none) false
        rw [hxn] at hlx
        have hlen1 := (Hi.cells x hxl).len x.ob.cells.length (by simp) (by omega)
        have hxs := g.small (mem_obs hx)
        have htotx : u ≤ 65536 ∧ (sizeOb x.ob : Int) ≤ u := by
          have h1 := tot_mem (mem_obs hxl)
          have h2 : totOb (obsOf (leftOs os seen (ns.take i))) ≤ totOb (obsOf os) := by
            have : ∀ (p : HO → Bool) (l : List HO), totOb (obsOf (l.filter p)) ≤ totOb (obsOf l) := fun p l => by
              induction l with
              | nil => exact Nat.le_refl 0
              | cons y l ih =>
                simp only [obsOf, totOb, List.filter_cons, List.map_cons, List.sum_cons] at ih ⊢
                split
                · simp only [List.map_cons, List.sum_cons]; omega
                · omega
            exact this _ os
          have h3 := g.tot
          rw [hu]; omega
        have hsz : sizeOb x.ob = 1 + x.ob.cells.length := rfl
        have wrn : IntKind.i64.wrap (1 + (x.ob.cells.length : Int)) = ((1 + x.ob.cells.length : Nat) : Int) := by rw [wrap64 (by omega) (by omega)]; omega
        have wru : IntKind.i64.wrap (u - ((1 + x.ob.cells.length : Nat) : Int)) = u - ((1 + x.ob.cells.length : Nat) : Int) := wrap64 (by omega) (by omega)
        obtain ⟨H3, O3, f3⟩ := Hi.setTop Oi (u - ((1 + x.ob.cells.length : Nat) : Int)) le
        obtain ⟨mx, e4, im4⟩ := H3.map.del (n := ns[i]) (v := .ptr (some (x.blk, 0))) (List.mem_map.2 ⟨x, hxl, by rw [hxn]⟩)
        have hstep : leftOs os seen (ns.take (i + 1)) = (leftOs os seen (ns.take i)).filter fun o => decide ((o.ob.name : Int) ≠ ns[i]) := by
          unfold leftOs
          rw [List.filter_filter]
          refine List.filter_congr fun y hy => ?_
          rw [← Bool.decide_and]
          refine decide_eq_decide.2 ?_
          rw [htk]
          simp only [List.mem_append, List.mem_singleton]
          constructor
          · rintro (h | h)
            · exact ⟨fun e => hsn (e ▸ h), .inl h⟩
            · exact ⟨fun e => h (.inr e), .inr fun e => h (.inl e)⟩
          · rintro ⟨h1, h | h⟩
            · exact .inl h
            · exact .inr fun e => e.elim h h1
        rw [← kv_filter, ← hstep] at im4
        obtain ⟨H4, O4, f4⟩ := H3.setMap O3 im4 (fun o ho => by rw [hstep] at ho; exact (List.mem_filter.1 ho).1)
        obtain ⟨H5, O5, f5⟩ := H4.setTop O4 (u - ((1 + x.ob.cells.length : Nat) : Int)) (if ns[i] < le then ns[i] else le)
        have hcount : ((leftOs os seen (ns.take (i + 1))).length : Int) + 1 = (leftOs os seen (ns.take i)).length := by
          have := filter_one (f := fun o : HO => (o.ob.name : Int)) (l := leftOs os seen (ns.take i)) (nodup_map (nodup_of_map (f := fun o : HO => o.ob.name) (hndo.sublist ((List.filter_sublist).map _))) fun a b ha hb e => nodup_inj hndo (List.mem_filter.1 ha).1 (List.mem_filter.1 hb).1 (by omega)) hxl
          rw [hstep]
          simp only [hxn] at this
          omega
        have hsub : (leftOs os seen (ns.take i)).length ≤ os.length := (List.filter_sublist).length_le
        have wrg : IntKind.i64.wrap ((os.length : Int) - (leftOs os seen (ns.take i)).length + 1) = (os.length : Int) - (leftOs os seen (ns.take (i + 1))).length := by rw [wrap64 (by omega) (by omega)]; omega
        simp only [wk_skip, wk_region, wk_seq, wk_block, wk_cond, wk_exit, wk_ret, wk_draw, cnd_true, cnd_false, fin_nil, fin_seq, fin_seq_exit, fin_seq_ret, fin_seq_panic, fin_block, fin_block_exit, fin_block_ret, fin_block_panic, fin_loop, fin_loop_exit, fin_loop_ret, fin_loop_panic, ops_nil, ops_cons, ops_guard, res_val, res_new, main_nil, main_cons, main_guard, mres_val, mres_new, AOp.ev, AOpd.ev, evAll, evParts, evOpt, put_get, put_none, wantA, ARes.ofOpt, tmOf, List.getD_cons_zero, List.getD_cons_succ, Nat.reduceEqDiff, if_true, if_false, reduceIte, Nat.reduceAdd, Nat.reduceMul, binA, intOp, eqOp, nilOf, lenA_slice, callA, AV.cells, undefA, Option.map_some, Option.map_none, Bool.false_eq_true, reduceCtorEq, beq_false, beq_true, g_true, g_false, mg_true, mg_false, Bool.not_true, Bool.not_false, decide_true, decide_false, not_true_eq_false, not_false_eq_true, List.nil_append, List.cons_append, List.append_nil, Option.isNone_some, Option.isNone_none, List.getElem?_cons_zero, List.getElem?_cons_succ, t0, t6, t23, t25, g1, g2, keyOk_int, hlk, outA, wri, nilCheck_ptr, Hi.ld.1, Hi.ld.2.2.1, hlx, (Hi.ob hxl).1, hlen1, wrn, wru, (store_top Hi.top).1, H3.ld.1, e4, H4.ld.2.2.2, (store_top H4.top).2, t8, wrg]
        have hne : ∀ o ∈ leftOs os seen (ns.take (i + 1)), o ∈ leftOs os seen (ns.take i) ∧ (o.ob.name : Int) ≠ ns[i] := fun o ho => by
          rw [hstep] at ho
          obtain ⟨h1, h2⟩ := List.mem_filter.1 ho
          exact ⟨h1, of_decide_eq_true h2⟩
        refine meet ⟨k - 1, by omega, rfl, by simp [TM.put, t0], by simp [TM.put, t6], by simp [TM.put, t23], by simp [TM.put, t24], i + 1, _, _, by simp [TM.put], by omega, by simp [TM.put], H5, O5, ((off.trans f3 (.refl _ _)).trans f4 (.refl _ _)).trans f5 (.refl _ _), ?_, ?_, ?_⟩
        · have hf := tot_filter (p := fun y => decide ((y.name : Int) ≠ ns[i])) (l := obsOf (leftOs os seen (ns.take i))) (o := x.ob) (by rw [obsOf, List.map_map]; exact hndo.sublist ((List.filter_sublist).map _)) (mem_obs hxl) (fun y hy => by simp only [decide_eq_true_eq]; omega)
          rw [hstep, obs_filter (fun y => decide ((y.name : Int) ≠ ns[i]))]
          omega
        · have := g.pos _ (mem_obs hx)
          split <;> omega
        · intro n h1 h2
          have hn2 : (n : Int) < le ∧ (n : Int) < ns[i] := by split at h2 <;> omega
          obtain ⟨o, ho, e⟩ := hle n h1 hn2.1
          refine ⟨o, ?_, e⟩
          rw [hstep]
          exact List.mem_filter.2 ⟨ho, decide_eq_true (by omega)⟩
    · have hall : ns.take i = ns := List.take_of_length_le (by omega)
      rw [hall] at Hi Oi hu hle t8
      have hobs : obsOf (leftOs os seen ns) = liveOb (obsOf os) roots := by
        unfold leftOs liveOb
        rw [← obs_filter]
        congr 1
        refine List.filter_congr fun o ho => decide_eq_decide.2 ?_
        constructor
        · rintro (h | h)
          · obtain ⟨m, e, hr⟩ := (hs _).1 h
            have : m = o.ob.name := by omega
            exact this ▸ hr
          · exact absurd ((hmem _).2 ⟨o, ho, rfl⟩) h
        · intro h
          exact .inl ((hs _).2 ⟨_, rfl, h⟩)
      have hlenl : (leftOs os seen ns).length = (liveOb (obsOf os) roots).length := by rw [← hobs]; simp [obsOf]
      rw [hobs] at hu
      have hub : u ≤ used := by
        have : totOb (liveOb (obsOf os) roots) ≤ totOb (obsOf os) := by
          have gen : ∀ (p : Ob → Bool) (l : List Ob), totOb (l.filter p) ≤ totOb l := fun p l => by
            induction l with
            | nil => exact Nat.le_refl 0
            | cons y l ih =>
              simp only [totOb, List.filter_cons, List.map_cons, List.sum_cons] at ih ⊢
              split
              · simp only [List.map_cons, List.sum_cons]; omega
              · omega
          exact gen _ _
        rw [hu, g.used_]; omega
      simp only [wk_skip, wk_region, wk_seq, wk_block, wk_cond, wk_exit, wk_ret, wk_draw, cnd_true, cnd_false, fin_nil, fin_seq, fin_seq_exit, fin_seq_ret, fin_seq_panic, fin_block, fin_block_exit, fin_block_ret, fin_block_panic, fin_loop, fin_loop_exit, fin_loop_ret, fin_loop_panic, ops_nil, ops_cons, ops_guard, res_val, res_new, main_nil, main_cons, main_guard, mres_val, mres_new, AOp.ev, AOpd.ev, evAll, evParts, evOpt, put_get, put_none, wantA, ARes.ofOpt, tmOf, List.getD_cons_zero, List.getD_cons_succ, Nat.reduceEqDiff, if_true, if_false, reduceIte, Nat.reduceAdd, Nat.reduceMul, binA, intOp, eqOp, nilOf, lenA_slice, callA, AV.cells, undefA, Option.map_some, Option.map_none, Bool.false_eq_true, reduceCtorEq, beq_false, beq_true, g_true, g_false, mg_true, mg_false, Bool.not_true, Bool.not_false, decide_true, decide_false, not_true_eq_false, not_false_eq_true, List.nil_append, List.cons_append, List.append_nil, Option.isNone_some, Option.isNone_none, List.getElem?_cons_zero, List.getElem?_cons_succ, t8]
      refine fnEnd_ret2 ⟨(os.length : Int) - (leftOs os seen ns).length, 0, by simp [TM.put], ((m1.trans G.more).off ρ).trans off (.refl _ _), .inr ⟨hk, rfl, ?_, M, u, le, _, hobs, Hi, g.live roots hu hub ⟨hle1, fun n h1 h2 => ?_⟩, Oi⟩⟩
      · rw [hlenl]; simp [obsOf]
      · obtain ⟨o, ho, e⟩ := hle n h1 h2
        exact ⟨o.ob, by rw [← hobs]; exact mem_obs ho, e⟩
end Go.Proofs.Ytnkdjfmidiffdaa
namespace Go.Proofs.Ytnkdjfmidiffdaa
open Go Go.Proofs Go.Am
variable {N : Nat}

def LeastFree (l : List Ob) (m : Nat) : Prop := 1 ≤ m ∧ (∀ o ∈ l, o.name ≠ m) ∧ ∀ n : Nat, 1 ≤ n → n < m → ∃ o ∈ l, o.name = n
def RoomN (l : List Ob) (B : Int) (n : Nat) (roots : List Int) (l1 : List Ob) : Prop := ((totOb l : Int) + 1 + n ≤ B ∧ l1 = l) ∨ (B < (totOb l : Int) + 1 + n ∧ l1 = liveOb l roots)
def AllocSaid (l : List Ob) (B : Int) (refs : List Bool) (roots : List Int) (n e : Int) (l' : List Ob) : Prop :=
  (262146 < refs.length ∧ n = 0 ∧ e = 2 ∧ l' = l) ∨ (refs.length ≤ 262146 ∧ ¬ KnownN l roots ∧ n = 0 ∧ e = 15 ∧ l' = l) ∨
  (refs.length ≤ 262146 ∧ KnownN l roots ∧ ∃ l1, RoomN l B refs.length roots l1 ∧
    ((B < (totOb l1 : Int) + 1 + refs.length ∧ n = 0 ∧ e = 20 ∧ l' = l1) ∨
     ((totOb l1 : Int) + 1 + refs.length ≤ B ∧ e = 0 ∧ ∃ m : Nat, n = m ∧ LeastFree l1 m ∧ l' = l1 ++ [⟨m, List.replicate refs.length 0, refs⟩])))

theorem low_len {l : List Ob} {le : Int} (h : ∀ n : Nat, 1 ≤ n → (n : Int) < le → ∃ o ∈ l, o.name = n) : le ≤ l.length + 1 := by
  by_cases e : le ≤ 1
  · omega
  obtain ⟨k, rfl⟩ : ∃ k : Nat, le = k + 1 := ⟨(le - 1).toNat, by omega⟩
  have := nodup_len (l := List.range' 1 k) (m := l.map (·.name)) List.nodup_range' fun x hx => by
    rw [List.mem_range'_1] at hx
    obtain ⟨o, ho, e⟩ := h x (by omega) (by omega)
    exact List.mem_map.2 ⟨o, ho, e⟩
  simp at this
  omega

theorem HRep.ins {h h2 : AHeap} {b M : Nat} {B used least : Int} {os : List HO} {ρ : Nat → Nat} (H : HIn h b M B used least os) (g : HGood B used least (obsOf os)) (O : HOwn h b M os ρ) (m2 : More h h2) {m n : Nat} {refs : List Bool} (hm : least = m) (hlf : LeastFree (obsOf os) m) (hn : n = refs.length)
    (hfit : used + 1 + n ≤ B) {ab cb : Nat} {rv : AV} (hab : h ab = none) (hcb : h cb = none) (hne : ab ≠ cb) (ha2 : h2 ab = some (.cells [.slice (some (cb, 0)) 1 n n true, rv] false)) (hc2 : h2 cb = some (.cells (List.replicate n (.int .u64 0)) false))
    (hrv : SliceAt h2 1 rv (refs.map .bool)) (orv : ∀ c, blkOf rv = some c → h c = none ∧ c ≠ ab ∧ c ≠ cb) :
    ∃ x, updateA h2 .int (.map (some M)) (.int .i64 (m : Int)) (.ptr (some (ab, 0))) = .val undefA (h2.upd M x) ∧
      loadA (h2.upd M x) none (.ptr (some (b, 0 + 2))) = .val (.int .i64 used) (h2.upd M x) ∧ storeA (h2.upd M x) 1 (.ptr (some (b, 0 + 2))) (.int .i64 (used + 1 + n)) = .val undefA ((h2.upd M x).upd b (.cells [.map (some M), .int .i64 B, .int .i64 (used + 1 + n), .int .i64 least] false)) ∧
      loadA ((h2.upd M x).upd b (.cells [.map (some M), .int .i64 B, .int .i64 (used + 1 + n), .int .i64 least] false)) none (.ptr (some (b, 0 + 3))) = .val (.int .i64 least) ((h2.upd M x).upd b (.cells [.map (some M), .int .i64 B, .int .i64 (used + 1 + n), .int .i64 least] false)) ∧
      ∃ ρ', HRep ((h2.upd M x).upd b (.cells [.map (some M), .int .i64 B, .int .i64 (used + 1 + n), .int .i64 least] false)) b B (obsOf os ++ [⟨m, List.replicate n 0, refs⟩]) ρ' ∧
        Off ρ h ((h2.upd M x).upd b (.cells [.map (some M), .int .i64 B, .int .i64 (used + 1 + n), .int .i64 least] false)) ∧ Mine ρ ρ' h := by
  have H2 := H.more m2
  have hnk : ∀ p ∈ kvOf os, p.1 ≠ (m : Int) := fun p hp => by
    obtain ⟨o, ho, rfl⟩ := List.mem_map.1 hp
    have := hlf.2.1 _ (mem_obs ho)
    simp only []; omega
  obtain ⟨x, e1, im⟩ := H2.map.put hnk (.ptr (some (ab, 0)))
  have hMb : M ≠ b := fun e => by have h1 := O.map; have h2 := O.top; rw [e] at h1; omega
  have topx : (h2.upd M x) b = some (.cells [.map (some M), .int .i64 B, .int .i64 used, .int .i64 least] false) := by rw [AHeap.upd_other _ _ fun e => hMb e.symm]; exact H2.top
  refine ⟨x, e1, ?_⟩
  generalize hfin : (h2.upd M x).upd b (.cells [.map (some M), .int .i64 B, .int .i64 (used + 1 + n), .int .i64 least] false) = h3
  have nz : ∀ c, h c = none → ρ c = 0 := fun c hc => by
    by_cases e : ρ c = 0
    · exact e
    · exact absurd hc (O.dom c e)
  have keep : ∀ c, c ≠ M → c ≠ b → h3 c = h2 c := fun c h1 h2 => by rw [← hfin, AHeap.upd_other _ _ h2, AHeap.upd_other _ _ h1]
  have nM : ∀ c, h c = none → c ≠ M := fun c hc e => H.map.some_ (e ▸ hc)
  have nb : ∀ c, h c = none → c ≠ b := fun c hc e => by have := H.top; rw [← e, hc] at this; cases this
  have old : ∀ c, ρ c ≠ 0 → ρ c ≠ 1 → ρ c ≠ 2 → h3 c = h c := fun c h0 h1 h2 => (keep c (fun e => h2 (by rw [e]; exact O.map)) (fun e => h1 (by rw [e]; exact O.top))).trans (m2 c (O.dom c h0))
  let ρ' : Nat → Nat := fun c => if c = ab then 3 + 3 * m else if c = cb then 4 + 3 * m else if blkOf rv = some c then 5 + 3 * m else ρ c
  have ρold : ∀ c, ρ c ≠ 0 → ρ' c = ρ c := fun c h0 => by
    have hd := O.dom c h0
    show (if c = ab then _ else _) = _
    exact (if_neg (fun e : c = ab => hd (by rw [e]; exact hab))).trans ((if_neg (fun e : c = cb => hd (by rw [e]; exact hcb))).trans (if_neg fun e => hd (orv c e).1))
  have hrepl : (List.replicate n 0).map (fun k : Nat => AV.int .u64 (k : Int)) = List.replicate n (.int .u64 0) := by rw [List.map_replicate]; rfl
  have hsz : sizeOb ⟨m, List.replicate n 0, refs⟩ = 1 + n := by simp [sizeOb]
  have htot : totOb (obsOf os ++ [⟨m, List.replicate n 0, refs⟩]) = totOb (obsOf os) + (1 + n) := by simp [totOb, hsz]
  refine ⟨by simp [loadA, topx], by rw [← hfin]; exact (store_top topx).1, by rw [← hfin]; simp [loadA, AHeap.upd_same], ρ', ⟨M, used + 1 + n, least, os ++ [⟨⟨m, List.replicate n 0, refs⟩, ab, .slice (some (cb, 0)) 1 n n true, rv⟩], by simp [obsOf],
    ⟨by rw [← hfin]; exact AHeap.upd_same _ _ _, ?_, fun o ho => ?_, fun o ho => ?_, fun o ho => ?_⟩, ⟨fun o ho => ?_, ?_, fun o ho => ?_, fun o ho => ?_, ?_, by have := g.budget; omega, g.budget, ⟨g.low.1, fun k h1 h2 => ?_⟩, fun o ho j c hr hc => ?_⟩,
    ⟨by rw [ρold b (by rw [O.top]; omega)]; exact O.top, by rw [ρold M (by rw [O.map]; omega)]; exact O.map, fun o ho => ?_, fun o ho c hc => ?_, fun o ho c hc => ?_, fun c hc => ?_⟩⟩, fun c h0 hc => ?_, fun c hc => ?_⟩
  · have : kvOf (os ++ [⟨⟨m, List.replicate n 0, refs⟩, ab, .slice (some (cb, 0)) 1 n n true, rv⟩]) = kvOf os ++ [((m : Int), .ptr (some (ab, 0)))] := by simp [kvOf]
    rw [this]
    refine im.keep ?_
    rw [← hfin]; exact AHeap.upd_other _ _ hMb
  · rcases List.mem_append.1 ho with ho | ho
    · have := O.obj o ho
      rw [old o.blk (by omega) (by omega) (by omega)]; exact H.obj o ho
    · simp at ho; subst ho
      exact (keep ab (nM ab hab) (nb ab hab)).trans ha2
  · rcases List.mem_append.1 ho with ho | ho
    · exact (H.cells o ho).keep fun c hc => by have := (O.cel o ho c hc).1; exact old c (by omega) (by omega) (by omega)
    · simp at ho; subst ho
      simp only [hrepl]
      exact slice_at ((keep cb (nM cb hcb) (nb cb hcb)).trans hc2) (by simp)
  · rcases List.mem_append.1 ho with ho | ho
    · exact (H.refs o ho).keep fun c hc => by have := O.rfs o ho c hc; exact old c (by omega) (by omega) (by omega)
    · simp at ho; subst ho
      exact hrv.keep fun c hc => keep c (nM c (orv c hc).1) (nb c (orv c hc).1)
  · rcases List.mem_append.1 ho with ho | ho
    · exact g.same o ho
    · simp at ho; subst ho; simp [hn]
  · rw [List.map_append, List.nodup_append]
    refine ⟨g.names, by simp, fun a ha c hc => ?_⟩
    obtain ⟨o, ho, rfl⟩ := List.mem_map.1 ha
    simp at hc; subst hc
    exact hlf.2.1 o ho
  · rcases List.mem_append.1 ho with ho | ho
    · exact g.pos o ho
    · simp at ho; subst ho; exact hlf.1
  · rcases List.mem_append.1 ho with ho | ho
    · exact g.few o ho
    · simp at ho; subst ho
      have h1 := low_len g.low.2
      have h2 := g.len
      have h3 := g.used_
      have h4 := g.budget
      simp only []; omega
  · rw [htot]; have := g.used_; omega
  · obtain ⟨o, ho, e⟩ := g.low.2 k h1 h2
    exact ⟨o, List.mem_append.2 (.inl ho), e⟩
  · rcases List.mem_append.1 ho with ho | ho
    · rcases g.closed o ho j c hr hc with h | ⟨o', ho', e⟩
      · exact .inl h
      · exact .inr ⟨o', List.mem_append.2 (.inl ho'), e⟩
    · simp at ho; subst ho
      simp only [List.getElem?_replicate] at hc
      split at hc
      · cases hc; exact .inl rfl
      · cases hc
  · rcases List.mem_append.1 ho with ho | ho
    · have := O.obj o ho
      rw [ρold _ (by omega)]; exact this
    · simp at ho; subst ho
      exact if_pos rfl
  · rcases List.mem_append.1 ho with ho | ho
    · have h1 := (O.cel o ho c hc).1
      refine ⟨by rw [ρold _ (by omega)]; exact h1, ?_⟩
      rw [old c (by omega) (by omega) (by omega)]; exact (O.cel o ho c hc).2
    · simp at ho; subst ho
      cases hc
      refine ⟨?_, _, (keep cb (nM cb hcb) (nb cb hcb)).trans hc2⟩
      show (if cb = ab then _ else _) = _
      rw [if_neg fun e => hne e.symm, if_pos rfl]
  · rcases List.mem_append.1 ho with ho | ho
    · have h1 := O.rfs o ho c hc
      rw [ρold _ (by omega)]; exact h1
    · simp at ho; subst ho
      obtain ⟨q1, q2, q3⟩ := orv c hc
      show (if c = ab then _ else _) = _
      rw [if_neg q2, if_neg q3, if_pos hc]
  · by_cases q1 : c = b
    · subst q1; rw [← hfin, AHeap.upd_same]; simp
    · by_cases e2 : c = M
      · rw [e2, ← hfin, AHeap.upd_other _ _ hMb, AHeap.upd_same]; simp
      · rw [keep c e2 q1]
        by_cases e3 : c = ab
        · subst e3; rw [ha2]; simp
        · by_cases e4 : c = cb
          · subst e4; rw [hc2]; simp
          · by_cases e5 : blkOf rv = some c
            · exact hrv.dom e5
            · have : ρ' c = ρ c := by
                show (if c = ab then _ else _) = _
                rw [if_neg e3, if_neg e4, if_neg e5]
              rw [this] at hc
              rw [m2 c (O.dom c hc)]; exact O.dom c hc
  · have h1 : c ≠ b := fun e => by rw [e, O.top] at h0; omega
    have h2 : c ≠ M := fun e => by rw [e, O.map] at h0; omega
    rw [keep c h2 h1]; exact m2 c hc
  · by_cases e3 : c = ab
    · subst e3; exact .inr hab
    · by_cases e4 : c = cb
      · subst e4; exact .inr hcb
      · by_cases e5 : blkOf rv = some c
        · exact .inr (orv c e5).1
        · have : ρ' c = ρ c := by
            show (if c = ab then _ else _) = _
            rw [if_neg e3, if_neg e4, if_neg e5]
          rw [this] at hc
          exact .inl hc

theorem alloc12_c {h : AHeap} {b : Nat} {B : Int} {l : List Ob} {ρ : Nat → Nat} (R : HRep h b B l ρ) {fv rv : AV} {refs : List Bool} {roots : List Int} (Hf : SliceAt h 1 fv (refs.map .bool)) (Hr : Ints h rv roots) (hl : roots.length ≤ 4000000000) (hf : refs.length ≤ 4000000000)
    (of : ∀ c, blkOf fv = some c → ρ c = 0) :
    ARets Try.prog N 12 [.ptr (some (b, 0)), fv, rv] h fun r h' => ∃ (n e : Int) (l' : List Ob) (ρ' : Nat → Nat), r = .tuple [.int .i64 n, .int .i64 e] ∧ AllocSaid l B refs roots n e l' ∧ HRep h' b B l' ρ' ∧ Off ρ h h' ∧ Mine ρ ρ' h := by
  obtain ⟨M, used, least, os, rfl, H, g, O⟩ := id R
  refine acalls_of_wp c12_ok mixed (by show 3 ≤ 114; decide) (wk_start ?_)
  unfold c12
  have hfl := Hf.len refs.length (by simp) (by omega)
  have hrl := Hr.len roots.length (by simp) (by omega)
  simp only [wk_skip, wk_region, wk_seq, wk_block, wk_cond, wk_exit, wk_ret, wk_draw, cnd_true, cnd_false, fin_nil, fin_seq, fin_seq_exit, fin_seq_ret, fin_seq_panic, fin_block, fin_block_exit, fin_block_ret, fin_block_panic, fin_loop, fin_loop_exit, fin_loop_ret, fin_loop_panic, ops_nil, ops_cons, ops_guard, res_val, res_new, main_nil, main_cons, main_guard, mres_val, mres_new, AOp.ev, AOpd.ev, evAll, evParts, evOpt, put_get, put_none, wantA, ARes.ofOpt, tmOf, List.getD_cons_zero, List.getD_cons_succ, Nat.reduceEqDiff, if_true, if_false, reduceIte, Nat.reduceAdd, Nat.reduceMul, binA, intOp, eqOp, nilOf, lenA_slice, callA, AV.cells, undefA, Option.map_some, Option.map_none, Bool.false_eq_true, reduceCtorEq, beq_false, beq_true, g_true, g_false, mg_true, mg_false, Bool.not_true, Bool.not_false, decide_true, decide_false, not_true_eq_false, not_false_eq_true, List.nil_append, List.cons_append, List.append_nil, Option.isNone_some, Option.isNone_none, List.getElem?_cons_zero, List.getElem?_cons_succ, hfl]
  refine cond_dec (fun h1 => ?_) (fun h1 => ?_)
  · simp only [wk_skip, wk_region, wk_seq, wk_block, wk_cond, wk_exit, wk_ret, wk_draw, cnd_true, cnd_false, fin_nil, fin_seq, fin_seq_exit, fin_seq_ret, fin_seq_panic, fin_block, fin_block_exit, fin_block_ret, fin_block_panic, fin_loop, fin_loop_exit, fin_loop_ret, fin_loop_panic, ops_nil, ops_cons, ops_guard, res_val, res_new, main_nil, main_cons, main_guard, mres_val, mres_new, AOp.ev, AOpd.ev, evAll, evParts, evOpt, put_get, put_none, wantA, ARes.ofOpt, tmOf, List.getD_cons_zero, List.getD_cons_succ, Nat.reduceEqDiff, if_true, if_false, reduceIte, Nat.reduceAdd, Nat.reduceMul, binA, intOp, eqOp, nilOf, lenA_slice, callA, AV.cells, undefA, Option.map_some, Option.map_none, Bool.false_eq_true, reduceCtorEq, beq_false, beq_true, g_true, g_false, mg_true, mg_false, Bool.not_true, Bool.not_false, decide_true, decide_false, not_true_eq_false, not_false_eq_true, List.nil_append, List.cons_append, List.append_nil, Option.isNone_some, Option.isNone_none, List.getElem?_cons_zero, List.getElem?_cons_succ]
    exact fnEnd_ret2 ⟨0, 2, _, ρ, by simp [TM.put], .inl ⟨by omega, rfl, rfl, rfl⟩, R, .refl _ _, .refl _ _⟩
  have hn : refs.length ≤ 262146 := by omega
  simp only [wk_skip, wk_region, wk_seq, wk_block, wk_cond, wk_exit, wk_ret, wk_draw, cnd_true, cnd_false, fin_nil, fin_seq, fin_seq_exit, fin_seq_ret, fin_seq_panic, fin_block, fin_block_exit, fin_block_ret, fin_block_panic, fin_loop, fin_loop_exit, fin_loop_ret, fin_loop_panic, ops_nil, ops_cons, ops_guard, res_val, res_new, main_nil, main_cons, main_guard, mres_val, mres_new, AOp.ev, AOpd.ev, evAll, evParts, evOpt, put_get, put_none, wantA, ARes.ofOpt, tmOf, List.getD_cons_zero, List.getD_cons_succ, Nat.reduceEqDiff, if_true, if_false, reduceIte, Nat.reduceAdd, Nat.reduceMul, binA, intOp, eqOp, nilOf, lenA_slice, callA, AV.cells, undefA, Option.map_some, Option.map_none, Bool.false_eq_true, reduceCtorEq, beq_false, beq_true, g_true, g_false, mg_true, mg_false, Bool.not_true, Bool.not_false, decide_true, decide_false, not_true_eq_false, not_false_eq_true, List.nil_append, List.cons_append, List.append_nil, Option.isNone_some, Option.isNone_none, List.getElem?_cons_zero, List.getElem?_cons_succ, hrl]
  refine wk_cutb (fun tm ds h' => ds = [] ∧ h' = h ∧ tm 0 = .ptr (some (b, 0)) ∧ tm 1 = fv ∧ tm 2 = rv ∧ KnownN (obsOf os) roots) ?_ ?_
  · refine wk_loop (fun k tm ds h' => ds = [] ∧ h' = h ∧ tm 0 = .ptr (some (b, 0)) ∧ tm 1 = fv ∧ tm 2 = rv ∧ tm 20 = rv ∧ tm 21 = .int .i64 roots.length ∧ ∃ i : Nat, tm 22 = .int .i64 i ∧ i + k = roots.length ∧ KnownN (obsOf os) (roots.take i)) roots.length
      ⟨rfl, rfl, rfl, rfl, rfl, rfl, rfl, 0, rfl, by simp, fun r hr => by simp at hr⟩ ?_
    rintro k tm ds h' ⟨rfl, rfl, t0, t1, t2, t20, t21, i, t22, hk, hkn⟩
    simp only [wk_skip, wk_region, wk_seq, wk_block, wk_cond, wk_exit, wk_ret, wk_draw, cnd_true, cnd_false, fin_nil, fin_seq, fin_seq_exit, fin_seq_ret, fin_seq_panic, fin_block, fin_block_exit, fin_block_ret, fin_block_panic, fin_loop, fin_loop_exit, fin_loop_ret, fin_loop_panic, ops_nil, ops_cons, ops_guard, res_val, res_new, main_nil, main_cons, main_guard, mres_val, mres_new, AOp.ev, AOpd.ev, evAll, evParts, evOpt, put_get, put_none, wantA, ARes.ofOpt, tmOf, List.getD_cons_zero, List.getD_cons_succ, Nat.reduceEqDiff, if_true, if_false, reduceIte, Nat.reduceAdd, Nat.reduceMul, binA, intOp, eqOp, nilOf, lenA_slice, callA, AV.cells, undefA, Option.map_some, Option.map_none, Bool.false_eq_true, reduceCtorEq, beq_false, beq_true, g_true, g_false, mg_true, mg_false, Bool.not_true, Bool.not_false, decide_true, decide_false, not_true_eq_false, not_false_eq_true, List.nil_append, List.cons_append, List.append_nil, Option.isNone_some, Option.isNone_none, List.getElem?_cons_zero, List.getElem?_cons_succ, t21, t22]
    refine cond_dec (fun hi => ?_) (fun hi => ?_)
    · have hi' : i < roots.length := by omega
      have wri : IntKind.i64.wrap ((i : Int) + 1) = ((i + 1 : Nat) : Int) := by rw [wrap64 (by omega) (by omega)]; rfl
      obtain ⟨c, o, g1, _, g2⟩ := Hr.get i (by simpa using hi') .i64
      simp only [List.getElem_map] at g2
      have next : ∀ tm' : TM, tm' 0 = .ptr (some (b, 0)) → tm' 1 = fv → tm' 2 = rv → tm' 20 = rv → tm' 21 = .int .i64 roots.length → tm' 22 = .int .i64 ((i + 1 : Nat) : Int) → (roots[i] = 0 ∨ ∃ o ∈ obsOf os, (o.name : Int) = roots[i]) →
          ∃ k', k' < k ∧ ([] : List ADef) = [] ∧ h' = h' ∧ tm' 0 = .ptr (some (b, 0)) ∧ tm' 1 = fv ∧ tm' 2 = rv ∧ tm' 20 = rv ∧ tm' 21 = .int .i64 roots.length ∧ ∃ i : Nat, tm' 22 = .int .i64 i ∧ i + k' = roots.length ∧ KnownN (obsOf os) (roots.take i) := fun tm' u0 u1 u2 u20 u21 u22 hr => by
        refine ⟨k - 1, by omega, rfl, rfl, u0, u1, u2, u20, u21, i + 1, u22, by omega, fun r hr' => ?_⟩
        rw [List.take_add_one, List.mem_append] at hr'
        rcases hr' with h | h
        · exact hkn r h
        · simp [hi'] at h; subst h; exact hr
      have bad : ¬ (roots[i] = 0 ∨ ∃ o ∈ obsOf os, (o.name : Int) = roots[i]) → ¬ KnownN (obsOf os) roots := fun hn hk => hn (hk _ (List.getElem_mem hi'))
      by_cases hx : ∃ x ∈ os, (x.ob.name : Int) = roots[i]
      · obtain ⟨x, hx, hxe⟩ := hx
        have hlk := H.hit hx (.ptr none) true
        rw [hxe] at hlk
        simp only [wk_skip, wk_region, wk_seq, wk_block, wk_cond, wk_exit, wk_ret, wk_draw, cnd_true, cnd_false, fin_nil, fin_seq, fin_seq_exit, fin_seq_ret, fin_seq_panic, fin_block, fin_block_exit, fin_block_ret, fin_block_panic, fin_loop, fin_loop_exit, fin_loop_ret, fin_loop_panic, ops_nil, ops_cons, ops_guard, res_val, res_new, main_nil, main_cons, main_guard, mres_val, mres_new, AOp.ev, AOpd.ev, evAll, evParts, evOpt, put_get, put_none, wantA, ARes.ofOpt, tmOf, List.getD_cons_zero, List.getD_cons_succ, Nat.reduceEqDiff, if_true, if_false, reduceIte, Nat.reduceAdd, Nat.reduceMul, binA, intOp, eqOp, nilOf, lenA_slice, callA, AV.cells, undefA, Option.map_some, Option.map_none, Bool.false_eq_true, reduceCtorEq, beq_false, beq_true, g_true, g_false, mg_true, mg_false, Bool.not_true, Bool.not_false, decide_true, decide_false, not_true_eq_false, not_false_eq_true, List.nil_append, List.cons_append, List.append_nil, Option.isNone_some, Option.isNone_none, List.getElem?_cons_zero, List.getElem?_cons_succ, t0, t20, t22, g1, g2, nilCheck_ptr, H.ld.1, keyOk_int, hlk, outA]
        have ok : roots[i] = 0 ∨ ∃ o ∈ obsOf os, (o.name : Int) = roots[i] := .inr ⟨_, mem_obs hx, hxe⟩
        refine g_ndec (fun h0 => ?_) (fun h0 => ?_)
        · simp only [wk_skip, wk_region, wk_seq, wk_block, wk_cond, wk_exit, wk_ret, wk_draw, cnd_true, cnd_false, fin_nil, fin_seq, fin_seq_exit, fin_seq_ret, fin_seq_panic, fin_block, fin_block_exit, fin_block_ret, fin_block_panic, fin_loop, fin_loop_exit, fin_loop_ret, fin_loop_panic, ops_nil, ops_cons, ops_guard, res_val, res_new, main_nil, main_cons, main_guard, mres_val, mres_new, AOp.ev, AOpd.ev, evAll, evParts, evOpt, put_get, put_none, wantA, ARes.ofOpt, tmOf, List.getD_cons_zero, List.getD_cons_succ, Nat.reduceEqDiff, if_true, if_false, reduceIte, Nat.reduceAdd, Nat.reduceMul, binA, intOp, eqOp, nilOf, lenA_slice, callA, AV.cells, undefA, Option.map_some, Option.map_none, Bool.false_eq_true, reduceCtorEq, beq_false, beq_true, g_true, g_false, mg_true, mg_false, Bool.not_true, Bool.not_false, decide_true, decide_false, not_true_eq_false, not_false_eq_true, List.nil_append, List.cons_append, List.append_nil, Option.isNone_some, Option.isNone_none, List.getElem?_cons_zero, List.getElem?_cons_succ, h0, wri, t22]
          refine meet (next _ ?_ ?_ ?_ ?_ ?_ ?_ ok)
          all_goals simp [TM.put, t0, t1, t2, t20, t21]
        · simp only [wk_skip, wk_region, wk_seq, wk_block, wk_cond, wk_exit, wk_ret, wk_draw, cnd_true, cnd_false, fin_nil, fin_seq, fin_seq_exit, fin_seq_ret, fin_seq_panic, fin_block, fin_block_exit, fin_block_ret, fin_block_panic, fin_loop, fin_loop_exit, fin_loop_ret, fin_loop_panic, ops_nil, ops_cons, ops_guard, res_val, res_new, main_nil, main_cons, main_guard, mres_val, mres_new, AOp.ev, AOpd.ev, evAll, evParts, evOpt, put_get, put_none, wantA, ARes.ofOpt, tmOf, List.getD_cons_zero, List.getD_cons_succ, Nat.reduceEqDiff, if_true, if_false, reduceIte, Nat.reduceAdd, Nat.reduceMul, binA, intOp, eqOp, nilOf, lenA_slice, callA, AV.cells, undefA, Option.map_some, Option.map_none, Bool.false_eq_true, reduceCtorEq, beq_false, beq_true, g_true, g_false, mg_true, mg_false, Bool.not_true, Bool.not_false, decide_true, decide_false, not_true_eq_false, not_false_eq_true, List.nil_append, List.cons_append, List.append_nil, Option.isNone_some, Option.isNone_none, List.getElem?_cons_zero, List.getElem?_cons_succ, h0, wri, t22]
          refine meet (next _ ?_ ?_ ?_ ?_ ?_ ?_ ok)
          all_goals simp [TM.put, t0, t1, t2, t20, t21]
      · have hno : ∀ o ∈ os, (o.ob.name : Int) ≠ roots[i] := fun o ho e => hx ⟨o, ho, e⟩
        have hlk := H.miss hno (.ptr none) true
        simp only [wk_skip, wk_region, wk_seq, wk_block, wk_cond, wk_exit, wk_ret, wk_draw, cnd_true, cnd_false, fin_nil, fin_seq, fin_seq_exit, fin_seq_ret, fin_seq_panic, fin_block, fin_block_exit, fin_block_ret, fin_block_panic, fin_loop, fin_loop_exit, fin_loop_ret, fin_loop_panic, ops_nil, ops_cons, ops_guard, res_val, res_new, main_nil, main_cons, main_guard, mres_val, mres_new, AOp.ev, AOpd.ev, evAll, evParts, evOpt, put_get, put_none, wantA, ARes.ofOpt, tmOf, List.getD_cons_zero, List.getD_cons_succ, Nat.reduceEqDiff, if_true, if_false, reduceIte, Nat.reduceAdd, Nat.reduceMul, binA, intOp, eqOp, nilOf, lenA_slice, callA, AV.cells, undefA, Option.map_some, Option.map_none, Bool.false_eq_true, reduceCtorEq, beq_false, beq_true, g_true, g_false, mg_true, mg_false, Bool.not_true, Bool.not_false, decide_true, decide_false, not_true_eq_false, not_false_eq_true, List.nil_append, List.cons_append, List.append_nil, Option.isNone_some, Option.isNone_none, List.getElem?_cons_zero, List.getElem?_cons_succ, t0, t20, t22, g1, g2, nilCheck_ptr, H.ld.1, keyOk_int, hlk, outA]
        refine g_ndec (fun h0 => ?_) (fun h0 => ?_)
        · simp only [wk_skip, wk_region, wk_seq, wk_block, wk_cond, wk_exit, wk_ret, wk_draw, cnd_true, cnd_false, fin_nil, fin_seq, fin_seq_exit, fin_seq_ret, fin_seq_panic, fin_block, fin_block_exit, fin_block_ret, fin_block_panic, fin_loop, fin_loop_exit, fin_loop_ret, fin_loop_panic, ops_nil, ops_cons, ops_guard, res_val, res_new, main_nil, main_cons, main_guard, mres_val, mres_new, AOp.ev, AOpd.ev, evAll, evParts, evOpt, put_get, put_none, wantA, ARes.ofOpt, tmOf, List.getD_cons_zero, List.getD_cons_succ, Nat.reduceEqDiff, if_true, if_false, reduceIte, Nat.reduceAdd, Nat.reduceMul, binA, intOp, eqOp, nilOf, lenA_slice, callA, AV.cells, undefA, Option.map_some, Option.map_none, Bool.false_eq_true, reduceCtorEq, beq_false, beq_true, g_true, g_false, mg_true, mg_false, Bool.not_true, Bool.not_false, decide_true, decide_false, not_true_eq_false, not_false_eq_true, List.nil_append, List.cons_append, List.append_nil, Option.isNone_some, Option.isNone_none, List.getElem?_cons_zero, List.getElem?_cons_succ, h0]
          refine fnEnd_ret2 ⟨0, 15, _, ρ, by simp [TM.put], .inr (.inl ⟨hn, bad ?_, rfl, rfl, rfl⟩), R, .refl _ _, .refl _ _⟩
          rintro (h | ⟨o, ho, e⟩)
          · exact h0 h
          · obtain ⟨y, hy, rfl⟩ := of_obs ho
            exact hno y hy e
        · simp only [wk_skip, wk_region, wk_seq, wk_block, wk_cond, wk_exit, wk_ret, wk_draw, cnd_true, cnd_false, fin_nil, fin_seq, fin_seq_exit, fin_seq_ret, fin_seq_panic, fin_block, fin_block_exit, fin_block_ret, fin_block_panic, fin_loop, fin_loop_exit, fin_loop_ret, fin_loop_panic, ops_nil, ops_cons, ops_guard, res_val, res_new, main_nil, main_cons, main_guard, mres_val, mres_new, AOp.ev, AOpd.ev, evAll, evParts, evOpt, put_get, put_none, wantA, ARes.ofOpt, tmOf, List.getD_cons_zero, List.getD_cons_succ, Nat.reduceEqDiff, if_true, if_false, reduceIte, Nat.reduceAdd, Nat.reduceMul, binA, intOp, eqOp, nilOf, lenA_slice, callA, AV.cells, undefA, Option.map_some, Option.map_none, Bool.false_eq_true, reduceCtorEq, beq_false, beq_true, g_true, g_false, mg_true, mg_false, Bool.not_true, Bool.not_false, decide_true, decide_false, not_true_eq_false, not_false_eq_true, List.nil_append, List.cons_append, List.append_nil, Option.isNone_some, Option.isNone_none, List.getElem?_cons_zero, List.getElem?_cons_succ, h0, wri, t22]
          refine meet (next _ ?_ ?_ ?_ ?_ ?_ ?_ (.inl h0))
          all_goals simp [TM.put, t0, t1, t2, t20, t21]
    · simp only [wk_skip, wk_region, wk_seq, wk_block, wk_cond, wk_exit, wk_ret, wk_draw, cnd_true, cnd_false, fin_nil, fin_seq, fin_seq_exit, fin_seq_ret, fin_seq_panic, fin_block, fin_block_exit, fin_block_ret, fin_block_panic, fin_loop, fin_loop_exit, fin_loop_ret, fin_loop_panic, ops_nil, ops_cons, ops_guard, res_val, res_new, main_nil, main_cons, main_guard, mres_val, mres_new, AOp.ev, AOpd.ev, evAll, evParts, evOpt, put_get, put_none, wantA, ARes.ofOpt, tmOf, List.getD_cons_zero, List.getD_cons_succ, Nat.reduceEqDiff, if_true, if_false, reduceIte, Nat.reduceAdd, Nat.reduceMul, binA, intOp, eqOp, nilOf, lenA_slice, callA, AV.cells, undefA, Option.map_some, Option.map_none, Bool.false_eq_true, reduceCtorEq, beq_false, beq_true, g_true, g_false, mg_true, mg_false, Bool.not_true, Bool.not_false, decide_true, decide_false, not_true_eq_false, not_false_eq_true, List.nil_append, List.cons_append, List.append_nil, Option.isNone_some, Option.isNone_none, List.getElem?_cons_zero, List.getElem?_cons_succ]
      rw [List.take_of_length_le (by omega)] at hkn
      exact meet ⟨rfl, rfl, t0, t1, t2, hkn⟩
  · rintro tm ds h' ⟨rfl, rfl, t0, t1, t2, hkn⟩
    have wrn : IntKind.i64.wrap (1 + (refs.length : Int)) = ((1 + refs.length : Nat) : Int) := by rw [wrap64 (by omega) (by omega)]; omega
    have ub := g.used_
    have ut := g.tot
    have wru : IntKind.i64.wrap (used + ((1 + refs.length : Nat) : Int)) = used + ((1 + refs.length : Nat) : Int) := wrap64 (by omega) (by omega)
    simp only [wk_skip, wk_region, wk_seq, wk_block, wk_cond, wk_exit, wk_ret, wk_draw, cnd_true, cnd_false, fin_nil, fin_seq, fin_seq_exit, fin_seq_ret, fin_seq_panic, fin_block, fin_block_exit, fin_block_ret, fin_block_panic, fin_loop, fin_loop_exit, fin_loop_ret, fin_loop_panic, ops_nil, ops_cons, ops_guard, res_val, res_new, main_nil, main_cons, main_guard, mres_val, mres_new, AOp.ev, AOpd.ev, evAll, evParts, evOpt, put_get, put_none, wantA, ARes.ofOpt, tmOf, List.getD_cons_zero, List.getD_cons_succ, Nat.reduceEqDiff, if_true, if_false, reduceIte, Nat.reduceAdd, Nat.reduceMul, binA, intOp, eqOp, nilOf, lenA_slice, callA, AV.cells, undefA, Option.map_some, Option.map_none, Bool.false_eq_true, reduceCtorEq, beq_false, beq_true, g_true, g_false, mg_true, mg_false, Bool.not_true, Bool.not_false, decide_true, decide_false, not_true_eq_false, not_false_eq_true, List.nil_append, List.cons_append, List.append_nil, Option.isNone_some, Option.isNone_none, List.getElem?_cons_zero, List.getElem?_cons_succ, t0, t1, hfl, wrn, nilCheck_ptr, H.ld.2.1, H.ld.2.2.1, wru]
    refine cond_cut (fun tm ds h2 => ds = [] ∧ tm 0 = .ptr (some (b, 0)) ∧ tm 1 = fv ∧ tm 12 = .int .i64 ((1 + refs.length : Nat) : Int) ∧ ∃ l1, RoomN (obsOf os) B refs.length roots l1 ∧ HRep h2 b B l1 ρ ∧ Off ρ h' h2) ?_ ?_
    · refine cond_dec (fun h4 => ?_) (fun h4 => ?_)
      · simp only [wk_skip, wk_region, wk_seq, wk_block, wk_cond, wk_exit, wk_ret, wk_draw, cnd_true, cnd_false, fin_nil, fin_seq, fin_seq_exit, fin_seq_ret, fin_seq_panic, fin_block, fin_block_exit, fin_block_ret, fin_block_panic, fin_loop, fin_loop_exit, fin_loop_ret, fin_loop_panic, ops_nil, ops_cons, ops_guard, res_val, res_new, main_nil, main_cons, main_guard, mres_val, mres_new, AOp.ev, AOpd.ev, evAll, evParts, evOpt, put_get, put_none, wantA, ARes.ofOpt, tmOf, List.getD_cons_zero, List.getD_cons_succ, Nat.reduceEqDiff, if_true, if_false, reduceIte, Nat.reduceAdd, Nat.reduceMul, binA, intOp, eqOp, nilOf, lenA_slice, callA, AV.cells, undefA, Option.map_some, Option.map_none, Bool.false_eq_true, reduceCtorEq, beq_false, beq_true, g_true, g_false, mg_true, mg_false, Bool.not_true, Bool.not_false, decide_true, decide_false, not_true_eq_false, not_false_eq_true, List.nil_append, List.cons_append, List.append_nil, Option.isNone_some, Option.isNone_none, List.getElem?_cons_zero, List.getElem?_cons_succ, t0, t2]
        refine res_ret (collect22_c R Hr hl) ?_
        rintro r h3 d ⟨n, e, rfl, off, hc⟩
        simp only [wk_skip, wk_region, wk_seq, wk_block, wk_cond, wk_exit, wk_ret, wk_draw, cnd_true, cnd_false, fin_nil, fin_seq, fin_seq_exit, fin_seq_ret, fin_seq_panic, fin_block, fin_block_exit, fin_block_ret, fin_block_panic, fin_loop, fin_loop_exit, fin_loop_ret, fin_loop_panic, ops_nil, ops_cons, ops_guard, res_val, res_new, main_nil, main_cons, main_guard, mres_val, mres_new, AOp.ev, AOpd.ev, evAll, evParts, evOpt, put_get, put_none, wantA, ARes.ofOpt, tmOf, List.getD_cons_zero, List.getD_cons_succ, Nat.reduceEqDiff, if_true, if_false, reduceIte, Nat.reduceAdd, Nat.reduceMul, binA, intOp, eqOp, nilOf, lenA_slice, callA, AV.cells, undefA, Option.map_some, Option.map_none, Bool.false_eq_true, reduceCtorEq, beq_false, beq_true, g_true, g_false, mg_true, mg_false, Bool.not_true, Bool.not_false, decide_true, decide_false, not_true_eq_false, not_false_eq_true, List.nil_append, List.cons_append, List.append_nil, Option.isNone_some, Option.isNone_none, List.getElem?_cons_zero, List.getElem?_cons_succ]
        rcases hc with ⟨hk, _⟩ | ⟨_, rfl, _, R'⟩
        · exact absurd hkn hk
        · exact meet ⟨rfl, by simp [TM.put, t0], by simp [TM.put, t1], by simp [TM.put], _, .inr ⟨by omega, rfl⟩, R', off⟩
      · simp only [wk_skip, wk_region, wk_seq, wk_block, wk_cond, wk_exit, wk_ret, wk_draw, cnd_true, cnd_false, fin_nil, fin_seq, fin_seq_exit, fin_seq_ret, fin_seq_panic, fin_block, fin_block_exit, fin_block_ret, fin_block_panic, fin_loop, fin_loop_exit, fin_loop_ret, fin_loop_panic, ops_nil, ops_cons, ops_guard, res_val, res_new, main_nil, main_cons, main_guard, mres_val, mres_new, AOp.ev, AOpd.ev, evAll, evParts, evOpt, put_get, put_none, wantA, ARes.ofOpt, tmOf, List.getD_cons_zero, List.getD_cons_succ, Nat.reduceEqDiff, if_true, if_false, reduceIte, Nat.reduceAdd, Nat.reduceMul, binA, intOp, eqOp, nilOf, lenA_slice, callA, AV.cells, undefA, Option.map_some, Option.map_none, Bool.false_eq_true, reduceCtorEq, beq_false, beq_true, g_true, g_false, mg_true, mg_false, Bool.not_true, Bool.not_false, decide_true, decide_false, not_true_eq_false, not_false_eq_true, List.nil_append, List.cons_append, List.append_nil, Option.isNone_some, Option.isNone_none, List.getElem?_cons_zero, List.getElem?_cons_succ]
        exact meet ⟨rfl, by simp [TM.put, t0], by simp [TM.put, t1], by simp [TM.put], _, .inl ⟨by omega, rfl⟩, R, .refl _ _⟩
    · clear t0 t1 t2 tm
      rintro tm ds h2 ⟨rfl, t0, t1, t12, l1, hroom, R1, off⟩
      obtain ⟨M1, used1, least1, os1, rfl, H1, g1, O1⟩ := R1
      have Hf1 := slice_off off Hf of
      have ub1 := g1.used_
      have ut1 := g1.tot
      have wru1 : IntKind.i64.wrap (used1 + ((1 + refs.length : Nat) : Int)) = used1 + ((1 + refs.length : Nat) : Int) := wrap64 (by omega) (by omega)
      simp only [wk_skip, wk_region, wk_seq, wk_block, wk_cond, wk_exit, wk_ret, wk_draw, cnd_true, cnd_false, fin_nil, fin_seq, fin_seq_exit, fin_seq_ret, fin_seq_panic, fin_block, fin_block_exit, fin_block_ret, fin_block_panic, fin_loop, fin_loop_exit, fin_loop_ret, fin_loop_panic, ops_nil, ops_cons, ops_guard, res_val, res_new, main_nil, main_cons, main_guard, mres_val, mres_new, AOp.ev, AOpd.ev, evAll, evParts, evOpt, put_get, put_none, wantA, ARes.ofOpt, tmOf, List.getD_cons_zero, List.getD_cons_succ, Nat.reduceEqDiff, if_true, if_false, reduceIte, Nat.reduceAdd, Nat.reduceMul, binA, intOp, eqOp, nilOf, lenA_slice, callA, AV.cells, undefA, Option.map_some, Option.map_none, Bool.false_eq_true, reduceCtorEq, beq_false, beq_true, g_true, g_false, mg_true, mg_false, Bool.not_true, Bool.not_false, decide_true, decide_false, not_true_eq_false, not_false_eq_true, List.nil_append, List.cons_append, List.append_nil, Option.isNone_some, Option.isNone_none, List.getElem?_cons_zero, List.getElem?_cons_succ, t0, t12, nilCheck_ptr, H1.ld.2.1, H1.ld.2.2.1, wru1]
      refine cond_dec (fun h4 => ?_) (fun h4 => ?_)
      · simp only [wk_skip, wk_region, wk_seq, wk_block, wk_cond, wk_exit, wk_ret, wk_draw, cnd_true, cnd_false, fin_nil, fin_seq, fin_seq_exit, fin_seq_ret, fin_seq_panic, fin_block, fin_block_exit, fin_block_ret, fin_block_panic, fin_loop, fin_loop_exit, fin_loop_ret, fin_loop_panic, ops_nil, ops_cons, ops_guard, res_val, res_new, main_nil, main_cons, main_guard, mres_val, mres_new, AOp.ev, AOpd.ev, evAll, evParts, evOpt, put_get, put_none, wantA, ARes.ofOpt, tmOf, List.getD_cons_zero, List.getD_cons_succ, Nat.reduceEqDiff, if_true, if_false, reduceIte, Nat.reduceAdd, Nat.reduceMul, binA, intOp, eqOp, nilOf, lenA_slice, callA, AV.cells, undefA, Option.map_some, Option.map_none, Bool.false_eq_true, reduceCtorEq, beq_false, beq_true, g_true, g_false, mg_true, mg_false, Bool.not_true, Bool.not_false, decide_true, decide_false, not_true_eq_false, not_false_eq_true, List.nil_append, List.cons_append, List.append_nil, Option.isNone_some, Option.isNone_none, List.getElem?_cons_zero, List.getElem?_cons_succ]
        exact fnEnd_ret2 ⟨0, 20, _, ρ, by simp [TM.put], .inr (.inr ⟨hn, hkn, _, hroom, .inl ⟨by omega, rfl, rfl, rfl⟩⟩), ⟨M1, used1, least1, os1, rfl, H1, g1, O1⟩, off, .refl _ _⟩
      simp only [wk_skip, wk_region, wk_seq, wk_block, wk_cond, wk_exit, wk_ret, wk_draw, cnd_true, cnd_false, fin_nil, fin_seq, fin_seq_exit, fin_seq_ret, fin_seq_panic, fin_block, fin_block_exit, fin_block_ret, fin_block_panic, fin_loop, fin_loop_exit, fin_loop_ret, fin_loop_panic, ops_nil, ops_cons, ops_guard, res_val, res_new, main_nil, main_cons, main_guard, mres_val, mres_new, AOp.ev, AOpd.ev, evAll, evParts, evOpt, put_get, put_none, wantA, ARes.ofOpt, tmOf, List.getD_cons_zero, List.getD_cons_succ, Nat.reduceEqDiff, if_true, if_false, reduceIte, Nat.reduceAdd, Nat.reduceMul, binA, intOp, eqOp, nilOf, lenA_slice, callA, AV.cells, undefA, Option.map_some, Option.map_none, Bool.false_eq_true, reduceCtorEq, beq_false, beq_true, g_true, g_false, mg_true, mg_false, Bool.not_true, Bool.not_false, decide_true, decide_false, not_true_eq_false, not_false_eq_true, List.nil_append, List.cons_append, List.append_nil, Option.isNone_some, Option.isNone_none, List.getElem?_cons_zero, List.getElem?_cons_succ]
      refine wk_cutb (fun tm ds h3 => ds = [] ∧ tm 0 = .ptr (some (b, 0)) ∧ tm 1 = fv ∧ tm 12 = .int .i64 ((1 + refs.length : Nat) : Int) ∧ ∃ m : Nat, LeastFree (obsOf os1) m ∧ HIn h3 b M1 B used1 m os1 ∧ HGood B used1 m (obsOf os1) ∧ HOwn h3 b M1 os1 ρ ∧ Off ρ h2 h3) ?_ ?_
      · refine wk_loop (fun k tm ds h3 => ds = [] ∧ tm 0 = .ptr (some (b, 0)) ∧ tm 1 = fv ∧ tm 12 = .int .i64 ((1 + refs.length : Nat) : Int) ∧ ∃ m : Nat, m + k = (obsOf os1).length + 2 ∧ HIn h3 b M1 B used1 m os1 ∧ HGood B used1 m (obsOf os1) ∧ HOwn h3 b M1 os1 ρ ∧ Off ρ h2 h3) ((obsOf os1).length + 2 - least1.toNat)
          ⟨rfl, by simp [TM.put, t0], by simp [TM.put, t1], by simp [TM.put, t12], least1.toNat, ?_, ?_, ?_, O1, .refl _ _⟩ ?_
        · have h1 := low_len g1.low.2
          have h2 := g1.low.1
          omega
        · have h2 := g1.low.1
          rw [show ((least1.toNat : Nat) : Int) = least1 by omega]; exact H1
        · have h2 := g1.low.1
          rw [show ((least1.toNat : Nat) : Int) = least1 by omega]; exact g1
        clear t0 t1 t12 tm
        rintro k tm ds h3 ⟨rfl, t0, t1, t12, m, hk, H3, g3, O3, off3⟩
        have hml := low_len g3.low.2
        have hm1 := g3.low.1
        by_cases hx : ∃ x ∈ os1, (x.ob.name : Int) = m
        · obtain ⟨x, hx, hxe⟩ := hx
          have hlk := H3.hit hx (.ptr none) false
          rw [hxe] at hlk
          have hlow : ∀ n : Nat, 1 ≤ n → (n : Int) < ((m + 1 : Nat) : Int) → ∃ o ∈ obsOf os1, o.name = n := fun n q1 q2 => by
            by_cases e : n = m
            · exact ⟨_, mem_obs hx, by omega⟩
            · exact g3.low.2 n q1 (by omega)
          have hml2 := low_len hlow
          have wrm : IntKind.i64.wrap ((m : Int) + 1) = ((m + 1 : Nat) : Int) := by
            have := g3.len
            rw [wrap64 (by omega) (by omega)]; rfl
          obtain ⟨H4, O4, f4⟩ := H3.setTop O3 used1 ((m + 1 : Nat) : Int)
          simp only [wk_skip, wk_region, wk_seq, wk_block, wk_cond, wk_exit, wk_ret, wk_draw, cnd_true, cnd_false, fin_nil, fin_seq, fin_seq_exit, fin_seq_ret, fin_seq_panic, fin_block, fin_block_exit, fin_block_ret, fin_block_panic, fin_loop, fin_loop_exit, fin_loop_ret, fin_loop_panic, ops_nil, ops_cons, ops_guard, res_val, res_new, main_nil, main_cons, main_guard, mres_val, mres_new, AOp.ev, AOpd.ev, evAll, evParts, evOpt, put_get, put_none, wantA, ARes.ofOpt, tmOf, List.getD_cons_zero, List.getD_cons_succ, Nat.reduceEqDiff, if_true, if_false, reduceIte, Nat.reduceAdd, Nat.reduceMul, binA, intOp, eqOp, nilOf, lenA_slice, callA, AV.cells, undefA, Option.map_some, Option.map_none, Bool.false_eq_true, reduceCtorEq, beq_false, beq_true, g_true, g_false, mg_true, mg_false, Bool.not_true, Bool.not_false, decide_true, decide_false, not_true_eq_false, not_false_eq_true, List.nil_append, List.cons_append, List.append_nil, Option.isNone_some, Option.isNone_none, List.getElem?_cons_zero, List.getElem?_cons_succ, t0, nilCheck_ptr, H3.ld.1, H3.ld.2.2.2, keyOk_int, hlk, outA, wrm, (store_top H3.top).2]
          exact meet ⟨k - 1, by omega, rfl, by simp [TM.put, t0], by simp [TM.put, t1], by simp [TM.put, t12], m + 1, by omega, H4, ⟨g3.same, g3.names, g3.pos, g3.few, g3.used_, g3.fits, g3.budget, ⟨by omega, hlow⟩, g3.closed⟩, O4, off3.trans f4 (.refl _ _)⟩
        · have hno : ∀ o ∈ os1, (o.ob.name : Int) ≠ m := fun o ho e => hx ⟨o, ho, e⟩
          have hlk := H3.miss hno (.ptr none) false
          simp only [wk_skip, wk_region, wk_seq, wk_block, wk_cond, wk_exit, wk_ret, wk_draw, cnd_true, cnd_false, fin_nil, fin_seq, fin_seq_exit, fin_seq_ret, fin_seq_panic, fin_block, fin_block_exit, fin_block_ret, fin_block_panic, fin_loop, fin_loop_exit, fin_loop_ret, fin_loop_panic, ops_nil, ops_cons, ops_guard, res_val, res_new, main_nil, main_cons, main_guard, mres_val, mres_new, AOp.ev, AOpd.ev, evAll, evParts, evOpt, put_get, put_none, wantA, ARes.ofOpt, tmOf, List.getD_cons_zero, List.getD_cons_succ, Nat.reduceEqDiff, if_true, if_false, reduceIte, Nat.reduceAdd, Nat.reduceMul, binA, intOp, eqOp, nilOf, lenA_slice, callA, AV.cells, undefA, Option.map_some, Option.map_none, Bool.false_eq_true, reduceCtorEq, beq_false, beq_true, g_true, g_false, mg_true, mg_false, Bool.not_true, Bool.not_false, decide_true, decide_false, not_true_eq_false, not_false_eq_true, List.nil_append, List.cons_append, List.append_nil, Option.isNone_some, Option.isNone_none, List.getElem?_cons_zero, List.getElem?_cons_succ, t0, nilCheck_ptr, H3.ld.1, H3.ld.2.2.2, keyOk_int, hlk, outA]
          refine meet ⟨rfl, by simp [TM.put, t0], by simp [TM.put, t1], by simp [TM.put, t12], m, ⟨by omega, fun o ho e => ?_, fun n q1 q2 => g3.low.2 n q1 (by omega)⟩, H3, g3, O3, off3⟩
          obtain ⟨y, hy, rfl⟩ := of_obs ho
          exact hno y hy (by omega)
      · clear t0 t1 t12 tm
        rintro tm ds h3 ⟨rfl, t0, t1, t12, m, hlf, H3, g3, O3, off3⟩
        have Hf3 := slice_off (off.trans off3 (.refl _ _)) Hf of
        have hfl3 := Hf3.len refs.length (by simp) (by omega)
        have hmk := make_one (h := h3) (bytes := 8) (z := .int .u64 0) (n := refs.length) (by omega) (by omega)
        simp only [wk_skip, wk_region, wk_seq, wk_block, wk_cond, wk_exit, wk_ret, wk_draw, cnd_true, cnd_false, fin_nil, fin_seq, fin_seq_exit, fin_seq_ret, fin_seq_panic, fin_block, fin_block_exit, fin_block_ret, fin_block_panic, fin_loop, fin_loop_exit, fin_loop_ret, fin_loop_panic, ops_nil, ops_cons, ops_guard, res_val, res_new, main_nil, main_cons, main_guard, mres_val, mres_new, AOp.ev, AOpd.ev, evAll, evParts, evOpt, put_get, put_none, wantA, ARes.ofOpt, tmOf, List.getD_cons_zero, List.getD_cons_succ, Nat.reduceEqDiff, if_true, if_false, reduceIte, Nat.reduceAdd, Nat.reduceMul, binA, intOp, eqOp, nilOf, lenA_slice, callA, AV.cells, undefA, Option.map_some, Option.map_none, Bool.false_eq_true, reduceCtorEq, beq_false, beq_true, g_true, g_false, mg_true, mg_false, Bool.not_true, Bool.not_false, decide_true, decide_false, not_true_eq_false, not_false_eq_true, List.nil_append, List.cons_append, List.append_nil, Option.isNone_some, Option.isNone_none, List.getElem?_cons_zero, List.getElem?_cons_succ, t0, t1, t12, nilCheck_ptr, H3.ld.1, H3.ld.2.2.2, hfl3, hmk]
        intro cb hcb
        have mcb := More.upd hcb (.cells (List.replicate refs.length (.int .u64 0)) false)
        refine mres_ret_more (clone32_c (slice_more Hf3 mcb) (by simp; omega) (by simp [AV.oneCell])) (fun v h' G => G.more) ?_
        intro rv' h5 d5 G5
        have hfill : fillA [.slice none 0 0 0 true, .slice none 0 0 0 true] [(0, 1, .slice (some (cb, 0)) 1 refs.length refs.length true), (1, 1, rv')] = some [.slice (some (cb, 0)) 1 refs.length refs.length true, rv'] := by
          obtain ⟨p, sz', len, cap, ex, hrv, _⟩ := G5.at_.out
          rw [hrv]; rfl
        simp only [wk_skip, wk_region, wk_seq, wk_block, wk_cond, wk_exit, wk_ret, wk_draw, cnd_true, cnd_false, fin_nil, fin_seq, fin_seq_exit, fin_seq_ret, fin_seq_panic, fin_block, fin_block_exit, fin_block_ret, fin_block_panic, fin_loop, fin_loop_exit, fin_loop_ret, fin_loop_panic, ops_nil, ops_cons, ops_guard, res_val, res_new, main_nil, main_cons, main_guard, mres_val, mres_new, AOp.ev, AOpd.ev, evAll, evParts, evOpt, put_get, put_none, wantA, ARes.ofOpt, tmOf, List.getD_cons_zero, List.getD_cons_succ, Nat.reduceEqDiff, if_true, if_false, reduceIte, Nat.reduceAdd, Nat.reduceMul, binA, intOp, eqOp, nilOf, lenA_slice, callA, AV.cells, undefA, Option.map_some, Option.map_none, Bool.false_eq_true, reduceCtorEq, beq_false, beq_true, g_true, g_false, mg_true, mg_false, Bool.not_true, Bool.not_false, decide_true, decide_false, not_true_eq_false, not_false_eq_true, List.nil_append, List.cons_append, List.append_nil, Option.isNone_some, Option.isNone_none, List.getElem?_cons_zero, List.getElem?_cons_succ, hfill]
        intro ab hab
        have m5 := mcb.trans G5.more
        have mab := More.upd hab (.cells [.slice (some (cb, 0)) 1 refs.length refs.length true, rv'] false)
        have hab3 : h3 ab = none := m5.none_ hab
        have hc5 : h5 cb = some (.cells (List.replicate refs.length (.int .u64 0)) false) := G5.more.at_ (AHeap.upd_same _ _ _)
        have hne : ab ≠ cb := fun e => by rw [e, hc5] at hab; cases hab
        have orv : ∀ c, blkOf rv' = some c → h3 c = none ∧ c ≠ ab ∧ c ≠ cb := fun c hc => by
          obtain ⟨q1, ds, q2⟩ := G5.own c hc
          refine ⟨mcb.none_ q1, fun e => ?_, fun e => ?_⟩
          · rw [e, hab] at q2; cases q2
          · rw [e, AHeap.upd_same] at q1; cases q1
        obtain ⟨x, u1, u2, u3, u4, ρ', u5, u6, u7⟩ := HRep.ins H3 g3 O3 (m5.trans mab) (m := m) (n := refs.length) (refs := refs) rfl hlf rfl (by omega) hab3 hcb hne (AHeap.upd_same _ _ _) (mab.at_ hc5) (slice_more G5.at_ mab) orv
        have wru3 : IntKind.i64.wrap (used1 + ((1 + refs.length : Nat) : Int)) = used1 + 1 + refs.length := by rw [wrap64 (by omega) (by omega)]; omega
        simp only [wk_skip, wk_region, wk_seq, wk_block, wk_cond, wk_exit, wk_ret, wk_draw, cnd_true, cnd_false, fin_nil, fin_seq, fin_seq_exit, fin_seq_ret, fin_seq_panic, fin_block, fin_block_exit, fin_block_ret, fin_block_panic, fin_loop, fin_loop_exit, fin_loop_ret, fin_loop_panic, ops_nil, ops_cons, ops_guard, res_val, res_new, main_nil, main_cons, main_guard, mres_val, mres_new, AOp.ev, AOpd.ev, evAll, evParts, evOpt, put_get, put_none, wantA, ARes.ofOpt, tmOf, List.getD_cons_zero, List.getD_cons_succ, Nat.reduceEqDiff, if_true, if_false, reduceIte, Nat.reduceAdd, Nat.reduceMul, binA, intOp, eqOp, nilOf, lenA_slice, callA, AV.cells, undefA, Option.map_some, Option.map_none, Bool.false_eq_true, reduceCtorEq, beq_false, beq_true, g_true, g_false, mg_true, mg_false, Bool.not_true, Bool.not_false, decide_true, decide_false, not_true_eq_false, not_false_eq_true, List.nil_append, List.cons_append, List.append_nil, Option.isNone_some, Option.isNone_none, List.getElem?_cons_zero, List.getElem?_cons_succ, t0, t12, u1, nilCheck_ptr, u2, wru3, u3, u4]
        exact fnEnd_ret2 ⟨m, 0, _, ρ', by simp [TM.put], .inr (.inr ⟨hn, hkn, _, hroom, .inr ⟨by omega, rfl, m, rfl, hlf, rfl⟩⟩), u5, (off.trans off3 (.refl _ _)).trans u6 (.refl _ _), (Mine.refl ρ h').trans (off.trans off3 (.refl _ _)) u7⟩
end Go.Proofs.Ytnkdjfmidiffdaa
namespace Go.Proofs.Ytnkdjfmidiffdaa
open Go Go.Proofs Go.Am
variable {N : Nat}

/-- One more object, in a map of its own. -/
theorem HIn.add {h h2 : AHeap} {b M : Nat} {B used least : Int} {os : List HO} {ρ : Nat → Nat} (H : HIn h b M B used least os) (O : HOwn h b M os ρ) (m2 : More h h2) {x : HO} (hx : ∀ o ∈ os, (o.ob.name : Int) ≠ x.ob.name)
    (hab : h x.blk = none) (ha2 : h2 x.blk = some (.cells [x.cv, x.rv] false)) (hcv : SliceAt h2 1 x.cv (x.ob.cells.map fun n : Nat => AV.int .u64 (n : Int))) (hrv : SliceAt h2 1 x.rv (x.ob.refs.map .bool))
    (ocv : ∀ c, blkOf x.cv = some c → h c = none ∧ c ≠ x.blk ∧ ∃ ds, h2 c = some (.cells ds false)) (orv : ∀ c, blkOf x.rv = some c → h c = none ∧ c ≠ x.blk ∧ blkOf x.cv ≠ some c) :
    ∃ y, updateA h2 .int (.map (some M)) (.int .i64 (x.ob.name : Int)) (.ptr (some (x.blk, 0))) = .val undefA (h2.upd M y) ∧
      ∃ ρ', HIn (h2.upd M y) b M B used least (os ++ [x]) ∧ HOwn (h2.upd M y) b M (os ++ [x]) ρ' ∧ ∀ c, ρ' c ≠ 0 → ρ c ≠ 0 ∨ (h c = none ∧ h2 c ≠ none) := by
  have H2 := H.more m2
  have hnk : ∀ p ∈ kvOf os, p.1 ≠ (x.ob.name : Int) := fun p hp => by
    obtain ⟨o, ho, rfl⟩ := List.mem_map.1 hp
    exact hx o ho
  obtain ⟨y, e1, im⟩ := H2.map.put hnk (.ptr (some (x.blk, 0)))
  have hMb : M ≠ b := fun e => by have h1 := O.map; have h2 := O.top; rw [e] at h1; omega
  refine ⟨y, e1, ?_⟩
  have keep : ∀ c, c ≠ M → (h2.upd M y) c = h2 c := fun c h1 => AHeap.upd_other _ _ h1
  generalize h2.upd M y = h3 at *
  have nM : ∀ c, h c = none → c ≠ M := fun c hc e => H.map.some_ (e ▸ hc)
  have old : ∀ c, ρ c ≠ 0 → ρ c ≠ 2 → h3 c = h c := fun c h0 h2 => (keep c (fun e => h2 (by rw [e]; exact O.map))).trans (m2 c (O.dom c h0))
  let ρ' : Nat → Nat := fun c => if c = x.blk then 3 + 3 * x.ob.name else if blkOf x.cv = some c then 4 + 3 * x.ob.name else if blkOf x.rv = some c then 5 + 3 * x.ob.name else ρ c
  have ρold : ∀ c, ρ c ≠ 0 → ρ' c = ρ c := fun c h0 => by
    have hd := O.dom c h0
    exact (if_neg (fun e : c = x.blk => hd (by rw [e]; exact hab))).trans ((if_neg (fun e => hd (ocv c e).1)).trans (if_neg fun e => hd (orv c e).1))
  refine ⟨ρ', ⟨?_, ?_, fun o ho => ?_, fun o ho => ?_, fun o ho => ?_⟩, ⟨by rw [ρold b (by rw [O.top]; omega)]; exact O.top, by rw [ρold M (by rw [O.map]; omega)]; exact O.map, fun o ho => ?_, fun o ho c hc => ?_, fun o ho c hc => ?_, fun c hc => ?_⟩, fun c hc => ?_⟩
  · rw [keep b fun e => hMb e.symm]; exact H2.top
  · have : kvOf (os ++ [x]) = kvOf os ++ [((x.ob.name : Int), .ptr (some (x.blk, 0)))] := by simp [kvOf]
    rw [this]; exact im
  · rcases List.mem_append.1 ho with ho | ho
    · have := O.obj o ho
      rw [old o.blk (by omega) (by omega)]; exact H.obj o ho
    · simp at ho; subst ho
      exact (keep o.blk (nM o.blk hab)).trans ha2
  · rcases List.mem_append.1 ho with ho | ho
    · exact (H.cells o ho).keep fun c hc => by have := (O.cel o ho c hc).1; exact old c (by omega) (by omega)
    · simp at ho; subst ho
      exact hcv.keep fun c hc => keep c (nM c (ocv c hc).1)
  · rcases List.mem_append.1 ho with ho | ho
    · exact (H.refs o ho).keep fun c hc => by have := O.rfs o ho c hc; exact old c (by omega) (by omega)
    · simp at ho; subst ho
      exact hrv.keep fun c hc => keep c (nM c (orv c hc).1)
  · rcases List.mem_append.1 ho with ho | ho
    · have := O.obj o ho
      rw [ρold _ (by omega)]; exact this
    · simp at ho; subst ho
      exact if_pos rfl
  · rcases List.mem_append.1 ho with ho | ho
    · have h1 := (O.cel o ho c hc).1
      refine ⟨by rw [ρold _ (by omega)]; exact h1, ?_⟩
      rw [old c (by omega) (by omega)]; exact (O.cel o ho c hc).2
    · simp at ho; subst ho
      obtain ⟨q1, q2, ds, q3⟩ := ocv c hc
      exact ⟨(if_neg q2).trans (if_pos hc), ds, (keep c (nM c q1)).trans q3⟩
  · rcases List.mem_append.1 ho with ho | ho
    · have h1 := O.rfs o ho c hc
      rw [ρold _ (by omega)]; exact h1
    · simp at ho; subst ho
      obtain ⟨q1, q2, q3⟩ := orv c hc
      exact (if_neg q2).trans ((if_neg q3).trans (if_pos hc))
  · by_cases e2 : c = M
    · subst e2; exact im.some_
    · rw [keep c e2]
      by_cases e3 : c = x.blk
      · subst e3; rw [ha2]; simp
      · by_cases e4 : blkOf x.cv = some c
        · obtain ⟨_, _, ds, q⟩ := ocv c e4; rw [q]; simp
        · by_cases e5 : blkOf x.rv = some c
          · exact hrv.dom e5
          · have : ρ' c = ρ c := (if_neg e3).trans ((if_neg e4).trans (if_neg e5))
            rw [this] at hc
            rw [m2 c (O.dom c hc)]; exact O.dom c hc
  · by_cases e3 : c = x.blk
    · subst e3; exact .inr ⟨hab, by rw [ha2]; simp⟩
    · by_cases e4 : blkOf x.cv = some c
      · obtain ⟨q0, _, ds, q⟩ := ocv c e4; exact .inr ⟨q0, by rw [q]; simp⟩
      · by_cases e5 : blkOf x.rv = some c
        · exact .inr ⟨(orv c e5).1, hrv.dom e5⟩
        · have : ρ' c = ρ c := (if_neg e3).trans ((if_neg e4).trans (if_neg e5))
          rw [this] at hc
          exact .inl hc

theorem HGood.perm {B used least : Int} {l l' : List Ob} (g : HGood B used least l) (p : l'.Perm l) : HGood B used least l' :=
  ⟨fun o ho => g.same o (p.mem_iff.1 ho), (p.map _).nodup_iff.2 g.names, fun o ho => g.pos o (p.mem_iff.1 ho), fun o ho => g.few o (p.mem_iff.1 ho), by rw [g.used_]; unfold totOb; rw [(p.map sizeOb).sum_nat], g.fits, g.budget,
    ⟨g.low.1, fun n h1 h2 => by obtain ⟨o, ho, e⟩ := g.low.2 n h1 h2; exact ⟨o, p.mem_iff.2 ho, e⟩⟩, fun o ho j c hr hc => by
      rcases g.closed o (p.mem_iff.1 ho) j c hr hc with h | ⟨o', ho', e⟩
      · exact .inl h
      · exact .inr ⟨o', p.mem_iff.2 ho', e⟩⟩

theorem copy26_c {h : AHeap} {b : Nat} {B : Int} {l : List Ob} {ρ : Nat → Nat} (R : HRep h b B l ρ) : ARets Try.prog N 26 [.ptr (some (b, 0))] h fun r h' =>
    ∃ (c : Nat) (l' : List Ob) (ρ' : Nat → Nat), r = .ptr (some (c, 0)) ∧ More h h' ∧ l'.Perm l ∧ HRep h' c B l' ρ' ∧ ∀ d, ρ' d ≠ 0 → h d = none := by
  obtain ⟨M, used, least, os, rfl, H, g, O⟩ := id R
  refine acalls_of_wp c26_ok mixed (by show 1 ≤ 51; decide) (wk_start ?_)
  unfold c26
  simp only [wk_skip, wk_region, wk_seq, wk_block, wk_cond, wk_exit, wk_ret, wk_draw, cnd_true, cnd_false, fin_nil, fin_seq, fin_seq_exit, fin_seq_ret, fin_seq_panic, fin_block, fin_block_exit, fin_block_ret, fin_block_panic, fin_loop, fin_loop_exit, fin_loop_ret, fin_loop_panic, ops_nil, ops_cons, ops_guard, res_val, res_new, main_nil, main_cons, main_guard, mres_val, mres_new, AOp.ev, AOpd.ev, evAll, evParts, evOpt, put_get, put_none, wantA, ARes.ofOpt, tmOf, List.getD_cons_zero, List.getD_cons_succ, Nat.reduceEqDiff, if_true, if_false, reduceIte, Nat.reduceAdd, Nat.reduceMul, binA, intOp, eqOp, nilOf, lenA_slice, callA, AV.cells, undefA, Option.map_some, Option.map_none, Bool.false_eq_true, reduceCtorEq, beq_false, beq_true, g_true, g_false, mg_true, mg_false, Bool.not_true, Bool.not_false, decide_true, decide_false, not_true_eq_false, not_false_eq_true, List.nil_append, List.cons_append, List.append_nil, Option.isNone_some, Option.isNone_none, List.getElem?_cons_zero, List.getElem?_cons_succ]
  intro M2 hM2
  have mM := More.upd hM2 (.map [] 0)
  have H1 := H.more mM
  have hfill : fillA [.map none, .int .i64 0, .int .i64 0, .int .i64 0] [(0, 1, .map (some M2)), (1, 1, .int .i64 B), (2, 1, .int .i64 used), (3, 1, .int .i64 least)] = some [.map (some M2), .int .i64 B, .int .i64 used, .int .i64 least] := rfl
  simp only [wk_skip, wk_region, wk_seq, wk_block, wk_cond, wk_exit, wk_ret, wk_draw, cnd_true, cnd_false, fin_nil, fin_seq, fin_seq_exit, fin_seq_ret, fin_seq_panic, fin_block, fin_block_exit, fin_block_ret, fin_block_panic, fin_loop, fin_loop_exit, fin_loop_ret, fin_loop_panic, ops_nil, ops_cons, ops_guard, res_val, res_new, main_nil, main_cons, main_guard, mres_val, mres_new, AOp.ev, AOpd.ev, evAll, evParts, evOpt, put_get, put_none, wantA, ARes.ofOpt, tmOf, List.getD_cons_zero, List.getD_cons_succ, Nat.reduceEqDiff, if_true, if_false, reduceIte, Nat.reduceAdd, Nat.reduceMul, binA, intOp, eqOp, nilOf, lenA_slice, callA, AV.cells, undefA, Option.map_some, Option.map_none, Bool.false_eq_true, reduceCtorEq, beq_false, beq_true, g_true, g_false, mg_true, mg_false, Bool.not_true, Bool.not_false, decide_true, decide_false, not_true_eq_false, not_false_eq_true, List.nil_append, List.cons_append, List.append_nil, Option.isNone_some, Option.isNone_none, List.getElem?_cons_zero, List.getElem?_cons_succ, nilCheck_ptr, H1.ld.2.1, H1.ld.2.2.1, H1.ld.2.2.2, hfill]
  intro c hc
  have mc := More.upd hc (.cells [.map (some M2), .int .i64 B, .int .i64 used, .int .i64 least] false)
  have m2 := mM.trans mc
  have H2 := H.more m2
  have hcM : c ≠ M2 := (upd_none hc).1
  have hc0 := (upd_none hc).2
  obtain ⟨x, hr, hit⟩ := H2.map.range
  simp only [wk_skip, wk_region, wk_seq, wk_block, wk_cond, wk_exit, wk_ret, wk_draw, cnd_true, cnd_false, fin_nil, fin_seq, fin_seq_exit, fin_seq_ret, fin_seq_panic, fin_block, fin_block_exit, fin_block_ret, fin_block_panic, fin_loop, fin_loop_exit, fin_loop_ret, fin_loop_panic, ops_nil, ops_cons, ops_guard, res_val, res_new, main_nil, main_cons, main_guard, mres_val, mres_new, AOp.ev, AOpd.ev, evAll, evParts, evOpt, put_get, put_none, wantA, ARes.ofOpt, tmOf, List.getD_cons_zero, List.getD_cons_succ, Nat.reduceEqDiff, if_true, if_false, reduceIte, Nat.reduceAdd, Nat.reduceMul, binA, intOp, eqOp, nilOf, lenA_slice, callA, AV.cells, undefA, Option.map_some, Option.map_none, Bool.false_eq_true, reduceCtorEq, beq_false, beq_true, g_true, g_false, mg_true, mg_false, Bool.not_true, Bool.not_false, decide_true, decide_false, not_true_eq_false, not_false_eq_true, List.nil_append, List.cons_append, List.append_nil, Option.isNone_some, Option.isNone_none, List.getElem?_cons_zero, List.getElem?_cons_succ, nilCheck_ptr, H2.ld.1, hr]
  intro it hit0
  have it0 := hit it hit0
  have mi := More.upd hit0 x
  have hith : h it = none := m2.none_ hit0
  refine wk_loop (fun k tm ds h' => ds = [] ∧ tm 3 = .ptr (some (c, 0)) ∧ tm 27 = .ptr (some (it, 0)) ∧ More h h' ∧ ∃ (dn os2 : List HO) (ρ2 : Nat → Nat), k + dn.length = os.length ∧ ItAt h' it M (kvOf os) (kvOf dn) ∧ (∀ o ∈ dn, o ∈ os) ∧ obsOf os2 = obsOf dn ∧
      HIn h' c M2 B used least os2 ∧ HOwn h' c M2 os2 ρ2 ∧ (∀ d, ρ2 d ≠ 0 → h d = none) ∧ ρ2 it = 0) os.length
    ⟨rfl, by simp [TM.put], by simp [TM.put], m2.trans mi, [], [], fun d => if d = c then 1 else if d = M2 then 2 else 0, by simp, it0, fun o ho => (by cases ho), rfl,
      ⟨mi.at_ (AHeap.upd_same _ _ _), ?_, fun o ho => (by cases ho), fun o ho => (by cases ho), fun o ho => (by cases ho)⟩, ⟨by simp, (if_neg hcM.symm).trans (if_pos rfl), fun o ho => (by cases ho), fun o ho => (by cases ho), fun o ho => (by cases ho), fun d hd => ?_⟩, fun d hd => ?_, ?_⟩ ?_
  · exact ((IMap.new (h := h) (M := M2)).keep (mc M2 (by rw [AHeap.upd_same]; simp))).keep (mi M2 (by rw [mc M2 (by rw [AHeap.upd_same]; simp), AHeap.upd_same]; simp))
  · by_cases e : d = c
    · subst e; rw [mi.at_ (AHeap.upd_same _ _ _)]; simp
    · by_cases e2 : d = M2
      · subst e2; rw [mi.at_ (mc.at_ (AHeap.upd_same _ _ _))]; simp
      · simp [e, e2] at hd
  · by_cases e : d = c
    · subst e; exact hc0
    · by_cases e2 : d = M2
      · subst e2; exact hM2
      · simp [e, e2] at hd
  · have e1 : it ≠ c := (upd_none hit0).1
    have e2 : it ≠ M2 := (upd_none (upd_none hit0).2).1
    exact (if_neg e1).trans (if_neg e2)
  rintro k tm ds h' ⟨rfl, t3, t27, m', dn, os2, ρ2, hk, ia, hdn, hobs, H', O', hnew, hit2⟩
  obtain ⟨L, hn, hL⟩ := ia.next
  simp only [wk_skip, wk_region, wk_seq, wk_block, wk_cond, wk_exit, wk_ret, wk_draw, cnd_true, cnd_false, fin_nil, fin_seq, fin_seq_exit, fin_seq_ret, fin_seq_panic, fin_block, fin_block_exit, fin_block_ret, fin_block_panic, fin_loop, fin_loop_exit, fin_loop_ret, fin_loop_panic, ops_nil, ops_cons, ops_guard, res_val, res_new, main_nil, main_cons, main_guard, mres_val, mres_new, AOp.ev, AOpd.ev, evAll, evParts, evOpt, put_get, put_none, wantA, ARes.ofOpt, tmOf, List.getD_cons_zero, List.getD_cons_succ, Nat.reduceEqDiff, if_true, if_false, reduceIte, Nat.reduceAdd, Nat.reduceMul, binA, intOp, eqOp, nilOf, lenA_slice, callA, AV.cells, undefA, Option.map_some, Option.map_none, Bool.false_eq_true, reduceCtorEq, beq_false, beq_true, g_true, g_false, mg_true, mg_false, Bool.not_true, Bool.not_false, decide_true, decide_false, not_true_eq_false, not_false_eq_true, List.nil_append, List.cons_append, List.append_nil, Option.isNone_some, Option.isNone_none, List.getElem?_cons_zero, List.getElem?_cons_succ, t27, hn, res_any]
  intro o ho
  rcases hL o ho with ⟨rfl, hp⟩ | ⟨p, y, hp, hnd, rfl, ia2, he⟩
  · simp only [wk_skip, wk_region, wk_seq, wk_block, wk_cond, wk_exit, wk_ret, wk_draw, cnd_true, cnd_false, fin_nil, fin_seq, fin_seq_exit, fin_seq_ret, fin_seq_panic, fin_block, fin_block_exit, fin_block_ret, fin_block_panic, fin_loop, fin_loop_exit, fin_loop_ret, fin_loop_panic, ops_nil, ops_cons, ops_guard, res_val, res_new, main_nil, main_cons, main_guard, mres_val, mres_new, AOp.ev, AOpd.ev, evAll, evParts, evOpt, put_get, put_none, wantA, ARes.ofOpt, tmOf, List.getD_cons_zero, List.getD_cons_succ, Nat.reduceEqDiff, if_true, if_false, reduceIte, Nat.reduceAdd, Nat.reduceMul, binA, intOp, eqOp, nilOf, lenA_slice, callA, AV.cells, undefA, Option.map_some, Option.map_none, Bool.false_eq_true, reduceCtorEq, beq_false, beq_true, g_true, g_false, mg_true, mg_false, Bool.not_true, Bool.not_false, decide_true, decide_false, not_true_eq_false, not_false_eq_true, List.nil_append, List.cons_append, List.append_nil, Option.isNone_some, Option.isNone_none, List.getElem?_cons_zero, List.getElem?_cons_succ, t3]
    have pos : obsOf os2 |>.Perm (obsOf os) := by
      have hlen := hp.length_eq
      have hn1 : (kvOf dn).Nodup := hp.nodup_iff.2 (nodup_of_map H.map.nodup)
      rw [hobs]
      have hndn : dn.Nodup := nodup_of_map hn1
      have hndo : os.Nodup := nodup_of_map (nodup_of_map H.map.nodup)
      have : dn.Perm os := perm_of_subset hndn hndo fun z => ⟨hdn z, fun hz => by
        have h1 : ((z.ob.name : Int), AV.ptr (some (z.blk, 0))) ∈ kvOf dn := hp.mem_iff.2 (List.mem_map.2 ⟨z, hz, rfl⟩)
        obtain ⟨w, hw, e⟩ := List.mem_map.1 h1
        have hnm : w.ob.name = z.ob.name := by have := congrArg Prod.fst e; simp at this; omega
        have hndm : (os.map fun o => o.ob.name).Nodup := by have := g.names; rw [obsOf, List.map_map] at this; exact this
        have := nodup_inj hndm (hdn w hw) hz hnm
        exact this ▸ hw⟩
      exact this.map _
    exact fnEnd_ret1 ⟨c, obsOf os2, ρ2, by simp [TM.put], m', pos, ⟨M2, used, least, os2, rfl, H', g.perm pos, O'⟩, hnew⟩
  · obtain ⟨z, hz, rfl⟩ := List.mem_map.1 hp
    have mi2 : ∀ d, d ≠ it → (h'.upd it y) d = h' d := fun d hd => AHeap.upd_other _ _ hd
    obtain ⟨H3, O3⟩ := H'.keep O' (h' := h'.upd it y) fun d hd => mi2 d fun e => hd (e ▸ hit2)
    have m3 : More h (h'.upd it y) := fun d hd => (mi2 d fun e => hd (e ▸ hith)).trans (m' d hd)
    have Hs := H.more m3
    generalize h'.upd it y = h4 at *
    have hzs := g.small (mem_obs hz)
    simp only [wk_skip, wk_region, wk_seq, wk_block, wk_cond, wk_exit, wk_ret, wk_draw, cnd_true, cnd_false, fin_nil, fin_seq, fin_seq_exit, fin_seq_ret, fin_seq_panic, fin_block, fin_block_exit, fin_block_ret, fin_block_panic, fin_loop, fin_loop_exit, fin_loop_ret, fin_loop_panic, ops_nil, ops_cons, ops_guard, res_val, res_new, main_nil, main_cons, main_guard, mres_val, mres_new, AOp.ev, AOpd.ev, evAll, evParts, evOpt, put_get, put_none, wantA, ARes.ofOpt, tmOf, List.getD_cons_zero, List.getD_cons_succ, Nat.reduceEqDiff, if_true, if_false, reduceIte, Nat.reduceAdd, Nat.reduceMul, binA, intOp, eqOp, nilOf, lenA_slice, callA, AV.cells, undefA, Option.map_some, Option.map_none, Bool.false_eq_true, reduceCtorEq, beq_false, beq_true, g_true, g_false, mg_true, mg_false, Bool.not_true, Bool.not_false, decide_true, decide_false, not_true_eq_false, not_false_eq_true, List.nil_append, List.cons_append, List.append_nil, Option.isNone_some, Option.isNone_none, List.getElem?_cons_zero, List.getElem?_cons_succ, t3, t27, he, nilCheck_ptr, H3.ld.1, (Hs.ob hz).1, (Hs.ob hz).2]
    refine mres_ret_more (clone39_c (Hs.cells z hz) (by simp; omega) (by simp [AV.oneCell])) (fun v h' G => G.more) ?_
    intro cv h5 d5 G5
    have Hs5 := Hs.more G5.more
    have hzr := g.same _ (mem_obs hz)
    simp only [wk_skip, wk_region, wk_seq, wk_block, wk_cond, wk_exit, wk_ret, wk_draw, cnd_true, cnd_false, fin_nil, fin_seq, fin_seq_exit, fin_seq_ret, fin_seq_panic, fin_block, fin_block_exit, fin_block_ret, fin_block_panic, fin_loop, fin_loop_exit, fin_loop_ret, fin_loop_panic, ops_nil, ops_cons, ops_guard, res_val, res_new, main_nil, main_cons, main_guard, mres_val, mres_new, AOp.ev, AOpd.ev, evAll, evParts, evOpt, put_get, put_none, wantA, ARes.ofOpt, tmOf, List.getD_cons_zero, List.getD_cons_succ, Nat.reduceEqDiff, if_true, if_false, reduceIte, Nat.reduceAdd, Nat.reduceMul, binA, intOp, eqOp, nilOf, lenA_slice, callA, AV.cells, undefA, Option.map_some, Option.map_none, Bool.false_eq_true, reduceCtorEq, beq_false, beq_true, g_true, g_false, mg_true, mg_false, Bool.not_true, Bool.not_false, decide_true, decide_false, not_true_eq_false, not_false_eq_true, List.nil_append, List.cons_append, List.append_nil, Option.isNone_some, Option.isNone_none, List.getElem?_cons_zero, List.getElem?_cons_succ]
    refine mres_ret_more (clone32_c (Hs5.refs z hz) (by simp; omega) (by simp [AV.oneCell])) (fun v h' G => G.more) ?_
    intro rv h6 d6 G6
    have hfill2 : fillA [.slice none 0 0 0 true, .slice none 0 0 0 true] [(0, 1, cv), (1, 1, rv)] = some [cv, rv] := by
      obtain ⟨p, sz', len, cap, ex, hrv, _⟩ := G5.at_.out
      obtain ⟨p', sz'', len', cap', ex', hrv', _⟩ := G6.at_.out
      rw [hrv, hrv']; rfl
    simp only [wk_skip, wk_region, wk_seq, wk_block, wk_cond, wk_exit, wk_ret, wk_draw, cnd_true, cnd_false, fin_nil, fin_seq, fin_seq_exit, fin_seq_ret, fin_seq_panic, fin_block, fin_block_exit, fin_block_ret, fin_block_panic, fin_loop, fin_loop_exit, fin_loop_ret, fin_loop_panic, ops_nil, ops_cons, ops_guard, res_val, res_new, main_nil, main_cons, main_guard, mres_val, mres_new, AOp.ev, AOpd.ev, evAll, evParts, evOpt, put_get, put_none, wantA, ARes.ofOpt, tmOf, List.getD_cons_zero, List.getD_cons_succ, Nat.reduceEqDiff, if_true, if_false, reduceIte, Nat.reduceAdd, Nat.reduceMul, binA, intOp, eqOp, nilOf, lenA_slice, callA, AV.cells, undefA, Option.map_some, Option.map_none, Bool.false_eq_true, reduceCtorEq, beq_false, beq_true, g_true, g_false, mg_true, mg_false, Bool.not_true, Bool.not_false, decide_true, decide_false, not_true_eq_false, not_false_eq_true, List.nil_append, List.cons_append, List.append_nil, Option.isNone_some, Option.isNone_none, List.getElem?_cons_zero, List.getElem?_cons_succ, hfill2]
    intro ab hab
    have mab := More.upd hab (.cells [cv, rv] false)
    have m46 := G5.more.trans G6.more
    have m47 := m46.trans mab
    have hno : ∀ o ∈ os2, (o.ob.name : Int) ≠ z.ob.name := fun o ho e => by
      have : o.ob ∈ obsOf dn := by rw [← hobs]; exact mem_obs ho
      obtain ⟨w, hw, e2⟩ := of_obs this
      have hnm : w.ob.name = z.ob.name := by rw [e2]; omega
      have hndm : (os.map fun o => o.ob.name).Nodup := by have := g.names; rw [obsOf, List.map_map] at this; exact this
      have := nodup_inj hndm (hdn w hw) hz hnm
      exact hnd (List.mem_map.2 ⟨w, hw, by rw [this]⟩)
    have ocv : ∀ d, blkOf cv = some d → h4 d = none ∧ d ≠ ab ∧ ∃ ds, (h6.upd ab (.cells [cv, rv] false)) d = some (.cells ds false) := fun d hd => by
      obtain ⟨q1, ds, q2⟩ := G5.own d hd
      have q3 := G6.more.at_ q2
      refine ⟨q1, fun e => ?_, ds, mab.at_ q3⟩
      rw [e, hab] at q3; cases q3
    have orv : ∀ d, blkOf rv = some d → h4 d = none ∧ d ≠ ab ∧ blkOf cv ≠ some d := fun d hd => by
      obtain ⟨q1, ds, q2⟩ := G6.own d hd
      refine ⟨G5.more.none_ q1, fun e => ?_, fun e => ?_⟩
      · rw [e, hab] at q2; cases q2
      · obtain ⟨_, ds', q3⟩ := G5.own d e
        rw [q1] at q3; cases q3
    obtain ⟨w, e1, ρ3, H7, O7, hmine⟩ := H3.add O3 m47 (x := ⟨z.ob, ab, cv, rv⟩) hno (m46.none_ hab) (AHeap.upd_same _ _ _) (slice_more G5.at_ (G6.more.trans mab)) (slice_more G6.at_ mab) ocv orv
    have itn : h4 it ≠ none := ia2.iter
    have hM2M : M2 ≠ M := fun e => H.map.some_ (e ▸ hM2)
    have hM2it : M2 ≠ it := fun e => by have := O3.map; rw [e, hit2] at this; cases this
    simp only [wk_skip, wk_region, wk_seq, wk_block, wk_cond, wk_exit, wk_ret, wk_draw, cnd_true, cnd_false, fin_nil, fin_seq, fin_seq_exit, fin_seq_ret, fin_seq_panic, fin_block, fin_block_exit, fin_block_ret, fin_block_panic, fin_loop, fin_loop_exit, fin_loop_ret, fin_loop_panic, ops_nil, ops_cons, ops_guard, res_val, res_new, main_nil, main_cons, main_guard, mres_val, mres_new, AOp.ev, AOpd.ev, evAll, evParts, evOpt, put_get, put_none, wantA, ARes.ofOpt, tmOf, List.getD_cons_zero, List.getD_cons_succ, Nat.reduceEqDiff, if_true, if_false, reduceIte, Nat.reduceAdd, Nat.reduceMul, binA, intOp, eqOp, nilOf, lenA_slice, callA, AV.cells, undefA, Option.map_some, Option.map_none, Bool.false_eq_true, reduceCtorEq, beq_false, beq_true, g_true, g_false, mg_true, mg_false, Bool.not_true, Bool.not_false, decide_true, decide_false, not_true_eq_false, not_false_eq_true, List.nil_append, List.cons_append, List.append_nil, Option.isNone_some, Option.isNone_none, List.getElem?_cons_zero, List.getElem?_cons_succ, e1]
    have iaf : ItAt ((h6.upd ab (.cells [cv, rv] false)).upd M2 w) it M (kvOf os) (kvOf dn ++ [((z.ob.name : Int), .ptr (some (z.blk, 0)))]) :=
      ia2.keep ((AHeap.upd_other _ _ fun e => hM2M e.symm).trans (m47 M ia2.imap.some_)) ((AHeap.upd_other _ _ fun e => hM2it e.symm).trans (m47 it itn))
    have hlen := it_len iaf
    have hkd : kvOf (dn ++ [z]) = kvOf dn ++ [((z.ob.name : Int), .ptr (some (z.blk, 0)))] := by simp [kvOf]
    simp only [List.length_append, List.length_cons, List.length_nil, kvOf, List.length_map] at hlen
    refine meet ⟨k - 1, by omega, rfl, by simp [TM.put, t3], by simp [TM.put, t27], fun d hd => ?_, dn ++ [z], os2 ++ [⟨z.ob, ab, cv, rv⟩], ρ3, by simp; omega, by rw [hkd]; exact iaf, fun o ho => ?_, by simp [obsOf] at hobs ⊢; exact hobs, H7, O7, fun d hd => ?_, ?_⟩
    · have : d ≠ M2 := fun e => hd (e ▸ hM2)
      exact (AHeap.upd_other _ _ this).trans ((m3.trans m47) d hd)
    · rcases List.mem_append.1 ho with h | h
      · exact hdn o h
      · simp at h; subst h; exact hz
    · rcases hmine d hd with h | ⟨h, _⟩
      · exact hnew d h
      · exact m3.none_ h
    · by_cases e : ρ3 it = 0
      · exact e
      · rcases hmine it e with h | ⟨h, _⟩
        · exact absurd hit2 h
        · exact absurd h itn
end Go.Proofs.Ytnkdjfmidiffdaa
