/-
  Part of the proofs about the heap: an abstract memory, its compiled code, and the contracts of the functions over it.
  Conditions: each theorem names its own.
-/
import Derived.Test.YtnkdjfmidiffdaaH6
set_option linter.unusedSimpArgs false
set_option linter.unusedVariables false
namespace Go.Proofs.Ytnkdjfmidiffdaa
open Go Go.Proofs Go.Am
variable {N : Nat}

/-- What 'Reach' of the list answers, told by the objects alone. -/
def ReachN (h h' : AHeap) (l : List Ob) (roots : List Int) (v : AV) (e : Int) : Prop :=
  (¬ KnownN l roots ∧ e = 15 ∧ Grown h h' 1 v []) ∨
  (KnownN l roots ∧ e = 0 ∧ ∃ m : List Int, Grown h h' 1 v (m.map (.int .i64)) ∧ m.Pairwise (· < ·) ∧ m.length ≤ 65536 ∧ ∀ n : Int, n ∈ m ↔ ∃ k : Nat, n = k ∧ RchN l roots k)
theorem ReachN.grown {h h' : AHeap} {l : List Ob} {roots : List Int} {v : AV} {e : Int} (r : ReachN h h' l roots v e) : ∃ m : List Int, Grown h h' 1 v (m.map (.int .i64)) ∧ m.length ≤ 65536 := by
  rcases r with ⟨_, _, G⟩ | ⟨_, _, m, G, _, hl, _⟩
  · exact ⟨[], G, by simp⟩
  · exact ⟨m, G, hl⟩

theorem picked_said {lo : List Ob} {xs : List Row} (p : lo.Perm (obR xs)) {B u le : Int} (g : HGood B u le lo) (hs : (xs.map fun x => x.1.name).Pairwise (· < ·)) {roots : List Int} {on : List Bool} (ho : on.length = xs.length) (hon : ∀ k, on[k]? = some true ↔ Rch xs roots k) (few : xs.length ≤ 65536) :
    (picked xs on).Pairwise (· < ·) ∧ (picked xs on).length ≤ 65536 ∧ ∀ n : Int, n ∈ picked xs on ↔ ∃ k : Nat, n = k ∧ RchN lo roots k := by
  have hpk : picked xs on = namesOf (obR (kept xs on)) := by simp [picked, namesOf, kept]
  refine ⟨?_, ?_, fun n => ?_⟩
  · rw [hpk]
    have : namesOf (obR (kept xs on)) = ((kept xs on).map fun x => x.1.name).map fun n : Nat => (n : Int) := by simp [namesOf]
    rw [this, List.pairwise_map]
    exact (hs.sublist ((kept_sublist ho).map _)).imp fun h => by omega
  · unfold picked
    rw [List.length_map]
    refine Nat.le_trans (List.length_filter_le _ _) ?_
    simp; omega
  · constructor
    · intro hn
      unfold picked at hn
      obtain ⟨q, hq, rfl⟩ := List.mem_map.1 hn
      obtain ⟨q1, q2⟩ := List.mem_filter.1 hq
      obtain ⟨i, hi, e⟩ := List.mem_iff_getElem.1 q1
      simp only [List.length_zip] at hi
      rw [List.getElem_zip] at e
      subst e
      refine ⟨_, rfl, (rch_perm p g).2 ⟨i, by omega, rfl, (hon i).1 ?_⟩⟩
      rw [List.getElem?_eq_getElem (by omega)]; exact congrArg some q2
    · rintro ⟨k, rfl, hk⟩
      obtain ⟨i, hi, rfl, hik⟩ := (rch_perm p g).1 hk
      have hoi := (hon i).2 hik
      rw [hpk]
      refine List.mem_map.2 ⟨xs[i].1, obR_mem.2 ⟨xs[i], ?_, rfl⟩, rfl⟩
      obtain ⟨hi2, e⟩ := List.getElem?_eq_some_iff.1 hoi
      exact List.mem_map.2 ⟨(xs[i], on[i]), List.mem_filter.2 ⟨List.mem_iff_getElem.2 ⟨i, by simp; omega, by simp⟩, e⟩, rfl⟩

theorem reach_r {h0 h : AHeap} {hb wb : Nat} {B : Int} {lo : List Ob} {xs : List Row} {ρ1 ρ2 : Nat → Nat} (b : Both h0 h hb wb B lo xs ρ1 ρ2) {v : AV} {roots : List Int} (H : Ints h v roots) (hl : roots.length ≤ 4000000000) :
    ARets Try.prog N 11 [.ptr (some (wb, 0)), v] h fun r h' => ∃ u er, r = .tuple [u, .int .i64 er] ∧ ReachN h h' lo roots u er := by
  obtain ⟨used, least, g⟩ := b.heap.good
  obtain ⟨L, W, O⟩ := b.ref
  refine (reach_c W H (by omega) O.sorted).mono ?_
  rintro e h' ⟨u, er, rfl, hr⟩
  refine ⟨u, er, rfl, ?_⟩
  rcases hr with ⟨k1, rfl, rfl, rfl⟩ | ⟨k1, rfl, on, ho, hon, G⟩
  · exact .inl ⟨fun h => k1 ((known_perm b.same).1 h), rfl, Grown.nil (.refl _) 1 0 true⟩
  · obtain ⟨p1, p2, p3⟩ := picked_said b.same g O.sorted ho hon W.few
    exact .inr ⟨(known_perm b.same).2 k1, rfl, _, G, p1, p2, p3⟩

/-! ### What is reached once is reached again. -/
theorem known_live {l : List Ob} {roots : List Int} (h : KnownN l roots) : KnownN (liveOb l roots) roots := fun r hr => by
  rcases h r hr with h | ⟨o, ho, e⟩
  · exact .inl h
  · exact .inr ⟨o, mem_live.2 ⟨ho, .root o ho (by rw [e]; exact hr)⟩, e⟩
open Classical in
theorem live_live {l : List Ob} {roots : List Int} : liveOb (liveOb l roots) roots = liveOb l roots := by
  have key : ∀ k, RchN l roots k → RchN (liveOb l roots) roots k := fun k h => by
    induction h with
    | root o ho hr => exact .root o (mem_live.2 ⟨ho, .root o ho hr⟩) hr
    | step o o' j h ho ho' hr hc ih => exact .step o o' j ih (mem_live.2 ⟨ho, h⟩) (mem_live.2 ⟨ho', .step o o' j h ho ho' hr hc⟩) hr hc
  unfold liveOb
  rw [List.filter_eq_self]
  intro o ho
  exact decide_eq_true (key _ (mem_live.1 (show o ∈ liveOb l roots from ho)).2)
theorem names_live {l : List Ob} {B u le : Int} (g : HGood B u le l) {roots m : List Int} (h1 : m.Pairwise (· < ·)) (h2 : ∀ n : Int, n ∈ m ↔ ∃ k : Nat, n = k ∧ RchN l roots k) : srt (namesOf (liveOb l roots)) = m := by
  have nd : (namesOf (liveOb l roots)).Nodup := names_nodup (g.names.sublist ((List.filter_sublist).map _))
  have rn : ∀ k, RchN l roots k → ∃ o ∈ l, o.name = k := fun k h => by
    cases h with
    | root o ho _ => exact ⟨o, ho, rfl⟩
    | step o o' j _ _ ho' _ _ => exact ⟨o', ho', rfl⟩
  refine rising_eq (srt_strict nd) h1 fun n => ?_
  rw [srt_mem, h2]
  constructor
  · intro h
    obtain ⟨o, ho, rfl⟩ := List.mem_map.1 h
    exact ⟨_, rfl, (mem_live.1 ho).2⟩
  · rintro ⟨k, rfl, hk⟩
    obtain ⟨o, ho, rfl⟩ := rn k hk
    exact List.mem_map.2 ⟨o, mem_live.2 ⟨ho, hk⟩, rfl⟩

/-- HeapTwice. -/
theorem twice_c {h0 : AHeap} (cells : Int) {av rv : AV} {acts : List ActD} {roots : List Int} (A : ActsAt h0 av acts) (Sr : RSlice h0 1 rv (roots.map (.int .i64))) (hlr : roots.length ≤ 2000000) : ARets Try.prog N 6 [.int .i64 cells, av, rv] h0 fun r _ => r = .bool true := by
  refine acalls_of_wp c6_ok mixed (by show 3 ≤ 102; decide) (wk_start ?_)
  unfold c6
  simp only [wk_skip, wk_region, wk_seq, wk_block, wk_cond, wk_exit, wk_ret, wk_draw, cnd_true, cnd_false, fin_nil, fin_seq, fin_seq_exit, fin_seq_ret, fin_seq_panic, fin_block, fin_block_exit, fin_block_ret, fin_block_panic, fin_loop, fin_loop_exit, fin_loop_ret, fin_loop_panic, ops_nil, ops_cons, ops_guard, res_val, res_new, main_nil, main_cons, main_guard, mres_val, mres_new, AOp.ev, AOpd.ev, evAll, evParts, evOpt, put_get, put_none, wantA, ARes.ofOpt, tmOf, List.getD_cons_zero, List.getD_cons_succ, Nat.reduceEqDiff, if_true, if_false, reduceIte, Nat.reduceAdd, Nat.reduceMul, binA, intOp, eqOp, nilOf, lenA_slice, callA, AV.cells, undefA, Option.map_some, Option.map_none, Bool.false_eq_true, reduceCtorEq, beq_false, beq_true, g_true, g_false, mg_true, mg_false, Bool.not_true, Bool.not_false, decide_true, decide_false, not_true_eq_false, not_false_eq_true, List.nil_append, List.cons_append, List.append_nil, Option.isNone_some, Option.isNone_none, List.getElem?_cons_zero, List.getElem?_cons_succ]
  refine res_ret (grown9_c cells A) ?_
  rintro r h1 d1 ⟨hb, wb, B, rfl, hB, lo, xs, ρ1, ρ2, b1⟩
  simp only [wk_skip, wk_region, wk_seq, wk_block, wk_cond, wk_exit, wk_ret, wk_draw, cnd_true, cnd_false, fin_nil, fin_seq, fin_seq_exit, fin_seq_ret, fin_seq_panic, fin_block, fin_block_exit, fin_block_ret, fin_block_panic, fin_loop, fin_loop_exit, fin_loop_ret, fin_loop_panic, ops_nil, ops_cons, ops_guard, res_val, res_new, main_nil, main_cons, main_guard, mres_val, mres_new, AOp.ev, AOpd.ev, evAll, evParts, evOpt, put_get, put_none, wantA, ARes.ofOpt, tmOf, List.getD_cons_zero, List.getD_cons_succ, Nat.reduceEqDiff, if_true, if_false, reduceIte, Nat.reduceAdd, Nat.reduceMul, binA, intOp, eqOp, nilOf, lenA_slice, callA, AV.cells, undefA, Option.map_some, Option.map_none, Bool.false_eq_true, reduceCtorEq, beq_false, beq_true, g_true, g_false, mg_true, mg_false, Bool.not_true, Bool.not_false, decide_true, decide_false, not_true_eq_false, not_false_eq_true, List.nil_append, List.cons_append, List.append_nil, Option.isNone_some, Option.isNone_none, List.getElem?_cons_zero, List.getElem?_cons_succ]
  refine res_ret answers10_c ?_
  rintro r h2 d2 ⟨rfl, m2⟩
  have b2 := b1.more m2
  have d02 := d1.trans d2
  simp only [wk_skip, wk_region, wk_seq, wk_block, wk_cond, wk_exit, wk_ret, wk_draw, cnd_true, cnd_false, fin_nil, fin_seq, fin_seq_exit, fin_seq_ret, fin_seq_panic, fin_block, fin_block_exit, fin_block_ret, fin_block_panic, fin_loop, fin_loop_exit, fin_loop_ret, fin_loop_panic, ops_nil, ops_cons, ops_guard, res_val, res_new, main_nil, main_cons, main_guard, mres_val, mres_new, AOp.ev, AOpd.ev, evAll, evParts, evOpt, put_get, put_none, wantA, ARes.ofOpt, tmOf, List.getD_cons_zero, List.getD_cons_succ, Nat.reduceEqDiff, if_true, if_false, reduceIte, Nat.reduceAdd, Nat.reduceMul, binA, intOp, eqOp, nilOf, lenA_slice, callA, AV.cells, undefA, Option.map_some, Option.map_none, Bool.false_eq_true, reduceCtorEq, beq_false, beq_true, g_true, g_false, mg_true, mg_false, Bool.not_true, Bool.not_false, decide_true, decide_false, not_true_eq_false, not_false_eq_true, List.nil_append, List.cons_append, List.append_nil, Option.isNone_some, Option.isNone_none, List.getElem?_cons_zero, List.getElem?_cons_succ]
  refine res_ret (reach_r b2 (Sr.dom d02).at_ (by omega)) ?_
  rintro r h3 d3 ⟨lv, le, rfl, hr⟩
  obtain ⟨ms, Gm, hml⟩ := hr.grown
  have b3 := b2.more Gm.more
  have lvo : ∀ c, blkOf lv = some c → ρ1 c = 0 ∧ ρ2 c = 0 := fun c hc => b2.free' (Gm.own c hc).1
  simp only [wk_skip, wk_region, wk_seq, wk_block, wk_cond, wk_exit, wk_ret, wk_draw, cnd_true, cnd_false, fin_nil, fin_seq, fin_seq_exit, fin_seq_ret, fin_seq_panic, fin_block, fin_block_exit, fin_block_ret, fin_block_panic, fin_loop, fin_loop_exit, fin_loop_ret, fin_loop_panic, ops_nil, ops_cons, ops_guard, res_val, res_new, main_nil, main_cons, main_guard, mres_val, mres_new, AOp.ev, AOpd.ev, evAll, evParts, evOpt, put_get, put_none, wantA, ARes.ofOpt, tmOf, List.getD_cons_zero, List.getD_cons_succ, Nat.reduceEqDiff, if_true, if_false, reduceIte, Nat.reduceAdd, Nat.reduceMul, binA, intOp, eqOp, nilOf, lenA_slice, callA, AV.cells, undefA, Option.map_some, Option.map_none, Bool.false_eq_true, reduceCtorEq, beq_false, beq_true, g_true, g_false, mg_true, mg_false, Bool.not_true, Bool.not_false, decide_true, decide_false, not_true_eq_false, not_false_eq_true, List.nil_append, List.cons_append, List.append_nil, Option.isNone_some, Option.isNone_none, List.getElem?_cons_zero, List.getElem?_cons_succ]
  refine res_ret (ints13_c (Sr.dom (d02.trans d3)).at_ (by simp; omega) (by simp [AV.oneCell])) ?_
  intro w h4 d4 G4
  have b4 := b3.more G4.more
  simp only [wk_skip, wk_region, wk_seq, wk_block, wk_cond, wk_exit, wk_ret, wk_draw, cnd_true, cnd_false, fin_nil, fin_seq, fin_seq_exit, fin_seq_ret, fin_seq_panic, fin_block, fin_block_exit, fin_block_ret, fin_block_panic, fin_loop, fin_loop_exit, fin_loop_ret, fin_loop_panic, ops_nil, ops_cons, ops_guard, res_val, res_new, main_nil, main_cons, main_guard, mres_val, mres_new, AOp.ev, AOpd.ev, evAll, evParts, evOpt, put_get, put_none, wantA, ARes.ofOpt, tmOf, List.getD_cons_zero, List.getD_cons_succ, Nat.reduceEqDiff, if_true, if_false, reduceIte, Nat.reduceAdd, Nat.reduceMul, binA, intOp, eqOp, nilOf, lenA_slice, callA, AV.cells, undefA, Option.map_some, Option.map_none, Bool.false_eq_true, reduceCtorEq, beq_false, beq_true, g_true, g_false, mg_true, mg_false, Bool.not_true, Bool.not_false, decide_true, decide_false, not_true_eq_false, not_false_eq_true, List.nil_append, List.cons_append, List.append_nil, Option.isNone_some, Option.isNone_none, List.getElem?_cons_zero, List.getElem?_cons_succ]
  refine res_ret (collect22_c b4.heap G4.at_ (by omega)) ?_
  rintro r h5 d5 ⟨n1, e1, rfl, off5, hc1⟩
  have S5 := slice_off off5 (slice_more Gm.at_ G4.more) fun c hc => (lvo c hc).1
  have W5 := b4.ref.keep (h' := h5) fun c hc => off5 c ((b4.apart c).resolve_right hc) (b4.ref.dom c hc)
  simp only [wk_skip, wk_region, wk_seq, wk_block, wk_cond, wk_exit, wk_ret, wk_draw, cnd_true, cnd_false, fin_nil, fin_seq, fin_seq_exit, fin_seq_ret, fin_seq_panic, fin_block, fin_block_exit, fin_block_ret, fin_block_panic, fin_loop, fin_loop_exit, fin_loop_ret, fin_loop_panic, ops_nil, ops_cons, ops_guard, res_val, res_new, main_nil, main_cons, main_guard, mres_val, mres_new, AOp.ev, AOpd.ev, evAll, evParts, evOpt, put_get, put_none, wantA, ARes.ofOpt, tmOf, List.getD_cons_zero, List.getD_cons_succ, Nat.reduceEqDiff, if_true, if_false, reduceIte, Nat.reduceAdd, Nat.reduceMul, binA, intOp, eqOp, nilOf, lenA_slice, callA, AV.cells, undefA, Option.map_some, Option.map_none, Bool.false_eq_true, reduceCtorEq, beq_false, beq_true, g_true, g_false, mg_true, mg_false, Bool.not_true, Bool.not_false, decide_true, decide_false, not_true_eq_false, not_false_eq_true, List.nil_append, List.cons_append, List.append_nil, Option.isNone_some, Option.isNone_none, List.getElem?_cons_zero, List.getElem?_cons_succ]
  refine res_ret (ints13_c (Sr.dom (d02.trans ((d3.trans d4).trans d5))).at_ (by simp; omega) (by simp [AV.oneCell])) ?_
  intro w2 h6 d6 G6
  obtain ⟨l5, R5, hcc⟩ : ∃ l5, HRep h5 hb B l5 ρ1 ∧ ((¬ KnownN lo roots ∧ n1 = 0 ∧ e1 = 15 ∧ l5 = lo) ∨ (KnownN lo roots ∧ e1 = 0 ∧ n1 = (lo.length : Int) - (liveOb lo roots).length ∧ l5 = liveOb lo roots)) := by
    rcases hc1 with ⟨h1, h2, h3, h4⟩ | ⟨h1, h2, h3, h4⟩
    · exact ⟨_, h4, .inl ⟨h1, h2, h3, rfl⟩⟩
    · exact ⟨_, h4, .inr ⟨h1, h2, h3, rfl⟩⟩
  have R6 := R5.keep (h' := h6) fun c hc => G6.more c (R5.dom c hc)
  simp only [wk_skip, wk_region, wk_seq, wk_block, wk_cond, wk_exit, wk_ret, wk_draw, cnd_true, cnd_false, fin_nil, fin_seq, fin_seq_exit, fin_seq_ret, fin_seq_panic, fin_block, fin_block_exit, fin_block_ret, fin_block_panic, fin_loop, fin_loop_exit, fin_loop_ret, fin_loop_panic, ops_nil, ops_cons, ops_guard, res_val, res_new, main_nil, main_cons, main_guard, mres_val, mres_new, AOp.ev, AOpd.ev, evAll, evParts, evOpt, put_get, put_none, wantA, ARes.ofOpt, tmOf, List.getD_cons_zero, List.getD_cons_succ, Nat.reduceEqDiff, if_true, if_false, reduceIte, Nat.reduceAdd, Nat.reduceMul, binA, intOp, eqOp, nilOf, lenA_slice, callA, AV.cells, undefA, Option.map_some, Option.map_none, Bool.false_eq_true, reduceCtorEq, beq_false, beq_true, g_true, g_false, mg_true, mg_false, Bool.not_true, Bool.not_false, decide_true, decide_false, not_true_eq_false, not_false_eq_true, List.nil_append, List.cons_append, List.append_nil, Option.isNone_some, Option.isNone_none, List.getElem?_cons_zero, List.getElem?_cons_succ]
  refine res_ret (collect22_c R6 G6.at_ (by omega)) ?_
  rintro r h7 d7 ⟨n2, e2, rfl, off7, hc2⟩
  have S7 := slice_off off7 (slice_more S5 G6.more) fun c hc => (lvo c hc).1
  have W6 := W5.keep (h' := h6) fun c hc => G6.more c (W5.dom c hc)
  have W7 := W6.keep (h' := h7) fun c hc => off7 c ((b4.apart c).resolve_right hc) (W6.dom c hc)
  obtain ⟨l7, R7, hcc2⟩ : ∃ l7, HRep h7 hb B l7 ρ1 ∧ ((¬ KnownN l5 roots ∧ n2 = 0 ∧ e2 = 15 ∧ l7 = l5) ∨ (KnownN l5 roots ∧ e2 = 0 ∧ n2 = (l5.length : Int) - (liveOb l5 roots).length ∧ l7 = liveOb l5 roots)) := by
    rcases hc2 with ⟨h1, h2, h3, h4⟩ | ⟨h1, h2, h3, h4⟩
    · exact ⟨_, h4, .inl ⟨h1, h2, h3, rfl⟩⟩
    · exact ⟨_, h4, .inr ⟨h1, h2, h3, rfl⟩⟩
  obtain ⟨M, us, lst, os, e7, H7, g7, O7⟩ := id R7
  simp only [wk_skip, wk_region, wk_seq, wk_block, wk_cond, wk_exit, wk_ret, wk_draw, cnd_true, cnd_false, fin_nil, fin_seq, fin_seq_exit, fin_seq_ret, fin_seq_panic, fin_block, fin_block_exit, fin_block_ret, fin_block_panic, fin_loop, fin_loop_exit, fin_loop_ret, fin_loop_panic, ops_nil, ops_cons, ops_guard, res_val, res_new, main_nil, main_cons, main_guard, mres_val, mres_new, AOp.ev, AOpd.ev, evAll, evParts, evOpt, put_get, put_none, wantA, ARes.ofOpt, tmOf, List.getD_cons_zero, List.getD_cons_succ, Nat.reduceEqDiff, if_true, if_false, reduceIte, Nat.reduceAdd, Nat.reduceMul, binA, intOp, eqOp, nilOf, lenA_slice, callA, AV.cells, undefA, Option.map_some, Option.map_none, Bool.false_eq_true, reduceCtorEq, beq_false, beq_true, g_true, g_false, mg_true, mg_false, Bool.not_true, Bool.not_false, decide_true, decide_false, not_true_eq_false, not_false_eq_true, List.nil_append, List.cons_append, List.append_nil, Option.isNone_some, Option.isNone_none, List.getElem?_cons_zero, List.getElem?_cons_succ]
  refine res_ret (names23_c H7 (by rw [e7]; exact g7)) ?_
  rintro r h8 d8 ⟨nv, rfl, m8, S8⟩
  rw [e7] at S8
  have S8' := slice_more S7 m8
  obtain ⟨us0, lst0, g0⟩ := b2.heap.good
  simp only [wk_skip, wk_region, wk_seq, wk_block, wk_cond, wk_exit, wk_ret, wk_draw, cnd_true, cnd_false, fin_nil, fin_seq, fin_seq_exit, fin_seq_ret, fin_seq_panic, fin_block, fin_block_exit, fin_block_ret, fin_block_panic, fin_loop, fin_loop_exit, fin_loop_ret, fin_loop_panic, ops_nil, ops_cons, ops_guard, res_val, res_new, main_nil, main_cons, main_guard, mres_val, mres_new, AOp.ev, AOpd.ev, evAll, evParts, evOpt, put_get, put_none, wantA, ARes.ofOpt, tmOf, List.getD_cons_zero, List.getD_cons_succ, Nat.reduceEqDiff, if_true, if_false, reduceIte, Nat.reduceAdd, Nat.reduceMul, binA, intOp, eqOp, nilOf, lenA_slice, callA, AV.cells, undefA, Option.map_some, Option.map_none, Bool.false_eq_true, reduceCtorEq, beq_false, beq_true, g_true, g_false, mg_true, mg_false, Bool.not_true, Bool.not_false, decide_true, decide_false, not_true_eq_false, not_false_eq_true, List.nil_append, List.cons_append, List.append_nil, Option.isNone_some, Option.isNone_none, List.getElem?_cons_zero, List.getElem?_cons_succ]
  rcases hr with ⟨k1, rfl, G⟩ | ⟨k1, rfl, m, G, hs, hml', hm⟩
  · obtain ⟨rfl, rfl, rfl⟩ : n1 = 0 ∧ e1 = 15 ∧ l5 = lo := by
      rcases hcc with ⟨_, h1, h2, h3⟩ | ⟨h, _⟩
      · exact ⟨h1, h2, h3⟩
      · exact absurd h k1
    obtain ⟨rfl, rfl⟩ : n2 = 0 ∧ e2 = 15 := by
      rcases hcc2 with ⟨_, h1, h2, h3⟩ | ⟨h, _⟩
      · exact ⟨h1, h2⟩
      · exact absurd h k1
    simp only [wk_skip, wk_region, wk_seq, wk_block, wk_cond, wk_exit, wk_ret, wk_draw, cnd_true, cnd_false, fin_nil, fin_seq, fin_seq_exit, fin_seq_ret, fin_seq_panic, fin_block, fin_block_exit, fin_block_ret, fin_block_panic, fin_loop, fin_loop_exit, fin_loop_ret, fin_loop_panic, ops_nil, ops_cons, ops_guard, res_val, res_new, main_nil, main_cons, main_guard, mres_val, mres_new, AOp.ev, AOpd.ev, evAll, evParts, evOpt, put_get, put_none, wantA, ARes.ofOpt, tmOf, List.getD_cons_zero, List.getD_cons_succ, Nat.reduceEqDiff, if_true, if_false, reduceIte, Nat.reduceAdd, Nat.reduceMul, binA, intOp, eqOp, nilOf, lenA_slice, callA, AV.cells, undefA, Option.map_some, Option.map_none, Bool.false_eq_true, reduceCtorEq, beq_false, beq_true, g_true, g_false, mg_true, mg_false, Bool.not_true, Bool.not_false, decide_true, decide_false, not_true_eq_false, not_false_eq_true, List.nil_append, List.cons_append, List.append_nil, Option.isNone_some, Option.isNone_none, List.getElem?_cons_zero, List.getElem?_cons_succ, Int.reduceEq]
    exact fnEnd_ret1 (by simp [TM.put])
  · obtain ⟨hn1, rfl, rfl⟩ : n1 = (lo.length : Int) - (liveOb lo roots).length ∧ e1 = 0 ∧ l5 = liveOb lo roots := by
      rcases hcc with ⟨h, _⟩ | ⟨_, h1, h2, h3⟩
      · exact absurd k1 h
      · exact ⟨h2, h1, h3⟩
    obtain ⟨rfl, rfl, rfl⟩ : n2 = 0 ∧ e2 = 0 ∧ l7 = liveOb lo roots := by
      rcases hcc2 with ⟨h, _⟩ | ⟨_, h1, h2, h3⟩
      · exact absurd (known_live k1) h
      · rw [live_live] at h2 h3
        exact ⟨by omega, h1, h3⟩
    have hnm := names_live g0 hs hm
    have hlen : (liveOb lo roots).length = m.length := by rw [← hnm, (srt_perm _).length_eq]; simp [namesOf]
    have hlo := b4.same.length_eq
    simp only [List.length_map] at hlo
    rw [hnm] at S8
    have Gm' : SliceAt h8 1 lv (m.map (.int .i64)) := slice_more (slice_off off7 (slice_more (slice_off off5 (slice_more G.at_ G4.more) fun c hc => (lvo c hc).1) G6.more) fun c hc => (lvo c hc).1) m8
    obtain ⟨L, W, O⟩ := W7
    have W8 := W.more m8
    have few := W8.few
    have lm := Gm'.len m.length (by simp) (by omega)
    have wr : IntKind.i64.wrap ((xs.length : Int) - (m.length : Int)) = (xs.length : Int) - (m.length : Int) := wrap64 (by omega) (by omega)
    rw [hlo, hlen] at hn1
    subst hn1
    simp only [wk_skip, wk_region, wk_seq, wk_block, wk_cond, wk_exit, wk_ret, wk_draw, cnd_true, cnd_false, fin_nil, fin_seq, fin_seq_exit, fin_seq_ret, fin_seq_panic, fin_block, fin_block_exit, fin_block_ret, fin_block_panic, fin_loop, fin_loop_exit, fin_loop_ret, fin_loop_panic, ops_nil, ops_cons, ops_guard, res_val, res_new, main_nil, main_cons, main_guard, mres_val, mres_new, AOp.ev, AOpd.ev, evAll, evParts, evOpt, put_get, put_none, wantA, ARes.ofOpt, tmOf, List.getD_cons_zero, List.getD_cons_succ, Nat.reduceEqDiff, if_true, if_false, reduceIte, Nat.reduceAdd, Nat.reduceMul, binA, intOp, eqOp, nilOf, lenA_slice, callA, AV.cells, undefA, Option.map_some, Option.map_none, Bool.false_eq_true, reduceCtorEq, beq_false, beq_true, g_true, g_false, mg_true, mg_false, Bool.not_true, Bool.not_false, decide_true, decide_false, not_true_eq_false, not_false_eq_true, List.nil_append, List.cons_append, List.append_nil, Option.isNone_some, Option.isNone_none, List.getElem?_cons_zero, List.getElem?_cons_succ, nilCheck_ptr, W8.ld0, W8.len, lm, wr]
    refine res_ret (same18_c S8 Gm' (by omega) (by omega)) ?_
    rintro r h9 d9 ⟨rfl, rfl⟩
    simp only [wk_skip, wk_region, wk_seq, wk_block, wk_cond, wk_exit, wk_ret, wk_draw, cnd_true, cnd_false, fin_nil, fin_seq, fin_seq_exit, fin_seq_ret, fin_seq_panic, fin_block, fin_block_exit, fin_block_ret, fin_block_panic, fin_loop, fin_loop_exit, fin_loop_ret, fin_loop_panic, ops_nil, ops_cons, ops_guard, res_val, res_new, main_nil, main_cons, main_guard, mres_val, mres_new, AOp.ev, AOpd.ev, evAll, evParts, evOpt, put_get, put_none, wantA, ARes.ofOpt, tmOf, List.getD_cons_zero, List.getD_cons_succ, Nat.reduceEqDiff, if_true, if_false, reduceIte, Nat.reduceAdd, Nat.reduceMul, binA, intOp, eqOp, nilOf, lenA_slice, callA, AV.cells, undefA, Option.map_some, Option.map_none, Bool.false_eq_true, reduceCtorEq, beq_false, beq_true, g_true, g_false, mg_true, mg_false, Bool.not_true, Bool.not_false, decide_true, decide_false, not_true_eq_false, not_false_eq_true, List.nil_append, List.cons_append, List.append_nil, Option.isNone_some, Option.isNone_none, List.getElem?_cons_zero, List.getElem?_cons_succ]
    exact fnEnd_ret1 (by simp [TM.put])
end Go.Proofs.Ytnkdjfmidiffdaa
