/-
  Part of the proofs about the heap: an abstract memory, its compiled code, and the contracts of the functions over it.
  Conditions: each theorem names its own.
-/
import Derived.Test.YtnkdjfmidiffdaaH11
set_option linter.unusedSimpArgs false
set_option linter.unusedVariables false
namespace Go.Proofs.Ytnkdjfmidiffdaa
open Go Go.Proofs Go.Am
variable {N : Nat}

theorem used_r {h : AHeap} {b : Nat} {L : AV} {B : Int} {xs : List Row} (W : WIn h b L B xs) : ARets Try.prog N 20 [.ptr (some (b, 0))] h fun r h' => h' = h ∧ r = .int .i64 (total xs) :=
  (used_c W).mono (by rintro e h' ⟨rfl, rfl⟩; exact ⟨rfl, rfl⟩)

theorem live_all {l : List Ob} {roots : List Int} (h : ∀ o ∈ l, (o.name : Int) ∈ roots) : liveOb l roots = l := by
  classical
  unfold liveOb
  rw [List.filter_eq_self]
  intro o ho
  exact decide_eq_true (.root o ho (h o ho))
/-- A new object is reached from none of the others. -/
theorem new_away {l : List Ob} {m n : Nat} {refs : List Bool} {roots : List Int} (hc : Closed l) (hm : ∀ o ∈ l, o.name ≠ m) (hp : ∀ o ∈ l, 1 ≤ o.name) (m1 : 1 ≤ m) (hr : ∀ r ∈ roots, ∃ o ∈ l, (o.name : Int) = r) {k : Nat} (h : RchN (l ++ [⟨m, List.replicate n 0, refs⟩]) roots k) : ∃ o ∈ l, o.name = k := by
  induction h with
  | root o ho h =>
    obtain ⟨q, hq, e⟩ := hr _ h
    exact ⟨q, hq, by omega⟩
  | step o o' j _ ho ho' hrf hcl ih =>
    obtain ⟨q, hq, e⟩ := ih
    rcases List.mem_append.1 ho with ho | ho
    · rcases hc o ho j _ hrf hcl with h0 | h0
      · rcases List.mem_append.1 ho' with ho' | ho'
        · have := hp o' ho'; omega
        · simp at ho'; subst ho'; simp at h0; omega
      · exact h0
    · simp at ho; subst ho
      exact absurd e (hm q hq)

/-- HeapNames. -/
theorem names_law {h0 : AHeap} (cells : Int) {av fv : AV} {acts : List ActD} {refs : List Bool} (A : ActsAt h0 av acts) (Sf : RSlice h0 1 fv (refs.map .bool)) (hlf : refs.length ≤ 2000000) :
    ARets Try.prog N 5 [.int .i64 cells, av, fv] h0 fun r _ => r = .bool true := by
  refine acalls_of_wp c5_ok mixed (by show 3 ≤ 166; decide) (wk_start ?_)
  unfold c5
  simp only [wk_skip, wk_region, wk_seq, wk_block, wk_cond, wk_exit, wk_ret, wk_draw, cnd_true, cnd_false, fin_nil, fin_seq, fin_seq_exit, fin_seq_ret, fin_seq_panic, fin_block, fin_block_exit, fin_block_ret, fin_block_panic, fin_loop, fin_loop_exit, fin_loop_ret, fin_loop_panic, ops_nil, ops_cons, ops_guard, res_val, res_new, main_nil, main_cons, main_guard, mres_val, mres_new, AOp.ev, AOpd.ev, evAll, evParts, evOpt, put_get, put_none, wantA, ARes.ofOpt, tmOf, List.getD_cons_zero, List.getD_cons_succ, Nat.reduceEqDiff, if_true, if_false, reduceIte, Nat.reduceAdd, Nat.reduceMul, binA, intOp, eqOp, nilOf, lenA_slice, callA, AV.cells, undefA, Option.map_some, Option.map_none, Bool.false_eq_true, reduceCtorEq, beq_false, beq_true, g_true, g_false, mg_true, mg_false, Bool.not_true, Bool.not_false, decide_true, decide_false, not_true_eq_false, not_false_eq_true, List.nil_append, List.cons_append, List.append_nil, Option.isNone_some, Option.isNone_none, List.getElem?_cons_zero, List.getElem?_cons_succ]
  refine res_ret (grown9_c cells A) ?_
  rintro r h1 d1 ⟨hb, wb, B, rfl, hB, lo, xs, ρ1, ρ2, b1⟩
  simp only [wk_skip, wk_region, wk_seq, wk_block, wk_cond, wk_exit, wk_ret, wk_draw, cnd_true, cnd_false, fin_nil, fin_seq, fin_seq_exit, fin_seq_ret, fin_seq_panic, fin_block, fin_block_exit, fin_block_ret, fin_block_panic, fin_loop, fin_loop_exit, fin_loop_ret, fin_loop_panic, ops_nil, ops_cons, ops_guard, res_val, res_new, main_nil, main_cons, main_guard, mres_val, mres_new, AOp.ev, AOpd.ev, evAll, evParts, evOpt, put_get, put_none, wantA, ARes.ofOpt, tmOf, List.getD_cons_zero, List.getD_cons_succ, Nat.reduceEqDiff, if_true, if_false, reduceIte, Nat.reduceAdd, Nat.reduceMul, binA, intOp, eqOp, nilOf, lenA_slice, callA, AV.cells, undefA, Option.map_some, Option.map_none, Bool.false_eq_true, reduceCtorEq, beq_false, beq_true, g_true, g_false, mg_true, mg_false, Bool.not_true, Bool.not_false, decide_true, decide_false, not_true_eq_false, not_false_eq_true, List.nil_append, List.cons_append, List.append_nil, Option.isNone_some, Option.isNone_none, List.getElem?_cons_zero, List.getElem?_cons_succ]
  refine res_ret answers10_c ?_
  rintro r h2 d2 ⟨rfl, m2⟩
  have b2 := b1.more m2
  have d02 := d1.trans d2
  have lf := (Sf.dom d02).at_.len refs.length (by simp) (by omega)
  by_cases hbig : (1000 : Int) < (refs.length : Int)
  · simp only [wk_skip, wk_region, wk_seq, wk_block, wk_cond, wk_exit, wk_ret, wk_draw, cnd_true, cnd_false, fin_nil, fin_seq, fin_seq_exit, fin_seq_ret, fin_seq_panic, fin_block, fin_block_exit, fin_block_ret, fin_block_panic, fin_loop, fin_loop_exit, fin_loop_ret, fin_loop_panic, ops_nil, ops_cons, ops_guard, res_val, res_new, main_nil, main_cons, main_guard, mres_val, mres_new, AOp.ev, AOpd.ev, evAll, evParts, evOpt, put_get, put_none, wantA, ARes.ofOpt, tmOf, List.getD_cons_zero, List.getD_cons_succ, Nat.reduceEqDiff, if_true, if_false, reduceIte, Nat.reduceAdd, Nat.reduceMul, binA, intOp, eqOp, nilOf, lenA_slice, callA, AV.cells, undefA, Option.map_some, Option.map_none, Bool.false_eq_true, reduceCtorEq, beq_false, beq_true, g_true, g_false, mg_true, mg_false, Bool.not_true, Bool.not_false, decide_true, decide_false, not_true_eq_false, not_false_eq_true, List.nil_append, List.cons_append, List.append_nil, Option.isNone_some, Option.isNone_none, List.getElem?_cons_zero, List.getElem?_cons_succ, lf, hbig]
    refine res_ret answers10_c ?_
    rintro r h3 d3 ⟨rfl, m3⟩
    simp only [wk_skip, wk_region, wk_seq, wk_block, wk_cond, wk_exit, wk_ret, wk_draw, cnd_true, cnd_false, fin_nil, fin_seq, fin_seq_exit, fin_seq_ret, fin_seq_panic, fin_block, fin_block_exit, fin_block_ret, fin_block_panic, fin_loop, fin_loop_exit, fin_loop_ret, fin_loop_panic, ops_nil, ops_cons, ops_guard, res_val, res_new, main_nil, main_cons, main_guard, mres_val, mres_new, AOp.ev, AOpd.ev, evAll, evParts, evOpt, put_get, put_none, wantA, ARes.ofOpt, tmOf, List.getD_cons_zero, List.getD_cons_succ, Nat.reduceEqDiff, if_true, if_false, reduceIte, Nat.reduceAdd, Nat.reduceMul, binA, intOp, eqOp, nilOf, lenA_slice, callA, AV.cells, undefA, Option.map_some, Option.map_none, Bool.false_eq_true, reduceCtorEq, beq_false, beq_true, g_true, g_false, mg_true, mg_false, Bool.not_true, Bool.not_false, decide_true, decide_false, not_true_eq_false, not_false_eq_true, List.nil_append, List.cons_append, List.append_nil, Option.isNone_some, Option.isNone_none, List.getElem?_cons_zero, List.getElem?_cons_succ]
    exact fnEnd_ret1 (by simp [TM.put])
  simp only [wk_skip, wk_region, wk_seq, wk_block, wk_cond, wk_exit, wk_ret, wk_draw, cnd_true, cnd_false, fin_nil, fin_seq, fin_seq_exit, fin_seq_ret, fin_seq_panic, fin_block, fin_block_exit, fin_block_ret, fin_block_panic, fin_loop, fin_loop_exit, fin_loop_ret, fin_loop_panic, ops_nil, ops_cons, ops_guard, res_val, res_new, main_nil, main_cons, main_guard, mres_val, mres_new, AOp.ev, AOpd.ev, evAll, evParts, evOpt, put_get, put_none, wantA, ARes.ofOpt, tmOf, List.getD_cons_zero, List.getD_cons_succ, Nat.reduceEqDiff, if_true, if_false, reduceIte, Nat.reduceAdd, Nat.reduceMul, binA, intOp, eqOp, nilOf, lenA_slice, callA, AV.cells, undefA, Option.map_some, Option.map_none, Bool.false_eq_true, reduceCtorEq, beq_false, beq_true, g_true, g_false, mg_true, mg_false, Bool.not_true, Bool.not_false, decide_true, decide_false, not_true_eq_false, not_false_eq_true, List.nil_append, List.cons_append, List.append_nil, Option.isNone_some, Option.isNone_none, List.getElem?_cons_zero, List.getElem?_cons_succ, lf, hbig]
  obtain ⟨us0, lst0, g0⟩ := b2.heap.good
  have g0t := g0.tot
  obtain ⟨L, W, O⟩ := id b2.ref
  have few := W.few
  have same := b2.same
  refine wk_cutb (fun tm ds h3 => ds = [] ∧ tm 2 = fv ∧ tm 7 = .ptr (some (hb, 0)) ∧ tm 8 = .ptr (some (wb, 0)) ∧ Dom h2 h3 ∧ ∃ lv, tm 9 = lv ∧ Grown h2 h3 1 lv ((namesOf (obR xs)).map (.int .i64))) ?_ ?_
  · refine wk_loopD (fun k tm ds h3 => ds = [] ∧ tm 2 = fv ∧ tm 7 = .ptr (some (hb, 0)) ∧ tm 8 = .ptr (some (wb, 0)) ∧ ∃ (i : Nat) (lv : AV), tm 10 = .int .i64 i ∧ i + k = xs.length ∧ tm 9 = lv ∧ Grown h2 h3 1 lv ((namesOf (obR (xs.take i))).map (.int .i64))) xs.length
      ⟨rfl, rfl, rfl, rfl, 0, _, rfl, by simp, rfl, Grown.nil (More.refl _) 1 0 true⟩ ?_
    rintro k tm ds h3 d3 ⟨rfl, t2, t7, t8, i, lv, t10, hk, t9, G⟩
    have W' := W.more G.more
    simp only [wk_skip, wk_region, wk_seq, wk_block, wk_cond, wk_exit, wk_ret, wk_draw, cnd_true, cnd_false, fin_nil, fin_seq, fin_seq_exit, fin_seq_ret, fin_seq_panic, fin_block, fin_block_exit, fin_block_ret, fin_block_panic, fin_loop, fin_loop_exit, fin_loop_ret, fin_loop_panic, ops_nil, ops_cons, ops_guard, res_val, res_new, main_nil, main_cons, main_guard, mres_val, mres_new, AOp.ev, AOpd.ev, evAll, evParts, evOpt, put_get, put_none, wantA, ARes.ofOpt, tmOf, List.getD_cons_zero, List.getD_cons_succ, Nat.reduceEqDiff, if_true, if_false, reduceIte, Nat.reduceAdd, Nat.reduceMul, binA, intOp, eqOp, nilOf, lenA_slice, callA, AV.cells, undefA, Option.map_some, Option.map_none, Bool.false_eq_true, reduceCtorEq, beq_false, beq_true, g_true, g_false, mg_true, mg_false, Bool.not_true, Bool.not_false, decide_true, decide_false, not_true_eq_false, not_false_eq_true, List.nil_append, List.cons_append, List.append_nil, Option.isNone_some, Option.isNone_none, List.getElem?_cons_zero, List.getElem?_cons_succ, t8, t9, t10, nilCheck_ptr, W'.ld0, W'.len]
    refine cond_dec (fun hi => ?_) (fun hi => ?_)
    · have hi' : i < xs.length := by omega
      have wri : IntKind.i64.wrap ((i : Int) + 1) = ((i + 1 : Nat) : Int) := by rw [wrap64 (by omega) (by omega)]; rfl
      obtain ⟨r1, r2, g1, g2, _⟩ := W'.row i hi'
      simp only [wk_skip, wk_region, wk_seq, wk_block, wk_cond, wk_exit, wk_ret, wk_draw, cnd_true, cnd_false, fin_nil, fin_seq, fin_seq_exit, fin_seq_ret, fin_seq_panic, fin_block, fin_block_exit, fin_block_ret, fin_block_panic, fin_loop, fin_loop_exit, fin_loop_ret, fin_loop_panic, ops_nil, ops_cons, ops_guard, res_val, res_new, main_nil, main_cons, main_guard, mres_val, mres_new, AOp.ev, AOpd.ev, evAll, evParts, evOpt, put_get, put_none, wantA, ARes.ofOpt, tmOf, List.getD_cons_zero, List.getD_cons_succ, Nat.reduceEqDiff, if_true, if_false, reduceIte, Nat.reduceAdd, Nat.reduceMul, binA, intOp, eqOp, nilOf, lenA_slice, callA, AV.cells, undefA, Option.map_some, Option.map_none, Bool.false_eq_true, reduceCtorEq, beq_false, beq_true, g_true, g_false, mg_true, mg_false, Bool.not_true, Bool.not_false, decide_true, decide_false, not_true_eq_false, not_false_eq_true, List.nil_append, List.cons_append, List.append_nil, Option.isNone_some, Option.isNone_none, List.getElem?_cons_zero, List.getElem?_cons_succ, t8, t9, t10, nilCheck_ptr, W'.ld0, g1, g2, fill_int]
      intro c hc
      obtain ⟨kk, h4, e4, g4⟩ := G.push (bytes := 8) hc (x := [.int .i64 (xs[i].1.name : Int)]) rfl (by omega) (by simp [namesOf]; omega) (by omega) (by simp [AV.oneCell]) rfl
      simp only [wk_skip, wk_region, wk_seq, wk_block, wk_cond, wk_exit, wk_ret, wk_draw, cnd_true, cnd_false, fin_nil, fin_seq, fin_seq_exit, fin_seq_ret, fin_seq_panic, fin_block, fin_block_exit, fin_block_ret, fin_block_panic, fin_loop, fin_loop_exit, fin_loop_ret, fin_loop_panic, ops_nil, ops_cons, ops_guard, res_val, res_new, main_nil, main_cons, main_guard, mres_val, mres_new, AOp.ev, AOpd.ev, evAll, evParts, evOpt, put_get, put_none, wantA, ARes.ofOpt, tmOf, List.getD_cons_zero, List.getD_cons_succ, Nat.reduceEqDiff, if_true, if_false, reduceIte, Nat.reduceAdd, Nat.reduceMul, binA, intOp, eqOp, nilOf, lenA_slice, callA, AV.cells, undefA, Option.map_some, Option.map_none, Bool.false_eq_true, reduceCtorEq, beq_false, beq_true, g_true, g_false, mg_true, mg_false, Bool.not_true, Bool.not_false, decide_true, decide_false, not_true_eq_false, not_false_eq_true, List.nil_append, List.cons_append, List.append_nil, Option.isNone_some, Option.isNone_none, List.getElem?_cons_zero, List.getElem?_cons_succ, e4]
      intro c2 hc2
      have G2 := g4 c2 hc2
      simp only [wk_skip, wk_region, wk_seq, wk_block, wk_cond, wk_exit, wk_ret, wk_draw, cnd_true, cnd_false, fin_nil, fin_seq, fin_seq_exit, fin_seq_ret, fin_seq_panic, fin_block, fin_block_exit, fin_block_ret, fin_block_panic, fin_loop, fin_loop_exit, fin_loop_ret, fin_loop_panic, ops_nil, ops_cons, ops_guard, res_val, res_new, main_nil, main_cons, main_guard, mres_val, mres_new, AOp.ev, AOpd.ev, evAll, evParts, evOpt, put_get, put_none, wantA, ARes.ofOpt, tmOf, List.getD_cons_zero, List.getD_cons_succ, Nat.reduceEqDiff, if_true, if_false, reduceIte, Nat.reduceAdd, Nat.reduceMul, binA, intOp, eqOp, nilOf, lenA_slice, callA, AV.cells, undefA, Option.map_some, Option.map_none, Bool.false_eq_true, reduceCtorEq, beq_false, beq_true, g_true, g_false, mg_true, mg_false, Bool.not_true, Bool.not_false, decide_true, decide_false, not_true_eq_false, not_false_eq_true, List.nil_append, List.cons_append, List.append_nil, Option.isNone_some, Option.isNone_none, List.getElem?_cons_zero, List.getElem?_cons_succ, t10, wri]
      refine meet ⟨k - 1, by omega, rfl, by simp [TM.put, t2], by simp [TM.put, t7], by simp [TM.put, t8], i + 1, kk c2, by simp [TM.put], by omega, by simp [TM.put], ?_⟩
      have : namesOf (obR (xs.take (i + 1))) = namesOf (obR (xs.take i)) ++ [(xs[i].1.name : Int)] := by
        rw [List.take_add_one, List.getElem?_eq_getElem hi']
        simp only [Option.toList_some, namesOf, List.map_append, List.map_cons, List.map_nil]
      rw [this, List.map_append]
      exact G2
    · simp only [wk_skip, wk_region, wk_seq, wk_block, wk_cond, wk_exit, wk_ret, wk_draw, cnd_true, cnd_false, fin_nil, fin_seq, fin_seq_exit, fin_seq_ret, fin_seq_panic, fin_block, fin_block_exit, fin_block_ret, fin_block_panic, fin_loop, fin_loop_exit, fin_loop_ret, fin_loop_panic, ops_nil, ops_cons, ops_guard, res_val, res_new, main_nil, main_cons, main_guard, mres_val, mres_new, AOp.ev, AOpd.ev, evAll, evParts, evOpt, put_get, put_none, wantA, ARes.ofOpt, tmOf, List.getD_cons_zero, List.getD_cons_succ, Nat.reduceEqDiff, if_true, if_false, reduceIte, Nat.reduceAdd, Nat.reduceMul, binA, intOp, eqOp, nilOf, lenA_slice, callA, AV.cells, undefA, Option.map_some, Option.map_none, Bool.false_eq_true, reduceCtorEq, beq_false, beq_true, g_true, g_false, mg_true, mg_false, Bool.not_true, Bool.not_false, decide_true, decide_false, not_true_eq_false, not_false_eq_true, List.nil_append, List.cons_append, List.append_nil, Option.isNone_some, Option.isNone_none, List.getElem?_cons_zero, List.getElem?_cons_succ, hi]
      have : xs.take i = xs := List.take_of_length_le (by omega)
      rw [this] at G
      exact meet ⟨rfl, by simp [TM.put, t2], by simp [TM.put, t7], by simp [TM.put, t8], d3, lv, by simp [TM.put, t9], G⟩
  rintro tm ds h3 ⟨rfl, t2, t7, t8, d3, lv, t9, G3⟩
  have d03 := d02.trans d3
  have b3 := b2.more G3.more
  have hnl : (namesOf (obR xs)).length = xs.length := by simp [namesOf]
  have kn : KnownN lo (namesOf (obR xs)) := fun r hr => by
    obtain ⟨o, ho, rfl⟩ := List.mem_map.1 hr
    exact .inr ⟨o, same.mem_iff.2 ho, rfl⟩
  have inn : ∀ n : Int, n ∈ namesOf (obR xs) ↔ ∃ o ∈ lo, (o.name : Int) = n := fun n => by
    constructor
    · intro h
      obtain ⟨o, ho, rfl⟩ := List.mem_map.1 h
      exact ⟨o, same.mem_iff.2 ho, rfl⟩
    · rintro ⟨o, ho, rfl⟩
      exact List.mem_map.2 ⟨o, same.mem_iff.1 ho, rfl⟩
  have hlo := same.length_eq
  simp only [List.length_map] at hlo
  simp only [wk_skip, wk_region, wk_seq, wk_block, wk_cond, wk_exit, wk_ret, wk_draw, cnd_true, cnd_false, fin_nil, fin_seq, fin_seq_exit, fin_seq_ret, fin_seq_panic, fin_block, fin_block_exit, fin_block_ret, fin_block_panic, fin_loop, fin_loop_exit, fin_loop_ret, fin_loop_panic, ops_nil, ops_cons, ops_guard, res_val, res_new, main_nil, main_cons, main_guard, mres_val, mres_new, AOp.ev, AOpd.ev, evAll, evParts, evOpt, put_get, put_none, wantA, ARes.ofOpt, tmOf, List.getD_cons_zero, List.getD_cons_succ, Nat.reduceEqDiff, if_true, if_false, reduceIte, Nat.reduceAdd, Nat.reduceMul, binA, intOp, eqOp, nilOf, lenA_slice, callA, AV.cells, undefA, Option.map_some, Option.map_none, Bool.false_eq_true, reduceCtorEq, beq_false, beq_true, g_true, g_false, mg_true, mg_false, Bool.not_true, Bool.not_false, decide_true, decide_false, not_true_eq_false, not_false_eq_true, List.nil_append, List.cons_append, List.append_nil, Option.isNone_some, Option.isNone_none, List.getElem?_cons_zero, List.getElem?_cons_succ, t2, t7, t8, t9, fill_nil]
  intro eb heb
  have de : Dom h3 (h3.upd eb (.cells [] false)) := Dom.new heb _
  refine res_append (bytes := 1) (Grown.make (sz := 1) (n := 0) (ex := true) heb (x := []) (by simp)) ((Sf.dom d03).dom de).at_ (by omega) (by simp; omega) (by omega) rfl (by simp [AV.oneCell]) ?_
  intro fv' h5 G5 d5 k5 o5
  rw [List.nil_append] at G5
  have b5 := b3.more G5.more
  have d05 := d03.trans (de.trans d5)
  simp only [wk_skip, wk_region, wk_seq, wk_block, wk_cond, wk_exit, wk_ret, wk_draw, cnd_true, cnd_false, fin_nil, fin_seq, fin_seq_exit, fin_seq_ret, fin_seq_panic, fin_block, fin_block_exit, fin_block_ret, fin_block_panic, fin_loop, fin_loop_exit, fin_loop_ret, fin_loop_panic, ops_nil, ops_cons, ops_guard, res_val, res_new, main_nil, main_cons, main_guard, mres_val, mres_new, AOp.ev, AOpd.ev, evAll, evParts, evOpt, put_get, put_none, wantA, ARes.ofOpt, tmOf, List.getD_cons_zero, List.getD_cons_succ, Nat.reduceEqDiff, if_true, if_false, reduceIte, Nat.reduceAdd, Nat.reduceMul, binA, intOp, eqOp, nilOf, lenA_slice, callA, AV.cells, undefA, Option.map_some, Option.map_none, Bool.false_eq_true, reduceCtorEq, beq_false, beq_true, g_true, g_false, mg_true, mg_false, Bool.not_true, Bool.not_false, decide_true, decide_false, not_true_eq_false, not_false_eq_true, List.nil_append, List.cons_append, List.append_nil, Option.isNone_some, Option.isNone_none, List.getElem?_cons_zero, List.getElem?_cons_succ, t9]
  refine res_ret (ints13_c (slice_more G3.at_ G5.more) (by simp [namesOf]; omega) (by simp [AV.oneCell])) ?_
  intro nv' h6 d6 G6
  have b6 := b5.more G6.more
  simp only [wk_skip, wk_region, wk_seq, wk_block, wk_cond, wk_exit, wk_ret, wk_draw, cnd_true, cnd_false, fin_nil, fin_seq, fin_seq_exit, fin_seq_ret, fin_seq_panic, fin_block, fin_block_exit, fin_block_ret, fin_block_panic, fin_loop, fin_loop_exit, fin_loop_ret, fin_loop_panic, ops_nil, ops_cons, ops_guard, res_val, res_new, main_nil, main_cons, main_guard, mres_val, mres_new, AOp.ev, AOpd.ev, evAll, evParts, evOpt, put_get, put_none, wantA, ARes.ofOpt, tmOf, List.getD_cons_zero, List.getD_cons_succ, Nat.reduceEqDiff, if_true, if_false, reduceIte, Nat.reduceAdd, Nat.reduceMul, binA, intOp, eqOp, nilOf, lenA_slice, callA, AV.cells, undefA, Option.map_some, Option.map_none, Bool.false_eq_true, reduceCtorEq, beq_false, beq_true, g_true, g_false, mg_true, mg_false, Bool.not_true, Bool.not_false, decide_true, decide_false, not_true_eq_false, not_false_eq_true, List.nil_append, List.cons_append, List.append_nil, Option.isNone_some, Option.isNone_none, List.getElem?_cons_zero, List.getElem?_cons_succ]
  refine res_ret (alloc12_c b6.heap (slice_more G5.at_ G6.more) G6.at_ (by omega) (by omega) fun c hc => (b3.free' (G5.own c hc).1).1) ?_
  rintro r h7 d7 ⟨n, e, l', ρ1', rfl, hA, R7, off7, mine7⟩
  have hA' : (B < (totOb lo : Int) + 1 + refs.length ∧ n = 0 ∧ e = 20) ∨ ((totOb lo : Int) + 1 + refs.length ≤ B ∧ e = 0 ∧ ∃ m : Nat, n = m ∧ LeastFree lo m ∧ l' = lo ++ [⟨m, List.replicate refs.length 0, refs⟩]) := by
    rcases hA with ⟨h, _⟩ | ⟨_, h, _⟩ | ⟨_, _, l1, hr, h⟩
    · omega
    · exact absurd kn h
    · have : l1 = lo := by
        rcases hr with ⟨_, h⟩ | ⟨_, h⟩
        · exact h
        · rw [h]; exact live_all fun o ho => (inn _).2 ⟨o, ho, rfl⟩
      subst this
      rcases h with ⟨h1, h2, h3, _⟩ | h
      · exact .inl ⟨h1, h2, h3⟩
      · exact .inr h
  clear hA
  obtain ⟨W7', _, _⟩ := b6.heap' R7 off7 mine7
  obtain ⟨L7, W7, O7⟩ := W7'
  have few7 := W7.few
  have ht := tot_perm same
  have d07 := d05.trans (d6.trans d7)
  have lf7 := (Sf.dom d07).at_.len refs.length (by simp) (by omega)
  have w1 : IntKind.i64.wrap ((total xs : Int) + 1) = (total xs : Int) + 1 := wrap64 (by omega) (by omega)
  have w2 : IntKind.i64.wrap ((total xs : Int) + 1 + (refs.length : Int)) = (total xs : Int) + 1 + (refs.length : Int) := wrap64 (by omega) (by omega)
  simp only [wk_skip, wk_region, wk_seq, wk_block, wk_cond, wk_exit, wk_ret, wk_draw, cnd_true, cnd_false, fin_nil, fin_seq, fin_seq_exit, fin_seq_ret, fin_seq_panic, fin_block, fin_block_exit, fin_block_ret, fin_block_panic, fin_loop, fin_loop_exit, fin_loop_ret, fin_loop_panic, ops_nil, ops_cons, ops_guard, res_val, res_new, main_nil, main_cons, main_guard, mres_val, mres_new, AOp.ev, AOpd.ev, evAll, evParts, evOpt, put_get, put_none, wantA, ARes.ofOpt, tmOf, List.getD_cons_zero, List.getD_cons_succ, Nat.reduceEqDiff, if_true, if_false, reduceIte, Nat.reduceAdd, Nat.reduceMul, binA, intOp, eqOp, nilOf, lenA_slice, callA, AV.cells, undefA, Option.map_some, Option.map_none, Bool.false_eq_true, reduceCtorEq, beq_false, beq_true, g_true, g_false, mg_true, mg_false, Bool.not_true, Bool.not_false, decide_true, decide_false, not_true_eq_false, not_false_eq_true, List.nil_append, List.cons_append, List.append_nil, Option.isNone_some, Option.isNone_none, List.getElem?_cons_zero, List.getElem?_cons_succ]
  rcases hA' with ⟨hfull, rfl, rfl⟩ | ⟨hfit, rfl, m, rfl, hlm, rfl⟩
  · have hfull' : B < (total xs : Int) + 1 + (refs.length : Int) := by omega
    simp only [wk_skip, wk_region, wk_seq, wk_block, wk_cond, wk_exit, wk_ret, wk_draw, cnd_true, cnd_false, fin_nil, fin_seq, fin_seq_exit, fin_seq_ret, fin_seq_panic, fin_block, fin_block_exit, fin_block_ret, fin_block_panic, fin_loop, fin_loop_exit, fin_loop_ret, fin_loop_panic, ops_nil, ops_cons, ops_guard, res_val, res_new, main_nil, main_cons, main_guard, mres_val, mres_new, AOp.ev, AOpd.ev, evAll, evParts, evOpt, put_get, put_none, wantA, ARes.ofOpt, tmOf, List.getD_cons_zero, List.getD_cons_succ, Nat.reduceEqDiff, if_true, if_false, reduceIte, Nat.reduceAdd, Nat.reduceMul, binA, intOp, eqOp, nilOf, lenA_slice, callA, AV.cells, undefA, Option.map_some, Option.map_none, Bool.false_eq_true, reduceCtorEq, beq_false, beq_true, g_true, g_false, mg_true, mg_false, Bool.not_true, Bool.not_false, decide_true, decide_false, not_true_eq_false, not_false_eq_true, List.nil_append, List.cons_append, List.append_nil, Option.isNone_some, Option.isNone_none, List.getElem?_cons_zero, List.getElem?_cons_succ, t2, t8, lf7, Int.reduceEq, nilCheck_ptr, W7.ld1]
    refine mres_ret (used_r W7) ?_
    rintro r h d ⟨rfl, rfl⟩
    refine ⟨stabs_more (fun _ _ => rfl) _, ?_⟩
    simp only [wk_skip, wk_region, wk_seq, wk_block, wk_cond, wk_exit, wk_ret, wk_draw, cnd_true, cnd_false, fin_nil, fin_seq, fin_seq_exit, fin_seq_ret, fin_seq_panic, fin_block, fin_block_exit, fin_block_ret, fin_block_panic, fin_loop, fin_loop_exit, fin_loop_ret, fin_loop_panic, ops_nil, ops_cons, ops_guard, res_val, res_new, main_nil, main_cons, main_guard, mres_val, mres_new, AOp.ev, AOpd.ev, evAll, evParts, evOpt, put_get, put_none, wantA, ARes.ofOpt, tmOf, List.getD_cons_zero, List.getD_cons_succ, Nat.reduceEqDiff, if_true, if_false, reduceIte, Nat.reduceAdd, Nat.reduceMul, binA, intOp, eqOp, nilOf, lenA_slice, callA, AV.cells, undefA, Option.map_some, Option.map_none, Bool.false_eq_true, reduceCtorEq, beq_false, beq_true, g_true, g_false, mg_true, mg_false, Bool.not_true, Bool.not_false, decide_true, decide_false, not_true_eq_false, not_false_eq_true, List.nil_append, List.cons_append, List.append_nil, Option.isNone_some, Option.isNone_none, List.getElem?_cons_zero, List.getElem?_cons_succ, t8, nilCheck_ptr, W7.ld1, w1, w2, hfull']
    exact fnEnd_ret1 (by simp [TM.put])
  have S7 : Ints h7 lv (namesOf (obR xs)) := slice_off off7 (slice_more (slice_more G3.at_ G5.more) G6.more) fun c hc => (b2.free' (G3.own c hc).1).1
  have ln := S7.len xs.length (by simp [namesOf]) (by omega)
  obtain ⟨M, used, least, os, hos, H, g', O1⟩ := id R7
  obtain ⟨m1, mfree, mlow⟩ := hlm
  have mle : (m : Int) ≤ xs.length + 1 := by
    have := low_len (l := lo) (le := m) fun n h1 h2 => mlow n h1 (by omega)
    omega
  have nin : ¬ (m : Int) ∈ namesOf (obR xs) := fun h => by
    obtain ⟨o, ho, e⟩ := (inn _).1 h
    exact mfree o ho (by omega)
  have c1 : ¬ (m : Int) < 1 := by omega
  have wn : IntKind.i64.wrap ((xs.length : Int) + 1) = (xs.length : Int) + 1 := wrap64 (by omega) (by omega)
  have c2 : ¬ (xs.length : Int) + 1 < (m : Int) := by omega
  simp only [wk_skip, wk_region, wk_seq, wk_block, wk_cond, wk_exit, wk_ret, wk_draw, cnd_true, cnd_false, fin_nil, fin_seq, fin_seq_exit, fin_seq_ret, fin_seq_panic, fin_block, fin_block_exit, fin_block_ret, fin_block_panic, fin_loop, fin_loop_exit, fin_loop_ret, fin_loop_panic, ops_nil, ops_cons, ops_guard, res_val, res_new, main_nil, main_cons, main_guard, mres_val, mres_new, AOp.ev, AOpd.ev, evAll, evParts, evOpt, put_get, put_none, wantA, ARes.ofOpt, tmOf, List.getD_cons_zero, List.getD_cons_succ, Nat.reduceEqDiff, if_true, if_false, reduceIte, Nat.reduceAdd, Nat.reduceMul, binA, intOp, eqOp, nilOf, lenA_slice, callA, AV.cells, undefA, Option.map_some, Option.map_none, Bool.false_eq_true, reduceCtorEq, beq_false, beq_true, g_true, g_false, mg_true, mg_false, Bool.not_true, Bool.not_false, decide_true, decide_false, not_true_eq_false, not_false_eq_true, List.nil_append, List.cons_append, List.append_nil, Option.isNone_some, Option.isNone_none, List.getElem?_cons_zero, List.getElem?_cons_succ, t9]
  refine res_ret (has_r S7 (by omega) m) ?_
  rintro r h d ⟨rfl, rfl⟩
  simp only [wk_skip, wk_region, wk_seq, wk_block, wk_cond, wk_exit, wk_ret, wk_draw, cnd_true, cnd_false, fin_nil, fin_seq, fin_seq_exit, fin_seq_ret, fin_seq_panic, fin_block, fin_block_exit, fin_block_ret, fin_block_panic, fin_loop, fin_loop_exit, fin_loop_ret, fin_loop_panic, ops_nil, ops_cons, ops_guard, res_val, res_new, main_nil, main_cons, main_guard, mres_val, mres_new, AOp.ev, AOpd.ev, evAll, evParts, evOpt, put_get, put_none, wantA, ARes.ofOpt, tmOf, List.getD_cons_zero, List.getD_cons_succ, Nat.reduceEqDiff, if_true, if_false, reduceIte, Nat.reduceAdd, Nat.reduceMul, binA, intOp, eqOp, nilOf, lenA_slice, callA, AV.cells, undefA, Option.map_some, Option.map_none, Bool.false_eq_true, reduceCtorEq, beq_false, beq_true, g_true, g_false, mg_true, mg_false, Bool.not_true, Bool.not_false, decide_true, decide_false, not_true_eq_false, not_false_eq_true, List.nil_append, List.cons_append, List.append_nil, Option.isNone_some, Option.isNone_none, List.getElem?_cons_zero, List.getElem?_cons_succ, t9, nin, c1, ln, wn, c2]
  refine wk_cutb (fun tm ds h7 => ds = [] ∧ h7 = h ∧ tm 2 = fv ∧ tm 7 = .ptr (some (hb, 0)) ∧ tm 8 = .ptr (some (wb, 0)) ∧ tm 9 = lv ∧ tm 11 = .int .i64 m) ?_ ?_
  · refine wk_loop (fun k tm ds h7 => ds = [] ∧ h7 = h ∧ tm 2 = fv ∧ tm 7 = .ptr (some (hb, 0)) ∧ tm 8 = .ptr (some (wb, 0)) ∧ tm 9 = lv ∧ tm 11 = .int .i64 m ∧ ∃ i : Nat, 1 ≤ i ∧ tm 13 = .int .i64 i ∧ i + k = m) (m - 1) ⟨rfl, rfl, by simp [TM.put, t2], by simp [TM.put, t7], by simp [TM.put, t8], by simp [TM.put, t9], by simp [TM.put], 1, by omega, rfl, by omega⟩ ?_
    clear t2 t7 t8 t9 tm
    rintro k tm ds h' ⟨rfl, rfl, t2, t7, t8, t9, t11, i, hi1, t13, hk⟩
    simp only [wk_skip, wk_region, wk_seq, wk_block, wk_cond, wk_exit, wk_ret, wk_draw, cnd_true, cnd_false, fin_nil, fin_seq, fin_seq_exit, fin_seq_ret, fin_seq_panic, fin_block, fin_block_exit, fin_block_ret, fin_block_panic, fin_loop, fin_loop_exit, fin_loop_ret, fin_loop_panic, ops_nil, ops_cons, ops_guard, res_val, res_new, main_nil, main_cons, main_guard, mres_val, mres_new, AOp.ev, AOpd.ev, evAll, evParts, evOpt, put_get, put_none, wantA, ARes.ofOpt, tmOf, List.getD_cons_zero, List.getD_cons_succ, Nat.reduceEqDiff, if_true, if_false, reduceIte, Nat.reduceAdd, Nat.reduceMul, binA, intOp, eqOp, nilOf, lenA_slice, callA, AV.cells, undefA, Option.map_some, Option.map_none, Bool.false_eq_true, reduceCtorEq, beq_false, beq_true, g_true, g_false, mg_true, mg_false, Bool.not_true, Bool.not_false, decide_true, decide_false, not_true_eq_false, not_false_eq_true, List.nil_append, List.cons_append, List.append_nil, Option.isNone_some, Option.isNone_none, List.getElem?_cons_zero, List.getElem?_cons_succ, t9, t11, t13]
    refine cond_dec (fun hi => ?_) (fun hi => ?_)
    · have wri : IntKind.i64.wrap ((i : Int) + 1) = ((i + 1 : Nat) : Int) := by rw [wrap64 (by omega) (by omega)]; rfl
      obtain ⟨o, ho, e⟩ := mlow i hi1 (by omega)
      have hin : (i : Int) ∈ namesOf (obR xs) := (inn _).2 ⟨o, ho, by omega⟩
      simp only [wk_skip, wk_region, wk_seq, wk_block, wk_cond, wk_exit, wk_ret, wk_draw, cnd_true, cnd_false, fin_nil, fin_seq, fin_seq_exit, fin_seq_ret, fin_seq_panic, fin_block, fin_block_exit, fin_block_ret, fin_block_panic, fin_loop, fin_loop_exit, fin_loop_ret, fin_loop_panic, ops_nil, ops_cons, ops_guard, res_val, res_new, main_nil, main_cons, main_guard, mres_val, mres_new, AOp.ev, AOpd.ev, evAll, evParts, evOpt, put_get, put_none, wantA, ARes.ofOpt, tmOf, List.getD_cons_zero, List.getD_cons_succ, Nat.reduceEqDiff, if_true, if_false, reduceIte, Nat.reduceAdd, Nat.reduceMul, binA, intOp, eqOp, nilOf, lenA_slice, callA, AV.cells, undefA, Option.map_some, Option.map_none, Bool.false_eq_true, reduceCtorEq, beq_false, beq_true, g_true, g_false, mg_true, mg_false, Bool.not_true, Bool.not_false, decide_true, decide_false, not_true_eq_false, not_false_eq_true, List.nil_append, List.cons_append, List.append_nil, Option.isNone_some, Option.isNone_none, List.getElem?_cons_zero, List.getElem?_cons_succ, t9, t13]
      refine res_ret (has_r S7 (by omega) i) ?_
      rintro r h d ⟨rfl, rfl⟩
      simp only [wk_skip, wk_region, wk_seq, wk_block, wk_cond, wk_exit, wk_ret, wk_draw, cnd_true, cnd_false, fin_nil, fin_seq, fin_seq_exit, fin_seq_ret, fin_seq_panic, fin_block, fin_block_exit, fin_block_ret, fin_block_panic, fin_loop, fin_loop_exit, fin_loop_ret, fin_loop_panic, ops_nil, ops_cons, ops_guard, res_val, res_new, main_nil, main_cons, main_guard, mres_val, mres_new, AOp.ev, AOpd.ev, evAll, evParts, evOpt, put_get, put_none, wantA, ARes.ofOpt, tmOf, List.getD_cons_zero, List.getD_cons_succ, Nat.reduceEqDiff, if_true, if_false, reduceIte, Nat.reduceAdd, Nat.reduceMul, binA, intOp, eqOp, nilOf, lenA_slice, callA, AV.cells, undefA, Option.map_some, Option.map_none, Bool.false_eq_true, reduceCtorEq, beq_false, beq_true, g_true, g_false, mg_true, mg_false, Bool.not_true, Bool.not_false, decide_true, decide_false, not_true_eq_false, not_false_eq_true, List.nil_append, List.cons_append, List.append_nil, Option.isNone_some, Option.isNone_none, List.getElem?_cons_zero, List.getElem?_cons_succ, hin, t13, wri]
      exact meet ⟨k - 1, by omega, rfl, rfl, by simp [TM.put, t2], by simp [TM.put, t7], by simp [TM.put, t8], by simp [TM.put, t9], by simp [TM.put, t11], i + 1, by omega, by simp [TM.put], by omega⟩
    · simp only [wk_skip, wk_region, wk_seq, wk_block, wk_cond, wk_exit, wk_ret, wk_draw, cnd_true, cnd_false, fin_nil, fin_seq, fin_seq_exit, fin_seq_ret, fin_seq_panic, fin_block, fin_block_exit, fin_block_ret, fin_block_panic, fin_loop, fin_loop_exit, fin_loop_ret, fin_loop_panic, ops_nil, ops_cons, ops_guard, res_val, res_new, main_nil, main_cons, main_guard, mres_val, mres_new, AOp.ev, AOpd.ev, evAll, evParts, evOpt, put_get, put_none, wantA, ARes.ofOpt, tmOf, List.getD_cons_zero, List.getD_cons_succ, Nat.reduceEqDiff, if_true, if_false, reduceIte, Nat.reduceAdd, Nat.reduceMul, binA, intOp, eqOp, nilOf, lenA_slice, callA, AV.cells, undefA, Option.map_some, Option.map_none, Bool.false_eq_true, reduceCtorEq, beq_false, beq_true, g_true, g_false, mg_true, mg_false, Bool.not_true, Bool.not_false, decide_true, decide_false, not_true_eq_false, not_false_eq_true, List.nil_append, List.cons_append, List.append_nil, Option.isNone_some, Option.isNone_none, List.getElem?_cons_zero, List.getElem?_cons_succ, hi]
      exact meet ⟨rfl, rfl, by simp [TM.put, t2], by simp [TM.put, t7], by simp [TM.put, t8], by simp [TM.put, t9], by simp [TM.put, t11]⟩
  clear t2 t7 t8 t9 tm
  rintro tm ds h' ⟨rfl, rfl, t2, t7, t8, t9, t11⟩
  simp only [wk_skip, wk_region, wk_seq, wk_block, wk_cond, wk_exit, wk_ret, wk_draw, cnd_true, cnd_false, fin_nil, fin_seq, fin_seq_exit, fin_seq_ret, fin_seq_panic, fin_block, fin_block_exit, fin_block_ret, fin_block_panic, fin_loop, fin_loop_exit, fin_loop_ret, fin_loop_panic, ops_nil, ops_cons, ops_guard, res_val, res_new, main_nil, main_cons, main_guard, mres_val, mres_new, AOp.ev, AOpd.ev, evAll, evParts, evOpt, put_get, put_none, wantA, ARes.ofOpt, tmOf, List.getD_cons_zero, List.getD_cons_succ, Nat.reduceEqDiff, if_true, if_false, reduceIte, Nat.reduceAdd, Nat.reduceMul, binA, intOp, eqOp, nilOf, lenA_slice, callA, AV.cells, undefA, Option.map_some, Option.map_none, Bool.false_eq_true, reduceCtorEq, beq_false, beq_true, g_true, g_false, mg_true, mg_false, Bool.not_true, Bool.not_false, decide_true, decide_false, not_true_eq_false, not_false_eq_true, List.nil_append, List.cons_append, List.append_nil, Option.isNone_some, Option.isNone_none, List.getElem?_cons_zero, List.getElem?_cons_succ]
  refine wk_cutb (fun tm ds h7 => ds = [] ∧ h7 = h' ∧ tm 2 = fv ∧ tm 7 = .ptr (some (hb, 0)) ∧ tm 8 = .ptr (some (wb, 0)) ∧ tm 9 = lv ∧ tm 11 = .int .i64 m) ?_ ?_
  · refine wk_loop (fun k tm ds h7 => ds = [] ∧ h7 = h' ∧ tm 2 = fv ∧ tm 7 = .ptr (some (hb, 0)) ∧ tm 8 = .ptr (some (wb, 0)) ∧ tm 9 = lv ∧ tm 11 = .int .i64 m ∧ ∃ i : Nat, tm 14 = .int .i64 i ∧ i + k = refs.length) refs.length ⟨rfl, rfl, by simp [TM.put, t2], by simp [TM.put, t7], by simp [TM.put, t8], by simp [TM.put, t9], by simp [TM.put, t11], 0, rfl, by omega⟩ ?_
    clear t2 t7 t8 t9 t11 tm
    rintro k tm ds h7 ⟨rfl, rfl, t2, t7, t8, t9, t11, i, t14, hk⟩
    simp only [wk_skip, wk_region, wk_seq, wk_block, wk_cond, wk_exit, wk_ret, wk_draw, cnd_true, cnd_false, fin_nil, fin_seq, fin_seq_exit, fin_seq_ret, fin_seq_panic, fin_block, fin_block_exit, fin_block_ret, fin_block_panic, fin_loop, fin_loop_exit, fin_loop_ret, fin_loop_panic, ops_nil, ops_cons, ops_guard, res_val, res_new, main_nil, main_cons, main_guard, mres_val, mres_new, AOp.ev, AOpd.ev, evAll, evParts, evOpt, put_get, put_none, wantA, ARes.ofOpt, tmOf, List.getD_cons_zero, List.getD_cons_succ, Nat.reduceEqDiff, if_true, if_false, reduceIte, Nat.reduceAdd, Nat.reduceMul, binA, intOp, eqOp, nilOf, lenA_slice, callA, AV.cells, undefA, Option.map_some, Option.map_none, Bool.false_eq_true, reduceCtorEq, beq_false, beq_true, g_true, g_false, mg_true, mg_false, Bool.not_true, Bool.not_false, decide_true, decide_false, not_true_eq_false, not_false_eq_true, List.nil_append, List.cons_append, List.append_nil, Option.isNone_some, Option.isNone_none, List.getElem?_cons_zero, List.getElem?_cons_succ, t2, t14, lf7]
    refine cond_dec (fun hi => ?_) (fun hi => ?_)
    · have hi' : i < refs.length := by omega
      have wri : IntKind.i64.wrap ((i : Int) + 1) = ((i + 1 : Nat) : Int) := by rw [wrap64 (by omega) (by omega)]; rfl
      obtain ⟨b0, o0, p1, _, p2⟩ := (Sf.dom d07).at_.get i (by simpa using hi') .i64
      simp only [List.getElem_map] at p2
      simp only [wk_skip, wk_region, wk_seq, wk_block, wk_cond, wk_exit, wk_ret, wk_draw, cnd_true, cnd_false, fin_nil, fin_seq, fin_seq_exit, fin_seq_ret, fin_seq_panic, fin_block, fin_block_exit, fin_block_ret, fin_block_panic, fin_loop, fin_loop_exit, fin_loop_ret, fin_loop_panic, ops_nil, ops_cons, ops_guard, res_val, res_new, main_nil, main_cons, main_guard, mres_val, mres_new, AOp.ev, AOpd.ev, evAll, evParts, evOpt, put_get, put_none, wantA, ARes.ofOpt, tmOf, List.getD_cons_zero, List.getD_cons_succ, Nat.reduceEqDiff, if_true, if_false, reduceIte, Nat.reduceAdd, Nat.reduceMul, binA, intOp, eqOp, nilOf, lenA_slice, callA, AV.cells, undefA, Option.map_some, Option.map_none, Bool.false_eq_true, reduceCtorEq, beq_false, beq_true, g_true, g_false, mg_true, mg_false, Bool.not_true, Bool.not_false, decide_true, decide_false, not_true_eq_false, not_false_eq_true, List.nil_append, List.cons_append, List.append_nil, Option.isNone_some, Option.isNone_none, List.getElem?_cons_zero, List.getElem?_cons_succ, t7, t11, t14]
      refine res_ret (get16_c H (by rw [hos]; exact g') _ _) ?_
      rintro r h d ⟨rfl, n2, q, e2, rfl, hg⟩
      rw [hos] at hg
      obtain ⟨rfl, rfl, rfl⟩ : n2 = 0 ∧ q = refs[i] ∧ e2 = 0 := by
        have new : (⟨m, List.replicate refs.length 0, refs⟩ : Ob) ∈ lo ++ [⟨m, List.replicate refs.length 0, refs⟩] := by simp
        rcases hg with ⟨hno, _⟩ | ⟨x, hx, hxn, ⟨h1, _⟩ | ⟨v, hv, h1, h2, h3⟩⟩
        · exact absurd rfl (hno _ new)
        · have : x = _ := g'.inj hx new (by simp only []; omega)
          subst this; simp at h1; omega
        · have : x = _ := g'.inj hx new (by simp only []; omega)
          subst this
          have : v = i := by omega
          subst this
          rw [List.getElem?_replicate, if_pos hi'] at h1
          rw [List.getElem?_eq_getElem hi'] at h2
          exact ⟨(Option.some.inj h1).symm, (Option.some.inj h2).symm, h3⟩
      simp only [wk_skip, wk_region, wk_seq, wk_block, wk_cond, wk_exit, wk_ret, wk_draw, cnd_true, cnd_false, fin_nil, fin_seq, fin_seq_exit, fin_seq_ret, fin_seq_panic, fin_block, fin_block_exit, fin_block_ret, fin_block_panic, fin_loop, fin_loop_exit, fin_loop_ret, fin_loop_panic, ops_nil, ops_cons, ops_guard, res_val, res_new, main_nil, main_cons, main_guard, mres_val, mres_new, AOp.ev, AOpd.ev, evAll, evParts, evOpt, put_get, put_none, wantA, ARes.ofOpt, tmOf, List.getD_cons_zero, List.getD_cons_succ, Nat.reduceEqDiff, if_true, if_false, reduceIte, Nat.reduceAdd, Nat.reduceMul, binA, intOp, eqOp, nilOf, lenA_slice, callA, AV.cells, undefA, Option.map_some, Option.map_none, Bool.false_eq_true, reduceCtorEq, beq_false, beq_true, g_true, g_false, mg_true, mg_false, Bool.not_true, Bool.not_false, decide_true, decide_false, not_true_eq_false, not_false_eq_true, List.nil_append, List.cons_append, List.append_nil, Option.isNone_some, Option.isNone_none, List.getElem?_cons_zero, List.getElem?_cons_succ, t2, t14, p1, p2, wri, Int.reduceEq, show ((0 : Nat) : Int) = 0 from rfl]
      exact meet ⟨k - 1, by omega, rfl, rfl, by simp [TM.put, t2], by simp [TM.put, t7], by simp [TM.put, t8], by simp [TM.put, t9], by simp [TM.put, t11], i + 1, by simp [TM.put], by omega⟩
    · simp only [wk_skip, wk_region, wk_seq, wk_block, wk_cond, wk_exit, wk_ret, wk_draw, cnd_true, cnd_false, fin_nil, fin_seq, fin_seq_exit, fin_seq_ret, fin_seq_panic, fin_block, fin_block_exit, fin_block_ret, fin_block_panic, fin_loop, fin_loop_exit, fin_loop_ret, fin_loop_panic, ops_nil, ops_cons, ops_guard, res_val, res_new, main_nil, main_cons, main_guard, mres_val, mres_new, AOp.ev, AOpd.ev, evAll, evParts, evOpt, put_get, put_none, wantA, ARes.ofOpt, tmOf, List.getD_cons_zero, List.getD_cons_succ, Nat.reduceEqDiff, if_true, if_false, reduceIte, Nat.reduceAdd, Nat.reduceMul, binA, intOp, eqOp, nilOf, lenA_slice, callA, AV.cells, undefA, Option.map_some, Option.map_none, Bool.false_eq_true, reduceCtorEq, beq_false, beq_true, g_true, g_false, mg_true, mg_false, Bool.not_true, Bool.not_false, decide_true, decide_false, not_true_eq_false, not_false_eq_true, List.nil_append, List.cons_append, List.append_nil, Option.isNone_some, Option.isNone_none, List.getElem?_cons_zero, List.getElem?_cons_succ, hi]
      exact meet ⟨rfl, rfl, by simp [TM.put, t2], by simp [TM.put, t7], by simp [TM.put, t8], by simp [TM.put, t9], by simp [TM.put, t11]⟩
  clear t2 t7 t8 t9 t11 tm
  rintro tm ds h7 ⟨rfl, rfl, t2, t7, t8, t9, t11⟩
  simp only [wk_skip, wk_region, wk_seq, wk_block, wk_cond, wk_exit, wk_ret, wk_draw, cnd_true, cnd_false, fin_nil, fin_seq, fin_seq_exit, fin_seq_ret, fin_seq_panic, fin_block, fin_block_exit, fin_block_ret, fin_block_panic, fin_loop, fin_loop_exit, fin_loop_ret, fin_loop_panic, ops_nil, ops_cons, ops_guard, res_val, res_new, main_nil, main_cons, main_guard, mres_val, mres_new, AOp.ev, AOpd.ev, evAll, evParts, evOpt, put_get, put_none, wantA, ARes.ofOpt, tmOf, List.getD_cons_zero, List.getD_cons_succ, Nat.reduceEqDiff, if_true, if_false, reduceIte, Nat.reduceAdd, Nat.reduceMul, binA, intOp, eqOp, nilOf, lenA_slice, callA, AV.cells, undefA, Option.map_some, Option.map_none, Bool.false_eq_true, reduceCtorEq, beq_false, beq_true, g_true, g_false, mg_true, mg_false, Bool.not_true, Bool.not_false, decide_true, decide_false, not_true_eq_false, not_false_eq_true, List.nil_append, List.cons_append, List.append_nil, Option.isNone_some, Option.isNone_none, List.getElem?_cons_zero, List.getElem?_cons_succ, t7, t9]
  refine res_ret (ints13_c S7 (by simp [namesOf]; omega) (by simp [AV.oneCell])) ?_
  intro w8 h8 d8 G8
  have R8 := R7.keep (h' := h8) fun c hc => G8.more c (R7.dom c hc)
  simp only [wk_skip, wk_region, wk_seq, wk_block, wk_cond, wk_exit, wk_ret, wk_draw, cnd_true, cnd_false, fin_nil, fin_seq, fin_seq_exit, fin_seq_ret, fin_seq_panic, fin_block, fin_block_exit, fin_block_ret, fin_block_panic, fin_loop, fin_loop_exit, fin_loop_ret, fin_loop_panic, ops_nil, ops_cons, ops_guard, res_val, res_new, main_nil, main_cons, main_guard, mres_val, mres_new, AOp.ev, AOpd.ev, evAll, evParts, evOpt, put_get, put_none, wantA, ARes.ofOpt, tmOf, List.getD_cons_zero, List.getD_cons_succ, Nat.reduceEqDiff, if_true, if_false, reduceIte, Nat.reduceAdd, Nat.reduceMul, binA, intOp, eqOp, nilOf, lenA_slice, callA, AV.cells, undefA, Option.map_some, Option.map_none, Bool.false_eq_true, reduceCtorEq, beq_false, beq_true, g_true, g_false, mg_true, mg_false, Bool.not_true, Bool.not_false, decide_true, decide_false, not_true_eq_false, not_false_eq_true, List.nil_append, List.cons_append, List.append_nil, Option.isNone_some, Option.isNone_none, List.getElem?_cons_zero, List.getElem?_cons_succ]
  refine res_ret (reach17_n R8 G8.at_ (by omega)) ?_
  rintro r h9 d9 ⟨v9, e9, rfl, hr9⟩
  obtain ⟨rfl, l9, G9, hl9, hno⟩ : e9 = 0 ∧ ∃ l9 : List Int, Grown h8 h9 1 v9 (l9.map (.int .i64)) ∧ l9.length ≤ 65536 ∧ ¬ (m : Int) ∈ l9 := by
    rcases hr9 with ⟨h, _⟩ | ⟨_, h1, l9, G9, _, hl9, hm9⟩
    · exact absurd (show KnownN (lo ++ [⟨m, List.replicate refs.length 0, refs⟩]) (namesOf (obR xs)) by
        intro r hr
        rcases kn r hr with h0 | ⟨o, ho, e⟩
        · exact .inl h0
        · exact .inr ⟨o, List.mem_append_left _ ho, e⟩) h
    · refine ⟨h1, l9, G9, hl9, fun h => ?_⟩
      obtain ⟨k, e, hk⟩ := (hm9 _).1 h
      obtain ⟨o, ho, rfl⟩ := new_away g0.closed mfree g0.pos m1 (fun r hr => (inn r).1 hr) hk
      exact mfree o ho (by omega)
  have H9 := (H.more G8.more).more G9.more
  have W9 := (W7.more G8.more).more G9.more
  have lf9 := (Sf.dom (d07.trans (d8.trans d9))).at_.len refs.length (by simp) (by omega)
  have hu : used = (total xs : Int) + 1 + refs.length := by
    rw [g'.used_, ← ht]
    simp [totOb, sizeOb]; omega
  subst hu
  simp only [wk_skip, wk_region, wk_seq, wk_block, wk_cond, wk_exit, wk_ret, wk_draw, cnd_true, cnd_false, fin_nil, fin_seq, fin_seq_exit, fin_seq_ret, fin_seq_panic, fin_block, fin_block_exit, fin_block_ret, fin_block_panic, fin_loop, fin_loop_exit, fin_loop_ret, fin_loop_panic, ops_nil, ops_cons, ops_guard, res_val, res_new, main_nil, main_cons, main_guard, mres_val, mres_new, AOp.ev, AOpd.ev, evAll, evParts, evOpt, put_get, put_none, wantA, ARes.ofOpt, tmOf, List.getD_cons_zero, List.getD_cons_succ, Nat.reduceEqDiff, if_true, if_false, reduceIte, Nat.reduceAdd, Nat.reduceMul, binA, intOp, eqOp, nilOf, lenA_slice, callA, AV.cells, undefA, Option.map_some, Option.map_none, Bool.false_eq_true, reduceCtorEq, beq_false, beq_true, g_true, g_false, mg_true, mg_false, Bool.not_true, Bool.not_false, decide_true, decide_false, not_true_eq_false, not_false_eq_true, List.nil_append, List.cons_append, List.append_nil, Option.isNone_some, Option.isNone_none, List.getElem?_cons_zero, List.getElem?_cons_succ, Int.reduceEq, t11]
  refine res_ret (has_r G9.at_ (by omega) m) ?_
  rintro r h d ⟨rfl, rfl⟩
  simp only [wk_skip, wk_region, wk_seq, wk_block, wk_cond, wk_exit, wk_ret, wk_draw, cnd_true, cnd_false, fin_nil, fin_seq, fin_seq_exit, fin_seq_ret, fin_seq_panic, fin_block, fin_block_exit, fin_block_ret, fin_block_panic, fin_loop, fin_loop_exit, fin_loop_ret, fin_loop_panic, ops_nil, ops_cons, ops_guard, res_val, res_new, main_nil, main_cons, main_guard, mres_val, mres_new, AOp.ev, AOpd.ev, evAll, evParts, evOpt, put_get, put_none, wantA, ARes.ofOpt, tmOf, List.getD_cons_zero, List.getD_cons_succ, Nat.reduceEqDiff, if_true, if_false, reduceIte, Nat.reduceAdd, Nat.reduceMul, binA, intOp, eqOp, nilOf, lenA_slice, callA, AV.cells, undefA, Option.map_some, Option.map_none, Bool.false_eq_true, reduceCtorEq, beq_false, beq_true, g_true, g_false, mg_true, mg_false, Bool.not_true, Bool.not_false, decide_true, decide_false, not_true_eq_false, not_false_eq_true, List.nil_append, List.cons_append, List.append_nil, Option.isNone_some, Option.isNone_none, List.getElem?_cons_zero, List.getElem?_cons_succ, hno, t7]
  refine res_ret (used21_c H9) ?_
  rintro r h d ⟨rfl, rfl⟩
  simp only [wk_skip, wk_region, wk_seq, wk_block, wk_cond, wk_exit, wk_ret, wk_draw, cnd_true, cnd_false, fin_nil, fin_seq, fin_seq_exit, fin_seq_ret, fin_seq_panic, fin_block, fin_block_exit, fin_block_ret, fin_block_panic, fin_loop, fin_loop_exit, fin_loop_ret, fin_loop_panic, ops_nil, ops_cons, ops_guard, res_val, res_new, main_nil, main_cons, main_guard, mres_val, mres_new, AOp.ev, AOpd.ev, evAll, evParts, evOpt, put_get, put_none, wantA, ARes.ofOpt, tmOf, List.getD_cons_zero, List.getD_cons_succ, Nat.reduceEqDiff, if_true, if_false, reduceIte, Nat.reduceAdd, Nat.reduceMul, binA, intOp, eqOp, nilOf, lenA_slice, callA, AV.cells, undefA, Option.map_some, Option.map_none, Bool.false_eq_true, reduceCtorEq, beq_false, beq_true, g_true, g_false, mg_true, mg_false, Bool.not_true, Bool.not_false, decide_true, decide_false, not_true_eq_false, not_false_eq_true, List.nil_append, List.cons_append, List.append_nil, Option.isNone_some, Option.isNone_none, List.getElem?_cons_zero, List.getElem?_cons_succ, t8]
  refine res_ret (used_r W9) ?_
  rintro r h d ⟨rfl, rfl⟩
  simp only [wk_skip, wk_region, wk_seq, wk_block, wk_cond, wk_exit, wk_ret, wk_draw, cnd_true, cnd_false, fin_nil, fin_seq, fin_seq_exit, fin_seq_ret, fin_seq_panic, fin_block, fin_block_exit, fin_block_ret, fin_block_panic, fin_loop, fin_loop_exit, fin_loop_ret, fin_loop_panic, ops_nil, ops_cons, ops_guard, res_val, res_new, main_nil, main_cons, main_guard, mres_val, mres_new, AOp.ev, AOpd.ev, evAll, evParts, evOpt, put_get, put_none, wantA, ARes.ofOpt, tmOf, List.getD_cons_zero, List.getD_cons_succ, Nat.reduceEqDiff, if_true, if_false, reduceIte, Nat.reduceAdd, Nat.reduceMul, binA, intOp, eqOp, nilOf, lenA_slice, callA, AV.cells, undefA, Option.map_some, Option.map_none, Bool.false_eq_true, reduceCtorEq, beq_false, beq_true, g_true, g_false, mg_true, mg_false, Bool.not_true, Bool.not_false, decide_true, decide_false, not_true_eq_false, not_false_eq_true, List.nil_append, List.cons_append, List.append_nil, Option.isNone_some, Option.isNone_none, List.getElem?_cons_zero, List.getElem?_cons_succ, t2, lf9, w1, w2]
  exact fnEnd_ret1 (by simp [TM.put])
end Go.Proofs.Ytnkdjfmidiffdaa
