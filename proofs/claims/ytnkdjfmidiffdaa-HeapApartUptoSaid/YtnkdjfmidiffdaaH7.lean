/-
  Part of the proofs about the heap: an abstract memory, its compiled code, and the contracts of the functions over it.
  Conditions: each theorem names its own.
-/
import Derived.Test.YtnkdjfmidiffdaaH6
set_option linter.unusedSimpArgs false
set_option linter.unusedVariables false
namespace Go.Proofs.Ytnkdjfmidiffdaa
open Go Go.Proofs Go.Am
variable {N : Nat}

theorem ActsAt.len {h : AHeap} {v : AV} {l : List ActD} (A : ActsAt h v l) : l.length ≤ 2000000 := by obtain ⟨_, _, _, _, h⟩ := A; exact h
theorem ActsAt.row {h0 h : AHeap} {v : AV} {l : List ActD} (A : ActsAt h0 v l) (d : Dom h0 h) : lenA h .slice v = some (.int .i64 l.length) ∧ ∀ i (hi : i < l.length), ∃ (b o : Nat) (fv rv : AV), indexSliceA 6 v (.int .i64 i) = some (.ptr (some (b, o))) ∧
    loadA h (some 6) (.ptr (some (b, o))) = .val (.agg [.int .i64 l[i].kind, .int .i64 l[i].o, .int .i64 l[i].i, .int .u64 l[i].n, fv, rv]) h ∧
    loadA h none (.ptr (some (b, o + 0))) = .val (.int .i64 l[i].kind) h ∧ loadA h none (.ptr (some (b, o + 1))) = .val (.int .i64 l[i].o) h ∧ loadA h none (.ptr (some (b, o + 2))) = .val (.int .i64 l[i].i) h ∧ loadA h none (.ptr (some (b, o + 3))) = .val (.int .u64 l[i].n) h ∧
    loadA h none (.ptr (some (b, o + 4))) = .val fv h ∧ loadA h none (.ptr (some (b, o + 5))) = .val rv h ∧ h0 b ≠ none ∧
    ActAt h0 [.int .i64 l[i].kind, .int .i64 l[i].o, .int .i64 l[i].i, .int .u64 l[i].n, fv, rv] l[i] ∧ RSlice h0 1 fv (l[i].refs.map .bool) ∧ RSlice h0 1 rv (l[i].roots.map (.int .i64)) ∧ l[i].n < 18446744073709551616 ∧ l[i].refs.length ≤ 2000000 ∧ l[i].roots.length ≤ 2000000 := by
  obtain ⟨rows, s, e, a, bnd⟩ := A
  have six : ∀ r ∈ rows, r.length = 6 := fun r hr => by
    obtain ⟨i, hi, rfl⟩ := List.mem_iff_getElem.1 hr
    exact (a i hi (by omega)).six
  obtain ⟨f1, f2⟩ := flatten_at six
  have s' := s.dom d
  refine ⟨s'.at_.len l.length (by rw [f1, e]) (by omega), fun i hi => ?_⟩
  obtain ⟨b, o, g1, gb, g3, g2⟩ := s'.at_.index i (by rw [f1]; omega) (by omega) .i64
  rw [f2 i (by omega)] at g2
  have A := a i (by omega) hi
  obtain ⟨fv, rv, er, q1, q2, q3, q4, q5⟩ := id A
  have fld : ∀ j (hj : j < 6) u, rows[i]? = some rows[i] → rows[i][j]? = some u → loadA h none (.ptr (some (b, o + j))) = .val u h := fun j hj u _ hu => by
    refine g3 j u hj ?_
    rw [← f2 i (by omega), List.getElem?_take, if_pos hj, List.getElem?_drop] at hu
    exact hu
  have hri : rows[i]? = some rows[i] := List.getElem?_eq_getElem (by omega)
  rw [er] at g2 A
  refine ⟨b, o, fv, rv, g1, g2, fld 0 (by omega) _ hri (by rw [er]; rfl), fld 1 (by omega) _ hri (by rw [er]; rfl), fld 2 (by omega) _ hri (by rw [er]; rfl), fld 3 (by omega) _ hri (by rw [er]; rfl), fld 4 (by omega) _ hri (by rw [er]; rfl), fld 5 (by omega) _ hri (by rw [er]; rfl), s.at_.dom gb, A, q1, q2, q3, q4, q5⟩

/-- HeapApart. -/
theorem apart_c {h0 : AHeap} (cells : Int) {av mv : AV} {acts more : List ActD} (A : ActsAt h0 av acts) (M : ActsAt h0 mv more) : ARets Try.prog N 8 [.int .i64 cells, av, mv] h0 fun r _ => r = .bool true := by
  refine acalls_of_wp c8_ok mixed (by show 3 ≤ 82; decide) (wk_start ?_)
  unfold c8
  simp only [wk_skip, wk_region, wk_seq, wk_block, wk_cond, wk_exit, wk_ret, wk_draw, cnd_true, cnd_false, fin_nil, fin_seq, fin_seq_exit, fin_seq_ret, fin_seq_panic, fin_block, fin_block_exit, fin_block_ret, fin_block_panic, fin_loop, fin_loop_exit, fin_loop_ret, fin_loop_panic, ops_nil, ops_cons, ops_guard, res_val, res_new, main_nil, main_cons, main_guard, mres_val, mres_new, AOp.ev, AOpd.ev, evAll, evParts, evOpt, put_get, put_none, wantA, ARes.ofOpt, tmOf, List.getD_cons_zero, List.getD_cons_succ, Nat.reduceEqDiff, if_true, if_false, reduceIte, Nat.reduceAdd, Nat.reduceMul, binA, intOp, eqOp, nilOf, lenA_slice, callA, AV.cells, undefA, Option.map_some, Option.map_none, Bool.false_eq_true, reduceCtorEq, beq_false, beq_true, g_true, g_false, mg_true, mg_false, Bool.not_true, Bool.not_false, decide_true, decide_false, not_true_eq_false, not_false_eq_true, List.nil_append, List.cons_append, List.append_nil, Option.isNone_some, Option.isNone_none, List.getElem?_cons_zero, List.getElem?_cons_succ]
  refine res_ret (grown9_c cells A) ?_
  rintro r h1 d1 ⟨hb, wb, B, rfl, hB, lo, xs, ρ1, ρ2, b1⟩
  simp only [wk_skip, wk_region, wk_seq, wk_block, wk_cond, wk_exit, wk_ret, wk_draw, cnd_true, cnd_false, fin_nil, fin_seq, fin_seq_exit, fin_seq_ret, fin_seq_panic, fin_block, fin_block_exit, fin_block_ret, fin_block_panic, fin_loop, fin_loop_exit, fin_loop_ret, fin_loop_panic, ops_nil, ops_cons, ops_guard, res_val, res_new, main_nil, main_cons, main_guard, mres_val, mres_new, AOp.ev, AOpd.ev, evAll, evParts, evOpt, put_get, put_none, wantA, ARes.ofOpt, tmOf, List.getD_cons_zero, List.getD_cons_succ, Nat.reduceEqDiff, if_true, if_false, reduceIte, Nat.reduceAdd, Nat.reduceMul, binA, intOp, eqOp, nilOf, lenA_slice, callA, AV.cells, undefA, Option.map_some, Option.map_none, Bool.false_eq_true, reduceCtorEq, beq_false, beq_true, g_true, g_false, mg_true, mg_false, Bool.not_true, Bool.not_false, decide_true, decide_false, not_true_eq_false, not_false_eq_true, List.nil_append, List.cons_append, List.append_nil, Option.isNone_some, Option.isNone_none, List.getElem?_cons_zero, List.getElem?_cons_succ]
  refine res_ret answers10_c ?_
  rintro r h2 d2 ⟨rfl, m2⟩
  have b2 := b1.more m2
  simp only [wk_skip, wk_region, wk_seq, wk_block, wk_cond, wk_exit, wk_ret, wk_draw, cnd_true, cnd_false, fin_nil, fin_seq, fin_seq_exit, fin_seq_ret, fin_seq_panic, fin_block, fin_block_exit, fin_block_ret, fin_block_panic, fin_loop, fin_loop_exit, fin_loop_ret, fin_loop_panic, ops_nil, ops_cons, ops_guard, res_val, res_new, main_nil, main_cons, main_guard, mres_val, mres_new, AOp.ev, AOpd.ev, evAll, evParts, evOpt, put_get, put_none, wantA, ARes.ofOpt, tmOf, List.getD_cons_zero, List.getD_cons_succ, Nat.reduceEqDiff, if_true, if_false, reduceIte, Nat.reduceAdd, Nat.reduceMul, binA, intOp, eqOp, nilOf, lenA_slice, callA, AV.cells, undefA, Option.map_some, Option.map_none, Bool.false_eq_true, reduceCtorEq, beq_false, beq_true, g_true, g_false, mg_true, mg_false, Bool.not_true, Bool.not_false, decide_true, decide_false, not_true_eq_false, not_false_eq_true, List.nil_append, List.cons_append, List.append_nil, Option.isNone_some, Option.isNone_none, List.getElem?_cons_zero, List.getElem?_cons_succ]
  refine res_ret (copy26_c b2.heap) ?_
  rintro r h3 d3 ⟨c, lc, ρc, rfl, m3, pc, Rc, hρc⟩
  have b3 := b2.more m3
  have d03 := (d1.trans d2).trans d3
  have apc : ∀ d, ρc d ≠ 0 → ρ1 d = 0 ∧ ρ2 d = 0 := fun d hd => b2.free' (hρc d hd)
  simp only [wk_skip, wk_region, wk_seq, wk_block, wk_cond, wk_exit, wk_ret, wk_draw, cnd_true, cnd_false, fin_nil, fin_seq, fin_seq_exit, fin_seq_ret, fin_seq_panic, fin_block, fin_block_exit, fin_block_ret, fin_block_panic, fin_loop, fin_loop_exit, fin_loop_ret, fin_loop_panic, ops_nil, ops_cons, ops_guard, res_val, res_new, main_nil, main_cons, main_guard, mres_val, mres_new, AOp.ev, AOpd.ev, evAll, evParts, evOpt, put_get, put_none, wantA, ARes.ofOpt, tmOf, List.getD_cons_zero, List.getD_cons_succ, Nat.reduceEqDiff, if_true, if_false, reduceIte, Nat.reduceAdd, Nat.reduceMul, binA, intOp, eqOp, nilOf, lenA_slice, callA, AV.cells, undefA, Option.map_some, Option.map_none, Bool.false_eq_true, reduceCtorEq, beq_false, beq_true, g_true, g_false, mg_true, mg_false, Bool.not_true, Bool.not_false, decide_true, decide_false, not_true_eq_false, not_false_eq_true, List.nil_append, List.cons_append, List.append_nil, Option.isNone_some, Option.isNone_none, List.getElem?_cons_zero, List.getElem?_cons_succ]
  refine wk_loopD (fun k tm ds h4 => ds = [] ∧ tm 2 = mv ∧ tm 7 = .ptr (some (hb, 0)) ∧ tm 8 = .ptr (some (wb, 0)) ∧ tm 9 = .ptr (some (c, 0)) ∧ (∃ lc ρc, HRep h4 c B lc ρc ∧ (∀ d, ρc d ≠ 0 → ρ1 d = 0 ∧ ρ2 d = 0) ∧ ∀ d, ρc d ≠ 0 → h0 d = none) ∧ Both h0 h4 hb wb B lo xs ρ1 ρ2 ∧ ∃ i : Nat, tm 10 = .int .i64 i ∧ i + k = more.length) more.length
    ⟨rfl, rfl, rfl, rfl, rfl, ⟨lc, ρc, Rc, apc, fun d hd => by
      cases e : h0 d with
      | none => rfl
      | some y => exact absurd (hρc d hd) ((d1.trans d2).dom d (by rw [e]; simp))⟩, b3, 0, rfl, by simp⟩ ?_
  rintro k tm ds h4 d4 ⟨rfl, t2, t7, t8, t9, ⟨lc, ρc, Rc, apc, newc⟩, b4, i, t10, hk⟩
  have d04 := d03.trans d4
  obtain ⟨a1, a2⟩ := M.row d04
  have hml := M.len
  simp only [wk_skip, wk_region, wk_seq, wk_block, wk_cond, wk_exit, wk_ret, wk_draw, cnd_true, cnd_false, fin_nil, fin_seq, fin_seq_exit, fin_seq_ret, fin_seq_panic, fin_block, fin_block_exit, fin_block_ret, fin_block_panic, fin_loop, fin_loop_exit, fin_loop_ret, fin_loop_panic, ops_nil, ops_cons, ops_guard, res_val, res_new, main_nil, main_cons, main_guard, mres_val, mres_new, AOp.ev, AOpd.ev, evAll, evParts, evOpt, put_get, put_none, wantA, ARes.ofOpt, tmOf, List.getD_cons_zero, List.getD_cons_succ, Nat.reduceEqDiff, if_true, if_false, reduceIte, Nat.reduceAdd, Nat.reduceMul, binA, intOp, eqOp, nilOf, lenA_slice, callA, AV.cells, undefA, Option.map_some, Option.map_none, Bool.false_eq_true, reduceCtorEq, beq_false, beq_true, g_true, g_false, mg_true, mg_false, Bool.not_true, Bool.not_false, decide_true, decide_false, not_true_eq_false, not_false_eq_true, List.nil_append, List.cons_append, List.append_nil, Option.isNone_some, Option.isNone_none, List.getElem?_cons_zero, List.getElem?_cons_succ, t2, t9, t10, a1]
  refine g_dec (fun hi => ?_) (fun hi => ?_)
  · have hi' : i < more.length := by omega
    have wri : IntKind.i64.wrap ((i : Int) + 1) = ((i + 1 : Nat) : Int) := by rw [wrap64 (by omega) (by omega)]; rfl
    obtain ⟨b, o, fv, rv, g1, _, _, _, _, _, l4, l5, hb0, _, Sf, Sr, hn64, hlf, hlr⟩ := a2 i hi'
    have freeb : ρc b = 0 := by
      by_cases e : ρc b = 0
      · exact e
      · exact absurd (newc b e) hb0
    simp only [wk_skip, wk_region, wk_seq, wk_block, wk_cond, wk_exit, wk_ret, wk_draw, cnd_true, cnd_false, fin_nil, fin_seq, fin_seq_exit, fin_seq_ret, fin_seq_panic, fin_block, fin_block_exit, fin_block_ret, fin_block_panic, fin_loop, fin_loop_exit, fin_loop_ret, fin_loop_panic, ops_nil, ops_cons, ops_guard, res_val, res_new, main_nil, main_cons, main_guard, mres_val, mres_new, AOp.ev, AOpd.ev, evAll, evParts, evOpt, put_get, put_none, wantA, ARes.ofOpt, tmOf, List.getD_cons_zero, List.getD_cons_succ, Nat.reduceEqDiff, if_true, if_false, reduceIte, Nat.reduceAdd, Nat.reduceMul, binA, intOp, eqOp, nilOf, lenA_slice, callA, AV.cells, undefA, Option.map_some, Option.map_none, Bool.false_eq_true, reduceCtorEq, beq_false, beq_true, g_true, g_false, mg_true, mg_false, Bool.not_true, Bool.not_false, decide_true, decide_false, not_true_eq_false, not_false_eq_true, List.nil_append, List.cons_append, List.append_nil, Option.isNone_some, Option.isNone_none, List.getElem?_cons_zero, List.getElem?_cons_succ, hi, t2, t9, t10, g1, l4, l5, fill_nil]
    intro eb heb
    have me := More.upd heb (.cells [] false)
    have de : Dom h4 (h4.upd eb (.cells [] false)) := Dom.new heb _
    have hbe : h4 b ≠ none := d04.dom b hb0
    have l4' := loadA_more me l4
    have l5' := loadA_more me l5
    have nbe : b ≠ eb := fun e => by rw [e, heb] at hbe; exact hbe rfl
    simp only [wk_skip, wk_region, wk_seq, wk_block, wk_cond, wk_exit, wk_ret, wk_draw, cnd_true, cnd_false, fin_nil, fin_seq, fin_seq_exit, fin_seq_ret, fin_seq_panic, fin_block, fin_block_exit, fin_block_ret, fin_block_panic, fin_loop, fin_loop_exit, fin_loop_ret, fin_loop_panic, ops_nil, ops_cons, ops_guard, res_val, res_new, main_nil, main_cons, main_guard, mres_val, mres_new, AOp.ev, AOpd.ev, evAll, evParts, evOpt, put_get, put_none, wantA, ARes.ofOpt, tmOf, List.getD_cons_zero, List.getD_cons_succ, Nat.reduceEqDiff, if_true, if_false, reduceIte, Nat.reduceAdd, Nat.reduceMul, binA, intOp, eqOp, nilOf, lenA_slice, callA, AV.cells, undefA, Option.map_some, Option.map_none, Bool.false_eq_true, reduceCtorEq, beq_false, beq_true, g_true, g_false, mg_true, mg_false, Bool.not_true, Bool.not_false, decide_true, decide_false, not_true_eq_false, not_false_eq_true, List.nil_append, List.cons_append, List.append_nil, Option.isNone_some, Option.isNone_none, List.getElem?_cons_zero, List.getElem?_cons_succ, t2, t9, t10, g1, l4', l5']
    refine mres_append (bytes := 1) (Grown.make (sz := 1) (n := 0) (ex := true) heb (x := []) (by simp)) ((Sf.dom d04).dom de).at_ (by omega) (by simp; omega) (by omega) rfl (by simp [AV.oneCell]) ?_ ?_
    · intro q hq x hx
      cases hq
      simp only [List.mem_cons, List.not_mem_nil, or_false] at hx
      subst hx
      intro o' e
      simp only [wk_skip, wk_region, wk_seq, wk_block, wk_cond, wk_exit, wk_ret, wk_draw, cnd_true, cnd_false, fin_nil, fin_seq, fin_seq_exit, fin_seq_ret, fin_seq_panic, fin_block, fin_block_exit, fin_block_ret, fin_block_panic, fin_loop, fin_loop_exit, fin_loop_ret, fin_loop_panic, ops_nil, ops_cons, ops_guard, res_val, res_new, main_nil, main_cons, main_guard, mres_val, mres_new, AOp.ev, AOpd.ev, evAll, evParts, evOpt, put_get, put_none, wantA, ARes.ofOpt, tmOf, List.getD_cons_zero, List.getD_cons_succ, Nat.reduceEqDiff, if_true, if_false, reduceIte, Nat.reduceAdd, Nat.reduceMul, binA, intOp, eqOp, nilOf, lenA_slice, callA, AV.cells, undefA, Option.map_some, Option.map_none, Bool.false_eq_true, reduceCtorEq, beq_false, beq_true, g_true, g_false, mg_true, mg_false, Bool.not_true, Bool.not_false, decide_true, decide_false, not_true_eq_false, not_false_eq_true, List.nil_append, List.cons_append, List.append_nil, Option.isNone_some, Option.isNone_none, List.getElem?_cons_zero, List.getElem?_cons_succ, AV.ptr.injEq, Option.some.injEq, Prod.mk.injEq] at e
      exact nbe e.1
    intro fv' h5 G5 d5 k5 o5
    rw [List.nil_append] at G5
    have b5 := b4.more G5.more
    have Rc5 := Rc.keep (h' := h5) fun d hd => G5.more d (Rc.dom d hd)
    have d45 := de.trans d5
    simp only [wk_skip, wk_region, wk_seq, wk_block, wk_cond, wk_exit, wk_ret, wk_draw, cnd_true, cnd_false, fin_nil, fin_seq, fin_seq_exit, fin_seq_ret, fin_seq_panic, fin_block, fin_block_exit, fin_block_ret, fin_block_panic, fin_loop, fin_loop_exit, fin_loop_ret, fin_loop_panic, ops_nil, ops_cons, ops_guard, res_val, res_new, main_nil, main_cons, main_guard, mres_val, mres_new, AOp.ev, AOpd.ev, evAll, evParts, evOpt, put_get, put_none, wantA, ARes.ofOpt, tmOf, List.getD_cons_zero, List.getD_cons_succ, Nat.reduceEqDiff, if_true, if_false, reduceIte, Nat.reduceAdd, Nat.reduceMul, binA, intOp, eqOp, nilOf, lenA_slice, callA, AV.cells, undefA, Option.map_some, Option.map_none, Bool.false_eq_true, reduceCtorEq, beq_false, beq_true, g_true, g_false, mg_true, mg_false, Bool.not_true, Bool.not_false, decide_true, decide_false, not_true_eq_false, not_false_eq_true, List.nil_append, List.cons_append, List.append_nil, Option.isNone_some, Option.isNone_none, List.getElem?_cons_zero, List.getElem?_cons_succ]
    refine mres_ret (ints13_c ((Sr.dom d04).dom d45).at_ (by simp; omega) (by simp [AV.oneCell])) ?_
    intro rv' h6 d6 G6
    refine ⟨trivial, ?_⟩
    have b6 := b5.more G6.more
    have Rc6 := Rc5.keep (h' := h6) fun d hd => G6.more d (Rc5.dom d hd)
    simp only [wk_skip, wk_region, wk_seq, wk_block, wk_cond, wk_exit, wk_ret, wk_draw, cnd_true, cnd_false, fin_nil, fin_seq, fin_seq_exit, fin_seq_ret, fin_seq_panic, fin_block, fin_block_exit, fin_block_ret, fin_block_panic, fin_loop, fin_loop_exit, fin_loop_ret, fin_loop_panic, ops_nil, ops_cons, ops_guard, res_val, res_new, main_nil, main_cons, main_guard, mres_val, mres_new, AOp.ev, AOpd.ev, evAll, evParts, evOpt, put_get, put_none, wantA, ARes.ofOpt, tmOf, List.getD_cons_zero, List.getD_cons_succ, Nat.reduceEqDiff, if_true, if_false, reduceIte, Nat.reduceAdd, Nat.reduceMul, binA, intOp, eqOp, nilOf, lenA_slice, callA, AV.cells, undefA, Option.map_some, Option.map_none, Bool.false_eq_true, reduceCtorEq, beq_false, beq_true, g_true, g_false, mg_true, mg_false, Bool.not_true, Bool.not_false, decide_true, decide_false, not_true_eq_false, not_false_eq_true, List.nil_append, List.cons_append, List.append_nil, Option.isNone_some, Option.isNone_none, List.getElem?_cons_zero, List.getElem?_cons_succ]
    refine res_ret (alloc12_c Rc6 (slice_more G5.at_ G6.more) G6.at_ (by omega) (by omega) fun d hd => ?_) ?_
    · by_cases e : ρc d = 0
      · exact e
      · exact absurd (G5.own d hd).1 (Rc.dom d e)
    rintro r h7 d7 ⟨n, e, lc7, ρc7, rfl, _, R7, off7, m7⟩
    have d67 := (d45.trans d6).trans d7
    have d07 := d04.trans d67
    have b7 := b6.keep (h' := h7) fun d hd => off7 d (by
      by_cases e : ρc d = 0
      · exact e
      · obtain ⟨x1, x2⟩ := apc d e
        rcases hd with h | h
        · exact absurd x1 h
        · exact absurd x2 h) (hd.elim (b6.heap.dom d) (b6.ref.dom d))
    have ap7 : ∀ d, ρc7 d ≠ 0 → ρ1 d = 0 ∧ ρ2 d = 0 := fun d hd => (m7 d hd).elim (apc d) b6.free'
    have new7 : ∀ d, ρc7 d ≠ 0 → h0 d = none := fun d hd => (m7 d hd).elim (newc d) fun e => by
      cases e0 : h0 d with
      | none => rfl
      | some y => exact absurd e ((d04.trans (d45.trans d6)).dom d (by rw [e0]; simp))
    obtain ⟨_, a7⟩ := M.row d07
    obtain ⟨b', o', _, _, g1', _, _, l1, l2, l3, _, l5', _⟩ := a7 i hi'
    rw [g1] at g1'
    cases g1'
    simp only [wk_skip, wk_region, wk_seq, wk_block, wk_cond, wk_exit, wk_ret, wk_draw, cnd_true, cnd_false, fin_nil, fin_seq, fin_seq_exit, fin_seq_ret, fin_seq_panic, fin_block, fin_block_exit, fin_block_ret, fin_block_panic, fin_loop, fin_loop_exit, fin_loop_ret, fin_loop_panic, ops_nil, ops_cons, ops_guard, res_val, res_new, main_nil, main_cons, main_guard, mres_val, mres_new, AOp.ev, AOpd.ev, evAll, evParts, evOpt, put_get, put_none, wantA, ARes.ofOpt, tmOf, List.getD_cons_zero, List.getD_cons_succ, Nat.reduceEqDiff, if_true, if_false, reduceIte, Nat.reduceAdd, Nat.reduceMul, binA, intOp, eqOp, nilOf, lenA_slice, callA, AV.cells, undefA, Option.map_some, Option.map_none, Bool.false_eq_true, reduceCtorEq, beq_false, beq_true, g_true, g_false, mg_true, mg_false, Bool.not_true, Bool.not_false, decide_true, decide_false, not_true_eq_false, not_false_eq_true, List.nil_append, List.cons_append, List.append_nil, Option.isNone_some, Option.isNone_none, List.getElem?_cons_zero, List.getElem?_cons_succ, t2, t9, t10, g1, l1, l2, l3]
    refine res_ret (set29_c R7 more[i].o more[i].i more[i].n hn64) ?_
    rintro r h8 d8 ⟨e, lc8, rfl, _, R8, off8⟩
    have d08 := d07.trans d8
    have b8 := b7.keep (h' := h8) fun d hd => off8 d (by
      by_cases e : ρc7 d = 0
      · exact e
      · obtain ⟨x1, x2⟩ := ap7 d e
        rcases hd with h | h
        · exact absurd x1 h
        · exact absurd x2 h) (hd.elim (b7.heap.dom d) (b7.ref.dom d))
    obtain ⟨_, a8⟩ := M.row d08
    obtain ⟨b', o', fv8, rv8, g1', _, _, _, _, _, _, l5', _, _, _, Sr8, _⟩ := a8 i hi'
    rw [g1] at g1'
    cases g1'
    simp only [wk_skip, wk_region, wk_seq, wk_block, wk_cond, wk_exit, wk_ret, wk_draw, cnd_true, cnd_false, fin_nil, fin_seq, fin_seq_exit, fin_seq_ret, fin_seq_panic, fin_block, fin_block_exit, fin_block_ret, fin_block_panic, fin_loop, fin_loop_exit, fin_loop_ret, fin_loop_panic, ops_nil, ops_cons, ops_guard, res_val, res_new, main_nil, main_cons, main_guard, mres_val, mres_new, AOp.ev, AOpd.ev, evAll, evParts, evOpt, put_get, put_none, wantA, ARes.ofOpt, tmOf, List.getD_cons_zero, List.getD_cons_succ, Nat.reduceEqDiff, if_true, if_false, reduceIte, Nat.reduceAdd, Nat.reduceMul, binA, intOp, eqOp, nilOf, lenA_slice, callA, AV.cells, undefA, Option.map_some, Option.map_none, Bool.false_eq_true, reduceCtorEq, beq_false, beq_true, g_true, g_false, mg_true, mg_false, Bool.not_true, Bool.not_false, decide_true, decide_false, not_true_eq_false, not_false_eq_true, List.nil_append, List.cons_append, List.append_nil, Option.isNone_some, Option.isNone_none, List.getElem?_cons_zero, List.getElem?_cons_succ, t2, t9, t10, g1, l5']
    refine res_ret (ints13_c (Sr8.dom d08).at_ (by simp; omega) (by simp [AV.oneCell])) ?_
    intro rv9 h9 d9 G9
    have b9 := b8.more G9.more
    have R9 := R8.keep (h' := h9) fun d hd => G9.more d (R8.dom d hd)
    simp only [wk_skip, wk_region, wk_seq, wk_block, wk_cond, wk_exit, wk_ret, wk_draw, cnd_true, cnd_false, fin_nil, fin_seq, fin_seq_exit, fin_seq_ret, fin_seq_panic, fin_block, fin_block_exit, fin_block_ret, fin_block_panic, fin_loop, fin_loop_exit, fin_loop_ret, fin_loop_panic, ops_nil, ops_cons, ops_guard, res_val, res_new, main_nil, main_cons, main_guard, mres_val, mres_new, AOp.ev, AOpd.ev, evAll, evParts, evOpt, put_get, put_none, wantA, ARes.ofOpt, tmOf, List.getD_cons_zero, List.getD_cons_succ, Nat.reduceEqDiff, if_true, if_false, reduceIte, Nat.reduceAdd, Nat.reduceMul, binA, intOp, eqOp, nilOf, lenA_slice, callA, AV.cells, undefA, Option.map_some, Option.map_none, Bool.false_eq_true, reduceCtorEq, beq_false, beq_true, g_true, g_false, mg_true, mg_false, Bool.not_true, Bool.not_false, decide_true, decide_false, not_true_eq_false, not_false_eq_true, List.nil_append, List.cons_append, List.append_nil, Option.isNone_some, Option.isNone_none, List.getElem?_cons_zero, List.getElem?_cons_succ]
    refine res_ret (collect22_c R9 G9.at_ (by omega)) ?_
    rintro r h10 d10 ⟨n, e, rfl, off10, hc⟩
    obtain ⟨lc10, R10⟩ : ∃ l, HRep h10 c B l ρc7 := by
      rcases hc with ⟨_, _, _, h⟩ | ⟨_, _, _, h⟩ <;> exact ⟨_, h⟩
    have b10 := b9.keep (h' := h10) fun d hd => off10 d (by
      by_cases e : ρc7 d = 0
      · exact e
      · obtain ⟨x1, x2⟩ := ap7 d e
        rcases hd with h | h
        · exact absurd x1 h
        · exact absurd x2 h) (hd.elim (b9.heap.dom d) (b9.ref.dom d))
    simp only [wk_skip, wk_region, wk_seq, wk_block, wk_cond, wk_exit, wk_ret, wk_draw, cnd_true, cnd_false, fin_nil, fin_seq, fin_seq_exit, fin_seq_ret, fin_seq_panic, fin_block, fin_block_exit, fin_block_ret, fin_block_panic, fin_loop, fin_loop_exit, fin_loop_ret, fin_loop_panic, ops_nil, ops_cons, ops_guard, res_val, res_new, main_nil, main_cons, main_guard, mres_val, mres_new, AOp.ev, AOpd.ev, evAll, evParts, evOpt, put_get, put_none, wantA, ARes.ofOpt, tmOf, List.getD_cons_zero, List.getD_cons_succ, Nat.reduceEqDiff, if_true, if_false, reduceIte, Nat.reduceAdd, Nat.reduceMul, binA, intOp, eqOp, nilOf, lenA_slice, callA, AV.cells, undefA, Option.map_some, Option.map_none, Bool.false_eq_true, reduceCtorEq, beq_false, beq_true, g_true, g_false, mg_true, mg_false, Bool.not_true, Bool.not_false, decide_true, decide_false, not_true_eq_false, not_false_eq_true, List.nil_append, List.cons_append, List.append_nil, Option.isNone_some, Option.isNone_none, List.getElem?_cons_zero, List.getElem?_cons_succ, t10, wri]
    exact meet ⟨k - 1, by omega, rfl, by simp [TM.put, t2], by simp [TM.put, t7], by simp [TM.put, t8], by simp [TM.put, t9], ⟨lc10, ρc7, R10, ap7, new7⟩, b10, i + 1, by simp [TM.put], by omega⟩
  · simp only [wk_skip, wk_region, wk_seq, wk_block, wk_cond, wk_exit, wk_ret, wk_draw, cnd_true, cnd_false, fin_nil, fin_seq, fin_seq_exit, fin_seq_ret, fin_seq_panic, fin_block, fin_block_exit, fin_block_ret, fin_block_panic, fin_loop, fin_loop_exit, fin_loop_ret, fin_loop_panic, ops_nil, ops_cons, ops_guard, res_val, res_new, main_nil, main_cons, main_guard, mres_val, mres_new, AOp.ev, AOpd.ev, evAll, evParts, evOpt, put_get, put_none, wantA, ARes.ofOpt, tmOf, List.getD_cons_zero, List.getD_cons_succ, Nat.reduceEqDiff, if_true, if_false, reduceIte, Nat.reduceAdd, Nat.reduceMul, binA, intOp, eqOp, nilOf, lenA_slice, callA, AV.cells, undefA, Option.map_some, Option.map_none, Bool.false_eq_true, reduceCtorEq, beq_false, beq_true, g_true, g_false, mg_true, mg_false, Bool.not_true, Bool.not_false, decide_true, decide_false, not_true_eq_false, not_false_eq_true, List.nil_append, List.cons_append, List.append_nil, Option.isNone_some, Option.isNone_none, List.getElem?_cons_zero, List.getElem?_cons_succ, hi, t7, t8, t9]
    refine res_ret (alike28_c b4) ?_
    rintro r h5 d5 ⟨rfl, _⟩
    simp only [wk_skip, wk_region, wk_seq, wk_block, wk_cond, wk_exit, wk_ret, wk_draw, cnd_true, cnd_false, fin_nil, fin_seq, fin_seq_exit, fin_seq_ret, fin_seq_panic, fin_block, fin_block_exit, fin_block_ret, fin_block_panic, fin_loop, fin_loop_exit, fin_loop_ret, fin_loop_panic, ops_nil, ops_cons, ops_guard, res_val, res_new, main_nil, main_cons, main_guard, mres_val, mres_new, AOp.ev, AOpd.ev, evAll, evParts, evOpt, put_get, put_none, wantA, ARes.ofOpt, tmOf, List.getD_cons_zero, List.getD_cons_succ, Nat.reduceEqDiff, if_true, if_false, reduceIte, Nat.reduceAdd, Nat.reduceMul, binA, intOp, eqOp, nilOf, lenA_slice, callA, AV.cells, undefA, Option.map_some, Option.map_none, Bool.false_eq_true, reduceCtorEq, beq_false, beq_true, g_true, g_false, mg_true, mg_false, Bool.not_true, Bool.not_false, decide_true, decide_false, not_true_eq_false, not_false_eq_true, List.nil_append, List.cons_append, List.append_nil, Option.isNone_some, Option.isNone_none, List.getElem?_cons_zero, List.getElem?_cons_succ]
    exact fnEnd_ret1 (by simp [TM.put])
end Go.Proofs.Ytnkdjfmidiffdaa
