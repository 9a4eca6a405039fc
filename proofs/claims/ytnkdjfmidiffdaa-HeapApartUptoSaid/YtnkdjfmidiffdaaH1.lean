/-
  Part of the proofs about the heap: an abstract memory, its compiled code, and the contracts of the functions over it.
  Conditions: each theorem names its own.
-/
import Derived.Test.YtnkdjfmidiffdaaCode
set_option linter.unusedSimpArgs false
set_option linter.unusedVariables false
namespace Go.Proofs.Ytnkdjfmidiffdaa
open Go Go.Proofs Go.Am
variable {N : Nat}

theorem has_c {h : AHeap} {v : AV} {l : List Int} (H : Ints h v l) (hl : l.length ≤ 4294967296) (n : Int) : ACalls Try.prog N 19 [v, .int .i64 n] h (fun e h' => h' = h ∧ e = .ret (.bool (decide (n ∈ l)))) := by
  refine acalls_of_wp c19_ok mixed (by show 2 ≤ 18; decide) (wk_start ?_)
  unfold c19
  simp only [wk_skip, wk_region, wk_seq, wk_block, wk_cond, wk_exit, wk_ret, wk_draw, cnd_true, cnd_false, fin_nil, fin_seq, fin_seq_exit, fin_seq_ret, fin_seq_panic, fin_block, fin_block_exit, fin_block_ret, fin_block_panic, fin_loop, fin_loop_exit, fin_loop_ret, fin_loop_panic, ops_nil, ops_cons, ops_guard, res_val, res_new, main_nil, main_cons, main_guard, mres_val, mres_new, AOp.ev, AOpd.ev, evAll, evParts, evOpt, put_get, put_none, wantA, ARes.ofOpt, tmOf, List.getD_cons_zero, List.getD_cons_succ, Nat.reduceEqDiff, if_true, if_false, reduceIte, Nat.reduceAdd, Nat.reduceMul, binA, intOp, eqOp, nilOf, lenA_slice, callA, AV.cells, undefA, Option.map_some, Option.map_none, Bool.false_eq_true, reduceCtorEq, beq_false, beq_true, g_true, g_false, mg_true, mg_false, Bool.not_true, Bool.not_false, decide_true, decide_false, not_true_eq_false, not_false_eq_true, List.nil_append, List.cons_append, List.append_nil, Option.isNone_some, Option.isNone_none, List.getElem?_cons_zero, List.getElem?_cons_succ]
  refine wk_loop (fun k tm ds h' => ds = [] ∧ h' = h ∧ tm 0 = v ∧ tm 1 = .int .i64 n ∧ ∃ i : Nat, tm 5 = .int .i64 i ∧ i + k = l.length ∧ n ∉ l.take i) l.length ⟨rfl, rfl, rfl, rfl, 0, rfl, by simp, by simp⟩ ?_
  rintro k tm ds h' ⟨rfl, rfl, t0, t1, i, t5, hk, hn⟩
  have hlen := H.len l.length (by simp) (by omega)
  simp only [wk_skip, wk_region, wk_seq, wk_block, wk_cond, wk_exit, wk_ret, wk_draw, cnd_true, cnd_false, fin_nil, fin_seq, fin_seq_exit, fin_seq_ret, fin_seq_panic, fin_block, fin_block_exit, fin_block_ret, fin_block_panic, fin_loop, fin_loop_exit, fin_loop_ret, fin_loop_panic, ops_nil, ops_cons, ops_guard, res_val, res_new, main_nil, main_cons, main_guard, mres_val, mres_new, AOp.ev, AOpd.ev, evAll, evParts, evOpt, put_get, put_none, wantA, ARes.ofOpt, tmOf, List.getD_cons_zero, List.getD_cons_succ, Nat.reduceEqDiff, if_true, if_false, reduceIte, Nat.reduceAdd, Nat.reduceMul, binA, intOp, eqOp, nilOf, lenA_slice, callA, AV.cells, undefA, Option.map_some, Option.map_none, Bool.false_eq_true, reduceCtorEq, beq_false, beq_true, g_true, g_false, mg_true, mg_false, Bool.not_true, Bool.not_false, decide_true, decide_false, not_true_eq_false, not_false_eq_true, List.nil_append, List.cons_append, List.append_nil, Option.isNone_some, Option.isNone_none, List.getElem?_cons_zero, List.getElem?_cons_succ, t0, t1, t5, hlen]
  refine cond_dec (fun hi => ?_) (fun hi => ?_)
  · have hi' : i < l.length := by omega
    obtain ⟨b, o, g1, _, g2⟩ := H.get i (by simpa using hi') .i64
    simp only [List.getElem_map] at g2
    simp only [wk_skip, wk_region, wk_seq, wk_block, wk_cond, wk_exit, wk_ret, wk_draw, cnd_true, cnd_false, fin_nil, fin_seq, fin_seq_exit, fin_seq_ret, fin_seq_panic, fin_block, fin_block_exit, fin_block_ret, fin_block_panic, fin_loop, fin_loop_exit, fin_loop_ret, fin_loop_panic, ops_nil, ops_cons, ops_guard, res_val, res_new, main_nil, main_cons, main_guard, mres_val, mres_new, AOp.ev, AOpd.ev, evAll, evParts, evOpt, put_get, put_none, wantA, ARes.ofOpt, tmOf, List.getD_cons_zero, List.getD_cons_succ, Nat.reduceEqDiff, if_true, if_false, reduceIte, Nat.reduceAdd, Nat.reduceMul, binA, intOp, eqOp, nilOf, lenA_slice, callA, AV.cells, undefA, Option.map_some, Option.map_none, Bool.false_eq_true, reduceCtorEq, beq_false, beq_true, g_true, g_false, mg_true, mg_false, Bool.not_true, Bool.not_false, decide_true, decide_false, not_true_eq_false, not_false_eq_true, List.nil_append, List.cons_append, List.append_nil, Option.isNone_some, Option.isNone_none, List.getElem?_cons_zero, List.getElem?_cons_succ, t0, t1, t5, g1, g2]
    refine cond_dec (fun he => ?_) (fun he => ?_)
    · simp only [wk_skip, wk_region, wk_seq, wk_block, wk_cond, wk_exit, wk_ret, wk_draw, cnd_true, cnd_false, fin_nil, fin_seq, fin_seq_exit, fin_seq_ret, fin_seq_panic, fin_block, fin_block_exit, fin_block_ret, fin_block_panic, fin_loop, fin_loop_exit, fin_loop_ret, fin_loop_panic, ops_nil, ops_cons, ops_guard, res_val, res_new, main_nil, main_cons, main_guard, mres_val, mres_new, AOp.ev, AOpd.ev, evAll, evParts, evOpt, put_get, put_none, wantA, ARes.ofOpt, tmOf, List.getD_cons_zero, List.getD_cons_succ, Nat.reduceEqDiff, if_true, if_false, reduceIte, Nat.reduceAdd, Nat.reduceMul, binA, intOp, eqOp, nilOf, lenA_slice, callA, AV.cells, undefA, Option.map_some, Option.map_none, Bool.false_eq_true, reduceCtorEq, beq_false, beq_true, g_true, g_false, mg_true, mg_false, Bool.not_true, Bool.not_false, decide_true, decide_false, not_true_eq_false, not_false_eq_true, List.nil_append, List.cons_append, List.append_nil, Option.isNone_some, Option.isNone_none, List.getElem?_cons_zero, List.getElem?_cons_succ]
      refine fnEnd_ret1 ⟨rfl, ?_⟩
      have : n ∈ l := he ▸ List.getElem_mem hi'
      simp [TM.put, this]
    · simp only [wk_skip, wk_region, wk_seq, wk_block, wk_cond, wk_exit, wk_ret, wk_draw, cnd_true, cnd_false, fin_nil, fin_seq, fin_seq_exit, fin_seq_ret, fin_seq_panic, fin_block, fin_block_exit, fin_block_ret, fin_block_panic, fin_loop, fin_loop_exit, fin_loop_ret, fin_loop_panic, ops_nil, ops_cons, ops_guard, res_val, res_new, main_nil, main_cons, main_guard, mres_val, mres_new, AOp.ev, AOpd.ev, evAll, evParts, evOpt, put_get, put_none, wantA, ARes.ofOpt, tmOf, List.getD_cons_zero, List.getD_cons_succ, Nat.reduceEqDiff, if_true, if_false, reduceIte, Nat.reduceAdd, Nat.reduceMul, binA, intOp, eqOp, nilOf, lenA_slice, callA, AV.cells, undefA, Option.map_some, Option.map_none, Bool.false_eq_true, reduceCtorEq, beq_false, beq_true, g_true, g_false, mg_true, mg_false, Bool.not_true, Bool.not_false, decide_true, decide_false, not_true_eq_false, not_false_eq_true, List.nil_append, List.cons_append, List.append_nil, Option.isNone_some, Option.isNone_none, List.getElem?_cons_zero, List.getElem?_cons_succ, t0, t1, t5]
      refine meet ⟨k - 1, by omega, rfl, rfl, by simp [TM.put, t0], by simp [TM.put, t1], i + 1, ?_, by omega, ?_⟩
      · simp only [put_get, if_true]
        rw [wrap64 (by omega) (by omega)]; rfl
      · rw [List.take_add_one, List.mem_append]
        rintro (h | h)
        · exact hn h
        · simp [hi'] at h; exact he h.symm
  · simp only [wk_skip, wk_region, wk_seq, wk_block, wk_cond, wk_exit, wk_ret, wk_draw, cnd_true, cnd_false, fin_nil, fin_seq, fin_seq_exit, fin_seq_ret, fin_seq_panic, fin_block, fin_block_exit, fin_block_ret, fin_block_panic, fin_loop, fin_loop_exit, fin_loop_ret, fin_loop_panic, ops_nil, ops_cons, ops_guard, res_val, res_new, main_nil, main_cons, main_guard, mres_val, mres_new, AOp.ev, AOpd.ev, evAll, evParts, evOpt, put_get, put_none, wantA, ARes.ofOpt, tmOf, List.getD_cons_zero, List.getD_cons_succ, Nat.reduceEqDiff, if_true, if_false, reduceIte, Nat.reduceAdd, Nat.reduceMul, binA, intOp, eqOp, nilOf, lenA_slice, callA, AV.cells, undefA, Option.map_some, Option.map_none, Bool.false_eq_true, reduceCtorEq, beq_false, beq_true, g_true, g_false, mg_true, mg_false, Bool.not_true, Bool.not_false, decide_true, decide_false, not_true_eq_false, not_false_eq_true, List.nil_append, List.cons_append, List.append_nil, Option.isNone_some, Option.isNone_none, List.getElem?_cons_zero, List.getElem?_cons_succ]
    refine fnEnd_ret1 ⟨rfl, ?_⟩
    have : n ∉ l := by rw [List.take_of_length_le (by omega)] at hn; exact hn
    simp [TM.put, this]
end Go.Proofs.Ytnkdjfmidiffdaa
namespace Go.Proofs.Ytnkdjfmidiffdaa
open Go Go.Proofs Go.Am
variable {N : Nat}

/-- An object: its name, its cells, which of them name objects. -/
structure Ob where
  name : Nat
  cells : List Nat
  refs : List Bool

/-- An object, and the slices in which it lies. -/
abbrev Row := Ob × AV × AV
def rowsOf (xs : List Row) : List AV := xs.flatMap fun x => [.int .i64 x.1.name, x.2.1, x.2.2]
theorem rowsOf_len : ∀ xs : List Row, (rowsOf xs).length = xs.length * 3
  | [] => rfl
  | x :: xs => by
    have := rowsOf_len xs
    simp only [rowsOf, List.flatMap_cons, List.length_append, List.length_cons, List.length_nil] at this ⊢
    omega
theorem rowsOf_get : ∀ (xs : List Row) (i : Nat) (hi : i < xs.length), (rowsOf xs).drop (i * 3) = [.int .i64 xs[i].1.name, xs[i].2.1, xs[i].2.2] ++ rowsOf (xs.drop (i + 1))
  | x :: xs, 0, _ => by simp [rowsOf]
  | x :: xs, i + 1, hi => by
    have := rowsOf_get xs i (by simpa using hi)
    rw [show (i + 1) * 3 = i * 3 + 3 by omega]
    simp only [rowsOf, List.flatMap_cons] at this ⊢
    simp only [List.getElem_cons_succ, List.drop_succ_cons]
    exact this
theorem rowsOf_at (xs : List Row) (i : Nat) (hi : i < xs.length) : (rowsOf xs)[i * 3 + 0]? = some (.int .i64 xs[i].1.name) ∧ (rowsOf xs)[i * 3 + 1]? = some xs[i].2.1 ∧ (rowsOf xs)[i * 3 + 2]? = some xs[i].2.2 ∧
    ((rowsOf xs).drop (i * 3)).take 3 = [.int .i64 xs[i].1.name, xs[i].2.1, xs[i].2.2] := by
  have h := rowsOf_get xs i hi
  have g : ∀ j, (rowsOf xs)[i * 3 + j]? = ((rowsOf xs).drop (i * 3))[j]? := fun j => by rw [List.getElem?_drop]
  rw [g, g, g, h]
  exact ⟨rfl, rfl, rfl, rfl⟩

/-- The list of objects in the memory. -/
structure WIn (h : AHeap) (b : Nat) (L : AV) (B : Int) (xs : List Row) : Prop where
  top : h b = some (.cells [L, .int .i64 B] false)
  list : SliceAt h 3 L (rowsOf xs)
  cells : ∀ x ∈ xs, SliceAt h 1 x.2.1 (x.1.cells.map fun n : Nat => AV.int .u64 (n : Int))
  refs : ∀ x ∈ xs, SliceAt h 1 x.2.2 (x.1.refs.map .bool)
  same : ∀ x ∈ xs, x.1.refs.length = x.1.cells.length
  few : xs.length ≤ 65536
  small : ∀ x ∈ xs, x.1.cells.length ≤ 65536

/-- An object's row. -/
theorem WIn.row {h : AHeap} {b : Nat} {L : AV} {B : Int} {xs : List Row} (W : WIn h b L B xs) (i : Nat) (hi : i < xs.length) :
    ∃ c o, indexSliceA 3 L (.int .i64 i) = some (.ptr (some (c, o))) ∧ loadA h none (.ptr (some (c, o + 0))) = .val (.int .i64 xs[i].1.name) h ∧ loadA h none (.ptr (some (c, o + 1))) = .val xs[i].2.1 h ∧
      loadA h none (.ptr (some (c, o + 2))) = .val xs[i].2.2 h ∧ loadA h (some 3) (.ptr (some (c, o))) = .val (.agg [.int .i64 xs[i].1.name, xs[i].2.1, xs[i].2.2]) h := by
  have hl := rowsOf_len xs
  obtain ⟨c, o, h1, _, h2, h3⟩ := W.list.index i (by omega) (by omega) .i64
  obtain ⟨g0, g1, g2, g3⟩ := rowsOf_at xs i hi
  rw [g3] at h3
  exact ⟨c, o, h1, h2 0 _ (by omega) g0, h2 1 _ (by omega) g1, h2 2 _ (by omega) g2, h3⟩
theorem WIn.ld0 {h : AHeap} {b : Nat} {L : AV} {B : Int} {xs : List Row} (W : WIn h b L B xs) : loadA h none (.ptr (some (b, 0 + 0))) = .val L h := by simp [loadA, W.top]
theorem WIn.ld1 {h : AHeap} {b : Nat} {L : AV} {B : Int} {xs : List Row} (W : WIn h b L B xs) : loadA h none (.ptr (some (b, 0 + 1))) = .val (.int .i64 B) h := by simp [loadA, W.top]
theorem WIn.len {h : AHeap} {b : Nat} {L : AV} {B : Int} {xs : List Row} (W : WIn h b L B xs) : lenA h .slice L = some (.int .i64 xs.length) := W.list.len xs.length (by rw [rowsOf_len]) (by omega)

/-- What 'At' answers. -/
def AtSaid (xs : List Row) (n : Int) (r : Int) : Prop := (r = -1 ∧ ∀ x ∈ xs, (x.1.name : Int) ≠ n) ∨ ∃ (k : Nat) (hk : k < xs.length), r = k ∧ (xs[k].1.name : Int) = n

theorem at_c {h : AHeap} {b : Nat} {L : AV} {B : Int} {xs : List Row} (W : WIn h b L B xs) (n : Int) : ACalls Try.prog N 14 [.ptr (some (b, 0)), .int .i64 n] h (fun e h' => h' = h ∧ ∃ r, e = .ret (.int .i64 r) ∧ AtSaid xs n r) := by
  refine acalls_of_wp c14_ok mixed (by show 2 ≤ 26; decide) (wk_start ?_)
  unfold c14
  simp only [wk_skip, wk_region, wk_seq, wk_block, wk_cond, wk_exit, wk_ret, wk_draw, cnd_true, cnd_false, fin_nil, fin_seq, fin_seq_exit, fin_seq_ret, fin_seq_panic, fin_block, fin_block_exit, fin_block_ret, fin_block_panic, fin_loop, fin_loop_exit, fin_loop_ret, fin_loop_panic, ops_nil, ops_cons, ops_guard, res_val, res_new, main_nil, main_cons, main_guard, mres_val, mres_new, AOp.ev, AOpd.ev, evAll, evParts, evOpt, put_get, put_none, wantA, ARes.ofOpt, tmOf, List.getD_cons_zero, List.getD_cons_succ, Nat.reduceEqDiff, if_true, if_false, reduceIte, Nat.reduceAdd, Nat.reduceMul, binA, intOp, eqOp, nilOf, lenA_slice, callA, AV.cells, undefA, Option.map_some, Option.map_none, Bool.false_eq_true, reduceCtorEq, beq_false, beq_true, g_true, g_false, mg_true, mg_false, Bool.not_true, Bool.not_false, decide_true, decide_false, not_true_eq_false, not_false_eq_true, List.nil_append, List.cons_append, List.append_nil, Option.isNone_some, Option.isNone_none, List.getElem?_cons_zero, List.getElem?_cons_succ]
  refine wk_loop (fun k tm ds h' => ds = [] ∧ h' = h ∧ tm 0 = .ptr (some (b, 0)) ∧ tm 1 = .int .i64 n ∧ ∃ i : Nat, tm 5 = .int .i64 i ∧ i + k = xs.length ∧ ∀ x ∈ xs.take i, (x.1.name : Int) ≠ n) xs.length ⟨rfl, rfl, rfl, rfl, 0, rfl, by simp, by simp⟩ ?_
  rintro k tm ds h' ⟨rfl, rfl, t0, t1, i, t5, hk, hn⟩
  have few := W.few
  simp only [wk_skip, wk_region, wk_seq, wk_block, wk_cond, wk_exit, wk_ret, wk_draw, cnd_true, cnd_false, fin_nil, fin_seq, fin_seq_exit, fin_seq_ret, fin_seq_panic, fin_block, fin_block_exit, fin_block_ret, fin_block_panic, fin_loop, fin_loop_exit, fin_loop_ret, fin_loop_panic, ops_nil, ops_cons, ops_guard, res_val, res_new, main_nil, main_cons, main_guard, mres_val, mres_new, AOp.ev, AOpd.ev, evAll, evParts, evOpt, put_get, put_none, wantA, ARes.ofOpt, tmOf, List.getD_cons_zero, List.getD_cons_succ, Nat.reduceEqDiff, if_true, if_false, reduceIte, Nat.reduceAdd, Nat.reduceMul, binA, intOp, eqOp, nilOf, lenA_slice, callA, AV.cells, undefA, Option.map_some, Option.map_none, Bool.false_eq_true, reduceCtorEq, beq_false, beq_true, g_true, g_false, mg_true, mg_false, Bool.not_true, Bool.not_false, decide_true, decide_false, not_true_eq_false, not_false_eq_true, List.nil_append, List.cons_append, List.append_nil, Option.isNone_some, Option.isNone_none, List.getElem?_cons_zero, List.getElem?_cons_succ, t0, t1, t5, nilCheck_ptr, W.ld0, W.len]
  refine cond_dec (fun hi => ?_) (fun hi => ?_)
  · have hi' : i < xs.length := by omega
    obtain ⟨c, o, g1, g2, _⟩ := W.row i hi'
    simp only [wk_skip, wk_region, wk_seq, wk_block, wk_cond, wk_exit, wk_ret, wk_draw, cnd_true, cnd_false, fin_nil, fin_seq, fin_seq_exit, fin_seq_ret, fin_seq_panic, fin_block, fin_block_exit, fin_block_ret, fin_block_panic, fin_loop, fin_loop_exit, fin_loop_ret, fin_loop_panic, ops_nil, ops_cons, ops_guard, res_val, res_new, main_nil, main_cons, main_guard, mres_val, mres_new, AOp.ev, AOpd.ev, evAll, evParts, evOpt, put_get, put_none, wantA, ARes.ofOpt, tmOf, List.getD_cons_zero, List.getD_cons_succ, Nat.reduceEqDiff, if_true, if_false, reduceIte, Nat.reduceAdd, Nat.reduceMul, binA, intOp, eqOp, nilOf, lenA_slice, callA, AV.cells, undefA, Option.map_some, Option.map_none, Bool.false_eq_true, reduceCtorEq, beq_false, beq_true, g_true, g_false, mg_true, mg_false, Bool.not_true, Bool.not_false, decide_true, decide_false, not_true_eq_false, not_false_eq_true, List.nil_append, List.cons_append, List.append_nil, Option.isNone_some, Option.isNone_none, List.getElem?_cons_zero, List.getElem?_cons_succ, t0, t1, t5, nilCheck_ptr, W.ld0, g1, g2]
    refine cond_dec (fun he => ?_) (fun he => ?_)
    · simp only [wk_skip, wk_region, wk_seq, wk_block, wk_cond, wk_exit, wk_ret, wk_draw, cnd_true, cnd_false, fin_nil, fin_seq, fin_seq_exit, fin_seq_ret, fin_seq_panic, fin_block, fin_block_exit, fin_block_ret, fin_block_panic, fin_loop, fin_loop_exit, fin_loop_ret, fin_loop_panic, ops_nil, ops_cons, ops_guard, res_val, res_new, main_nil, main_cons, main_guard, mres_val, mres_new, AOp.ev, AOpd.ev, evAll, evParts, evOpt, put_get, put_none, wantA, ARes.ofOpt, tmOf, List.getD_cons_zero, List.getD_cons_succ, Nat.reduceEqDiff, if_true, if_false, reduceIte, Nat.reduceAdd, Nat.reduceMul, binA, intOp, eqOp, nilOf, lenA_slice, callA, AV.cells, undefA, Option.map_some, Option.map_none, Bool.false_eq_true, reduceCtorEq, beq_false, beq_true, g_true, g_false, mg_true, mg_false, Bool.not_true, Bool.not_false, decide_true, decide_false, not_true_eq_false, not_false_eq_true, List.nil_append, List.cons_append, List.append_nil, Option.isNone_some, Option.isNone_none, List.getElem?_cons_zero, List.getElem?_cons_succ, t5]
      refine fnEnd_ret1 ⟨rfl, i, by simp [TM.put, t5], .inr ⟨i, hi', rfl, he⟩⟩
    · simp only [wk_skip, wk_region, wk_seq, wk_block, wk_cond, wk_exit, wk_ret, wk_draw, cnd_true, cnd_false, fin_nil, fin_seq, fin_seq_exit, fin_seq_ret, fin_seq_panic, fin_block, fin_block_exit, fin_block_ret, fin_block_panic, fin_loop, fin_loop_exit, fin_loop_ret, fin_loop_panic, ops_nil, ops_cons, ops_guard, res_val, res_new, main_nil, main_cons, main_guard, mres_val, mres_new, AOp.ev, AOpd.ev, evAll, evParts, evOpt, put_get, put_none, wantA, ARes.ofOpt, tmOf, List.getD_cons_zero, List.getD_cons_succ, Nat.reduceEqDiff, if_true, if_false, reduceIte, Nat.reduceAdd, Nat.reduceMul, binA, intOp, eqOp, nilOf, lenA_slice, callA, AV.cells, undefA, Option.map_some, Option.map_none, Bool.false_eq_true, reduceCtorEq, beq_false, beq_true, g_true, g_false, mg_true, mg_false, Bool.not_true, Bool.not_false, decide_true, decide_false, not_true_eq_false, not_false_eq_true, List.nil_append, List.cons_append, List.append_nil, Option.isNone_some, Option.isNone_none, List.getElem?_cons_zero, List.getElem?_cons_succ, t5]
      refine meet ⟨k - 1, by omega, rfl, rfl, by simp [TM.put, t0], by simp [TM.put, t1], i + 1, ?_, by omega, ?_⟩
      · simp only [put_get, if_true]
        rw [wrap64 (by omega) (by omega)]; rfl
      · intro x hx
        rw [List.take_add_one, List.mem_append] at hx
        rcases hx with h | h
        · exact hn x h
        · simp [hi'] at h; subst h; exact he
  · simp only [wk_skip, wk_region, wk_seq, wk_block, wk_cond, wk_exit, wk_ret, wk_draw, cnd_true, cnd_false, fin_nil, fin_seq, fin_seq_exit, fin_seq_ret, fin_seq_panic, fin_block, fin_block_exit, fin_block_ret, fin_block_panic, fin_loop, fin_loop_exit, fin_loop_ret, fin_loop_panic, ops_nil, ops_cons, ops_guard, res_val, res_new, main_nil, main_cons, main_guard, mres_val, mres_new, AOp.ev, AOpd.ev, evAll, evParts, evOpt, put_get, put_none, wantA, ARes.ofOpt, tmOf, List.getD_cons_zero, List.getD_cons_succ, Nat.reduceEqDiff, if_true, if_false, reduceIte, Nat.reduceAdd, Nat.reduceMul, binA, intOp, eqOp, nilOf, lenA_slice, callA, AV.cells, undefA, Option.map_some, Option.map_none, Bool.false_eq_true, reduceCtorEq, beq_false, beq_true, g_true, g_false, mg_true, mg_false, Bool.not_true, Bool.not_false, decide_true, decide_false, not_true_eq_false, not_false_eq_true, List.nil_append, List.cons_append, List.append_nil, Option.isNone_some, Option.isNone_none, List.getElem?_cons_zero, List.getElem?_cons_succ]
    refine fnEnd_ret1 ⟨rfl, -1, by simp [TM.put], .inl ⟨rfl, fun x hx => hn x ?_⟩⟩
    rw [List.take_of_length_le (by omega)]; exact hx
end Go.Proofs.Ytnkdjfmidiffdaa
namespace Go.Proofs.Ytnkdjfmidiffdaa
open Go Go.Proofs Go.Am
variable {N : Nat}

/-- Are all roots objects, or 0? -/
def Known (xs : List Row) (roots : List Int) : Prop := ∀ r ∈ roots, r = 0 ∨ ∃ x ∈ xs, (x.1.name : Int) = r

theorem AtSaid.neg {xs : List Row} {n r : Int} (h : AtSaid xs n r) : r < 0 ↔ ¬ ∃ x ∈ xs, (x.1.name : Int) = n := by
  rcases h with ⟨rfl, h⟩ | ⟨k, hk, rfl, h⟩
  · simp only [show ((-1 : Int) < 0) from by omega, true_iff]
    rintro ⟨x, hx, e⟩; exact h x hx e
  · constructor
    · intro e; omega
    · intro e; exact absurd ⟨xs[k], List.getElem_mem hk, h⟩ e

theorem known_c {h : AHeap} {b : Nat} {L : AV} {B : Int} {xs : List Row} (W : WIn h b L B xs) {v : AV} {roots : List Int} (H : Ints h v roots) (hl : roots.length ≤ 4294967296) :
    ACalls Try.prog N 30 [.ptr (some (b, 0)), v] h (fun e h' => h' = h ∧ ∃ q, e = .ret (.bool q) ∧ (q = true ↔ Known xs roots)) := by
  refine acalls_of_wp c30_ok mixed (by show 2 ≤ 26; decide) (wk_start ?_)
  unfold c30
  simp only [wk_skip, wk_region, wk_seq, wk_block, wk_cond, wk_exit, wk_ret, wk_draw, cnd_true, cnd_false, fin_nil, fin_seq, fin_seq_exit, fin_seq_ret, fin_seq_panic, fin_block, fin_block_exit, fin_block_ret, fin_block_panic, fin_loop, fin_loop_exit, fin_loop_ret, fin_loop_panic, ops_nil, ops_cons, ops_guard, res_val, res_new, main_nil, main_cons, main_guard, mres_val, mres_new, AOp.ev, AOpd.ev, evAll, evParts, evOpt, put_get, put_none, wantA, ARes.ofOpt, tmOf, List.getD_cons_zero, List.getD_cons_succ, Nat.reduceEqDiff, if_true, if_false, reduceIte, Nat.reduceAdd, Nat.reduceMul, binA, intOp, eqOp, nilOf, lenA_slice, callA, AV.cells, undefA, Option.map_some, Option.map_none, Bool.false_eq_true, reduceCtorEq, beq_false, beq_true, g_true, g_false, mg_true, mg_false, Bool.not_true, Bool.not_false, decide_true, decide_false, not_true_eq_false, not_false_eq_true, List.nil_append, List.cons_append, List.append_nil, Option.isNone_some, Option.isNone_none, List.getElem?_cons_zero, List.getElem?_cons_succ]
  refine wk_loop (fun k tm ds h' => ds = [] ∧ h' = h ∧ tm 0 = .ptr (some (b, 0)) ∧ tm 1 = v ∧ ∃ i : Nat, tm 5 = .int .i64 i ∧ i + k = roots.length ∧ Known xs (roots.take i)) roots.length ⟨rfl, rfl, rfl, rfl, 0, rfl, by simp, by intro r hr; simp at hr⟩ ?_
  rintro k tm ds h' ⟨rfl, rfl, t0, t1, i, t5, hk, hn⟩
  have hlen := H.len roots.length (by simp) (by omega)
  simp only [wk_skip, wk_region, wk_seq, wk_block, wk_cond, wk_exit, wk_ret, wk_draw, cnd_true, cnd_false, fin_nil, fin_seq, fin_seq_exit, fin_seq_ret, fin_seq_panic, fin_block, fin_block_exit, fin_block_ret, fin_block_panic, fin_loop, fin_loop_exit, fin_loop_ret, fin_loop_panic, ops_nil, ops_cons, ops_guard, res_val, res_new, main_nil, main_cons, main_guard, mres_val, mres_new, AOp.ev, AOpd.ev, evAll, evParts, evOpt, put_get, put_none, wantA, ARes.ofOpt, tmOf, List.getD_cons_zero, List.getD_cons_succ, Nat.reduceEqDiff, if_true, if_false, reduceIte, Nat.reduceAdd, Nat.reduceMul, binA, intOp, eqOp, nilOf, lenA_slice, callA, AV.cells, undefA, Option.map_some, Option.map_none, Bool.false_eq_true, reduceCtorEq, beq_false, beq_true, g_true, g_false, mg_true, mg_false, Bool.not_true, Bool.not_false, decide_true, decide_false, not_true_eq_false, not_false_eq_true, List.nil_append, List.cons_append, List.append_nil, Option.isNone_some, Option.isNone_none, List.getElem?_cons_zero, List.getElem?_cons_succ, t0, t1, t5, hlen]
  refine cond_dec (fun hi => ?_) (fun hi => ?_)
  · have hi' : i < roots.length := by omega
    obtain ⟨c, o, g1, _, g2⟩ := H.get i (by simpa using hi') .i64
    simp only [List.getElem_map] at g2
    have next : ∀ tm' : TM, tm' 0 = .ptr (some (b, 0)) → tm' 1 = v → tm' 5 = .int .i64 i → (roots[i] = 0 ∨ ∃ x ∈ xs, (x.1.name : Int) = roots[i]) →
        Meet (fun tm ds h2 => ∃ k', k' < k ∧ ds = [] ∧ h2 = h' ∧ tm 0 = .ptr (some (b, 0)) ∧ tm 1 = v ∧ ∃ i : Nat, tm 5 = .int .i64 i ∧ i + k' = roots.length ∧ Known xs (roots.take i)) ((((tm'.put (some 10) (.int .i64 i)).put (some 11) (.int .i64 (IntKind.i64.wrap (i + 1)))).put (some 5) (.int .i64 (IntKind.i64.wrap (i + 1))))) [] h' := fun tm' u0 u1 u5 hr => by
      refine meet ⟨k - 1, by omega, rfl, rfl, by simp [TM.put, u0], by simp [TM.put, u1], i + 1, ?_, by omega, ?_⟩
      · simp only [put_get, if_true]
        rw [wrap64 (by omega) (by omega)]; rfl
      · intro r hr'
        rw [List.take_add_one, List.mem_append] at hr'
        rcases hr' with h | h
        · exact hn r h
        · simp [hi'] at h; subst h; exact hr
    simp only [wk_skip, wk_region, wk_seq, wk_block, wk_cond, wk_exit, wk_ret, wk_draw, cnd_true, cnd_false, fin_nil, fin_seq, fin_seq_exit, fin_seq_ret, fin_seq_panic, fin_block, fin_block_exit, fin_block_ret, fin_block_panic, fin_loop, fin_loop_exit, fin_loop_ret, fin_loop_panic, ops_nil, ops_cons, ops_guard, res_val, res_new, main_nil, main_cons, main_guard, mres_val, mres_new, AOp.ev, AOpd.ev, evAll, evParts, evOpt, put_get, put_none, wantA, ARes.ofOpt, tmOf, List.getD_cons_zero, List.getD_cons_succ, Nat.reduceEqDiff, if_true, if_false, reduceIte, Nat.reduceAdd, Nat.reduceMul, binA, intOp, eqOp, nilOf, lenA_slice, callA, AV.cells, undefA, Option.map_some, Option.map_none, Bool.false_eq_true, reduceCtorEq, beq_false, beq_true, g_true, g_false, mg_true, mg_false, Bool.not_true, Bool.not_false, decide_true, decide_false, not_true_eq_false, not_false_eq_true, List.nil_append, List.cons_append, List.append_nil, Option.isNone_some, Option.isNone_none, List.getElem?_cons_zero, List.getElem?_cons_succ, t0, t1, t5, g1, g2]
    refine g_ndec (fun h0 => ?_) (fun h0 => ?_)
    · simp only [wk_skip, wk_region, wk_seq, wk_block, wk_cond, wk_exit, wk_ret, wk_draw, cnd_true, cnd_false, fin_nil, fin_seq, fin_seq_exit, fin_seq_ret, fin_seq_panic, fin_block, fin_block_exit, fin_block_ret, fin_block_panic, fin_loop, fin_loop_exit, fin_loop_ret, fin_loop_panic, ops_nil, ops_cons, ops_guard, res_val, res_new, main_nil, main_cons, main_guard, mres_val, mres_new, AOp.ev, AOpd.ev, evAll, evParts, evOpt, put_get, put_none, wantA, ARes.ofOpt, tmOf, List.getD_cons_zero, List.getD_cons_succ, Nat.reduceEqDiff, if_true, if_false, reduceIte, Nat.reduceAdd, Nat.reduceMul, binA, intOp, eqOp, nilOf, lenA_slice, callA, AV.cells, undefA, Option.map_some, Option.map_none, Bool.false_eq_true, reduceCtorEq, beq_false, beq_true, g_true, g_false, mg_true, mg_false, Bool.not_true, Bool.not_false, decide_true, decide_false, not_true_eq_false, not_false_eq_true, List.nil_append, List.cons_append, List.append_nil, Option.isNone_some, Option.isNone_none, List.getElem?_cons_zero, List.getElem?_cons_succ, t0, t1, t5, g1, g2, h0]
      refine res_call (at_c W _) ?_ ?_
      · rintro u h2 ⟨rfl, r, e, hr⟩
        cases e
        simp only [wk_skip, wk_region, wk_seq, wk_block, wk_cond, wk_exit, wk_ret, wk_draw, cnd_true, cnd_false, fin_nil, fin_seq, fin_seq_exit, fin_seq_ret, fin_seq_panic, fin_block, fin_block_exit, fin_block_ret, fin_block_panic, fin_loop, fin_loop_exit, fin_loop_ret, fin_loop_panic, ops_nil, ops_cons, ops_guard, res_val, res_new, main_nil, main_cons, main_guard, mres_val, mres_new, AOp.ev, AOpd.ev, evAll, evParts, evOpt, put_get, put_none, wantA, ARes.ofOpt, tmOf, List.getD_cons_zero, List.getD_cons_succ, Nat.reduceEqDiff, if_true, if_false, reduceIte, Nat.reduceAdd, Nat.reduceMul, binA, intOp, eqOp, nilOf, lenA_slice, callA, AV.cells, undefA, Option.map_some, Option.map_none, Bool.false_eq_true, reduceCtorEq, beq_false, beq_true, g_true, g_false, mg_true, mg_false, Bool.not_true, Bool.not_false, decide_true, decide_false, not_true_eq_false, not_false_eq_true, List.nil_append, List.cons_append, List.append_nil, Option.isNone_some, Option.isNone_none, List.getElem?_cons_zero, List.getElem?_cons_succ, t0, t1, t5, h0]
        refine cond_dec (fun he => ?_) (fun he => ?_)
        · simp only [wk_skip, wk_region, wk_seq, wk_block, wk_cond, wk_exit, wk_ret, wk_draw, cnd_true, cnd_false, fin_nil, fin_seq, fin_seq_exit, fin_seq_ret, fin_seq_panic, fin_block, fin_block_exit, fin_block_ret, fin_block_panic, fin_loop, fin_loop_exit, fin_loop_ret, fin_loop_panic, ops_nil, ops_cons, ops_guard, res_val, res_new, main_nil, main_cons, main_guard, mres_val, mres_new, AOp.ev, AOpd.ev, evAll, evParts, evOpt, put_get, put_none, wantA, ARes.ofOpt, tmOf, List.getD_cons_zero, List.getD_cons_succ, Nat.reduceEqDiff, if_true, if_false, reduceIte, Nat.reduceAdd, Nat.reduceMul, binA, intOp, eqOp, nilOf, lenA_slice, callA, AV.cells, undefA, Option.map_some, Option.map_none, Bool.false_eq_true, reduceCtorEq, beq_false, beq_true, g_true, g_false, mg_true, mg_false, Bool.not_true, Bool.not_false, decide_true, decide_false, not_true_eq_false, not_false_eq_true, List.nil_append, List.cons_append, List.append_nil, Option.isNone_some, Option.isNone_none, List.getElem?_cons_zero, List.getElem?_cons_succ]
          refine fnEnd_ret1 ⟨rfl, false, by simp [TM.put], ?_⟩
          simp only [Bool.false_eq_true, false_iff]
          intro hkn
          rcases hkn roots[i] (List.getElem_mem hi') with e | e
          · exact h0 e
          · exact hr.neg.1 he e
        · simp only [wk_skip, wk_region, wk_seq, wk_block, wk_cond, wk_exit, wk_ret, wk_draw, cnd_true, cnd_false, fin_nil, fin_seq, fin_seq_exit, fin_seq_ret, fin_seq_panic, fin_block, fin_block_exit, fin_block_ret, fin_block_panic, fin_loop, fin_loop_exit, fin_loop_ret, fin_loop_panic, ops_nil, ops_cons, ops_guard, res_val, res_new, main_nil, main_cons, main_guard, mres_val, mres_new, AOp.ev, AOpd.ev, evAll, evParts, evOpt, put_get, put_none, wantA, ARes.ofOpt, tmOf, List.getD_cons_zero, List.getD_cons_succ, Nat.reduceEqDiff, if_true, if_false, reduceIte, Nat.reduceAdd, Nat.reduceMul, binA, intOp, eqOp, nilOf, lenA_slice, callA, AV.cells, undefA, Option.map_some, Option.map_none, Bool.false_eq_true, reduceCtorEq, beq_false, beq_true, g_true, g_false, mg_true, mg_false, Bool.not_true, Bool.not_false, decide_true, decide_false, not_true_eq_false, not_false_eq_true, List.nil_append, List.cons_append, List.append_nil, Option.isNone_some, Option.isNone_none, List.getElem?_cons_zero, List.getElem?_cons_succ, t0, t1, t5]
          refine next _ (?_ : _ = _) (?_ : _ = _) (?_ : _ = _) (.inr ?_)
          · simp [TM.put, t0]
          · simp [TM.put, t1]
          · simp [TM.put, t5]
          have := mt hr.neg.2 he
          exact Classical.not_not.1 this
      · rintro u h2 ⟨_, r, e, _⟩; cases e
    · simp only [wk_skip, wk_region, wk_seq, wk_block, wk_cond, wk_exit, wk_ret, wk_draw, cnd_true, cnd_false, fin_nil, fin_seq, fin_seq_exit, fin_seq_ret, fin_seq_panic, fin_block, fin_block_exit, fin_block_ret, fin_block_panic, fin_loop, fin_loop_exit, fin_loop_ret, fin_loop_panic, ops_nil, ops_cons, ops_guard, res_val, res_new, main_nil, main_cons, main_guard, mres_val, mres_new, AOp.ev, AOpd.ev, evAll, evParts, evOpt, put_get, put_none, wantA, ARes.ofOpt, tmOf, List.getD_cons_zero, List.getD_cons_succ, Nat.reduceEqDiff, if_true, if_false, reduceIte, Nat.reduceAdd, Nat.reduceMul, binA, intOp, eqOp, nilOf, lenA_slice, callA, AV.cells, undefA, Option.map_some, Option.map_none, Bool.false_eq_true, reduceCtorEq, beq_false, beq_true, g_true, g_false, mg_true, mg_false, Bool.not_true, Bool.not_false, decide_true, decide_false, not_true_eq_false, not_false_eq_true, List.nil_append, List.cons_append, List.append_nil, Option.isNone_some, Option.isNone_none, List.getElem?_cons_zero, List.getElem?_cons_succ, t0, t1, t5, h0]
      refine next _ (?_ : _ = _) (?_ : _ = _) (?_ : _ = _) (.inl h0)
      · simp [TM.put, t0]
      · simp [TM.put, t1]
      · simp [TM.put, t5]
  · simp only [wk_skip, wk_region, wk_seq, wk_block, wk_cond, wk_exit, wk_ret, wk_draw, cnd_true, cnd_false, fin_nil, fin_seq, fin_seq_exit, fin_seq_ret, fin_seq_panic, fin_block, fin_block_exit, fin_block_ret, fin_block_panic, fin_loop, fin_loop_exit, fin_loop_ret, fin_loop_panic, ops_nil, ops_cons, ops_guard, res_val, res_new, main_nil, main_cons, main_guard, mres_val, mres_new, AOp.ev, AOpd.ev, evAll, evParts, evOpt, put_get, put_none, wantA, ARes.ofOpt, tmOf, List.getD_cons_zero, List.getD_cons_succ, Nat.reduceEqDiff, if_true, if_false, reduceIte, Nat.reduceAdd, Nat.reduceMul, binA, intOp, eqOp, nilOf, lenA_slice, callA, AV.cells, undefA, Option.map_some, Option.map_none, Bool.false_eq_true, reduceCtorEq, beq_false, beq_true, g_true, g_false, mg_true, mg_false, Bool.not_true, Bool.not_false, decide_true, decide_false, not_true_eq_false, not_false_eq_true, List.nil_append, List.cons_append, List.append_nil, Option.isNone_some, Option.isNone_none, List.getElem?_cons_zero, List.getElem?_cons_succ]
    refine fnEnd_ret1 ⟨rfl, true, by simp [TM.put], ?_⟩
    rw [List.take_of_length_le (by omega)] at hn
    simp [hn]

/-- The cells of all. -/
def total (xs : List Row) : Nat := (xs.map fun x => 1 + x.1.cells.length).sum

theorem total_take (xs : List Row) (i : Nat) (hi : i < xs.length) : total (xs.take (i + 1)) = total (xs.take i) + 1 + xs[i].1.cells.length := by
  unfold total
  rw [List.take_add_one, List.map_append, List.sum_append]
  simp [hi]; omega
theorem total_le {xs : List Row} (hs : ∀ x ∈ xs, x.1.cells.length ≤ 65536) : total xs ≤ xs.length * 65537 := by
  induction xs with
  | nil => simp [total]
  | cons x xs ih =>
    have h1 := hs x (by simp)
    have h2 := ih fun y hy => hs y (by simp [hy])
    simp only [total, List.map_cons, List.sum_cons, List.length_cons] at h2 ⊢
    omega

theorem used_c {h : AHeap} {b : Nat} {L : AV} {B : Int} {xs : List Row} (W : WIn h b L B xs) : ACalls Try.prog N 20 [.ptr (some (b, 0))] h (fun e h' => h' = h ∧ e = .ret (.int .i64 (total xs))) := by
  refine acalls_of_wp c20_ok mixed (by show 1 ≤ 27; decide) (wk_start ?_)
  unfold c20
  simp only [wk_skip, wk_region, wk_seq, wk_block, wk_cond, wk_exit, wk_ret, wk_draw, cnd_true, cnd_false, fin_nil, fin_seq, fin_seq_exit, fin_seq_ret, fin_seq_panic, fin_block, fin_block_exit, fin_block_ret, fin_block_panic, fin_loop, fin_loop_exit, fin_loop_ret, fin_loop_panic, ops_nil, ops_cons, ops_guard, res_val, res_new, main_nil, main_cons, main_guard, mres_val, mres_new, AOp.ev, AOpd.ev, evAll, evParts, evOpt, put_get, put_none, wantA, ARes.ofOpt, tmOf, List.getD_cons_zero, List.getD_cons_succ, Nat.reduceEqDiff, if_true, if_false, reduceIte, Nat.reduceAdd, Nat.reduceMul, binA, intOp, eqOp, nilOf, lenA_slice, callA, AV.cells, undefA, Option.map_some, Option.map_none, Bool.false_eq_true, reduceCtorEq, beq_false, beq_true, g_true, g_false, mg_true, mg_false, Bool.not_true, Bool.not_false, decide_true, decide_false, not_true_eq_false, not_false_eq_true, List.nil_append, List.cons_append, List.append_nil, Option.isNone_some, Option.isNone_none, List.getElem?_cons_zero, List.getElem?_cons_succ]
  refine wk_loop (fun k tm ds h' => ds = [] ∧ h' = h ∧ tm 0 = .ptr (some (b, 0)) ∧ ∃ i : Nat, tm 4 = .int .i64 i ∧ i + k = xs.length ∧ tm 3 = .int .i64 (total (xs.take i))) xs.length ⟨rfl, rfl, rfl, 0, rfl, by simp, by simp [TM.put, total]⟩ ?_
  rintro k tm ds h' ⟨rfl, rfl, t0, i, t4, hk, t3⟩
  have few := W.few
  simp only [wk_skip, wk_region, wk_seq, wk_block, wk_cond, wk_exit, wk_ret, wk_draw, cnd_true, cnd_false, fin_nil, fin_seq, fin_seq_exit, fin_seq_ret, fin_seq_panic, fin_block, fin_block_exit, fin_block_ret, fin_block_panic, fin_loop, fin_loop_exit, fin_loop_ret, fin_loop_panic, ops_nil, ops_cons, ops_guard, res_val, res_new, main_nil, main_cons, main_guard, mres_val, mres_new, AOp.ev, AOpd.ev, evAll, evParts, evOpt, put_get, put_none, wantA, ARes.ofOpt, tmOf, List.getD_cons_zero, List.getD_cons_succ, Nat.reduceEqDiff, if_true, if_false, reduceIte, Nat.reduceAdd, Nat.reduceMul, binA, intOp, eqOp, nilOf, lenA_slice, callA, AV.cells, undefA, Option.map_some, Option.map_none, Bool.false_eq_true, reduceCtorEq, beq_false, beq_true, g_true, g_false, mg_true, mg_false, Bool.not_true, Bool.not_false, decide_true, decide_false, not_true_eq_false, not_false_eq_true, List.nil_append, List.cons_append, List.append_nil, Option.isNone_some, Option.isNone_none, List.getElem?_cons_zero, List.getElem?_cons_succ, t0, t4, nilCheck_ptr, W.ld0, W.len]
  refine cond_dec (fun hi => ?_) (fun hi => ?_)
  · have hi' : i < xs.length := by omega
    obtain ⟨c, o, g1, _, g2, _⟩ := W.row i hi'
    have g3 := (W.cells _ (List.getElem_mem hi')).len xs[i].1.cells.length (by simp) (by omega)
    have hb1 := total_le (xs := xs.take (i + 1)) fun x hx => W.small x (List.mem_of_mem_take hx)
    have hb2 : (xs.take (i + 1)).length ≤ 65536 := by rw [List.length_take]; omega
    have hb3 := total_take xs i hi'
    have hb4 : total (xs.take (i + 1)) ≤ 65536 * 65537 := Nat.le_trans hb1 (Nat.mul_le_mul_right _ hb2)
    simp only [wk_skip, wk_region, wk_seq, wk_block, wk_cond, wk_exit, wk_ret, wk_draw, cnd_true, cnd_false, fin_nil, fin_seq, fin_seq_exit, fin_seq_ret, fin_seq_panic, fin_block, fin_block_exit, fin_block_ret, fin_block_panic, fin_loop, fin_loop_exit, fin_loop_ret, fin_loop_panic, ops_nil, ops_cons, ops_guard, res_val, res_new, main_nil, main_cons, main_guard, mres_val, mres_new, AOp.ev, AOpd.ev, evAll, evParts, evOpt, put_get, put_none, wantA, ARes.ofOpt, tmOf, List.getD_cons_zero, List.getD_cons_succ, Nat.reduceEqDiff, if_true, if_false, reduceIte, Nat.reduceAdd, Nat.reduceMul, binA, intOp, eqOp, nilOf, lenA_slice, callA, AV.cells, undefA, Option.map_some, Option.map_none, Bool.false_eq_true, reduceCtorEq, beq_false, beq_true, g_true, g_false, mg_true, mg_false, Bool.not_true, Bool.not_false, decide_true, decide_false, not_true_eq_false, not_false_eq_true, List.nil_append, List.cons_append, List.append_nil, Option.isNone_some, Option.isNone_none, List.getElem?_cons_zero, List.getElem?_cons_succ, t0, t3, t4, nilCheck_ptr, W.ld0, g1, g2, g3]
    refine meet ⟨k - 1, by omega, rfl, rfl, by simp [TM.put, t0], i + 1, ?_, by omega, ?_⟩
    · simp only [put_get, if_true]
      rw [wrap64 (by omega) (by omega)]; rfl
    · simp only [put_get, Nat.reduceEqDiff, if_true, if_false]
      rw [wrap64 (x := (total (xs.take i) : Int) + 1) (by omega) (by omega), wrap64 (by omega) (by omega), hb3]; rfl
  · simp only [wk_skip, wk_region, wk_seq, wk_block, wk_cond, wk_exit, wk_ret, wk_draw, cnd_true, cnd_false, fin_nil, fin_seq, fin_seq_exit, fin_seq_ret, fin_seq_panic, fin_block, fin_block_exit, fin_block_ret, fin_block_panic, fin_loop, fin_loop_exit, fin_loop_ret, fin_loop_panic, ops_nil, ops_cons, ops_guard, res_val, res_new, main_nil, main_cons, main_guard, mres_val, mres_new, AOp.ev, AOpd.ev, evAll, evParts, evOpt, put_get, put_none, wantA, ARes.ofOpt, tmOf, List.getD_cons_zero, List.getD_cons_succ, Nat.reduceEqDiff, if_true, if_false, reduceIte, Nat.reduceAdd, Nat.reduceMul, binA, intOp, eqOp, nilOf, lenA_slice, callA, AV.cells, undefA, Option.map_some, Option.map_none, Bool.false_eq_true, reduceCtorEq, beq_false, beq_true, g_true, g_false, mg_true, mg_false, Bool.not_true, Bool.not_false, decide_true, decide_false, not_true_eq_false, not_false_eq_true, List.nil_append, List.cons_append, List.append_nil, Option.isNone_some, Option.isNone_none, List.getElem?_cons_zero, List.getElem?_cons_succ, t3]
    refine fnEnd_ret1 ⟨rfl, ?_⟩
    rw [List.take_of_length_le (by omega)]
    simp [TM.put]
end Go.Proofs.Ytnkdjfmidiffdaa
namespace Go.Proofs.Ytnkdjfmidiffdaa
open Go Go.Proofs Go.Am
variable {N : Nat}

/-- What 'Cell' answers. -/
def CellSaid (xs : List Row) (o i : Int) (n : Nat) (r : Bool) (e : Int) : Prop :=
  ((∀ x ∈ xs, (x.1.name : Int) ≠ o) ∧ n = 0 ∧ r = false ∧ e = 15) ∨
  ∃ (k : Nat) (hk : k < xs.length), (xs[k].1.name : Int) = o ∧
    (((i < 0 ∨ (xs[k].1.cells.length : Int) ≤ i) ∧ n = 0 ∧ r = false ∧ e = 16) ∨
      ∃ j : Nat, i = j ∧ xs[k].1.cells[j]? = some n ∧ xs[k].1.refs[j]? = some r ∧ e = 0)

theorem cell_c {h : AHeap} {b : Nat} {L : AV} {B : Int} {xs : List Row} (W : WIn h b L B xs) (o i : Int) : ACalls Try.prog N 40 [.ptr (some (b, 0)), .int .i64 o, .int .i64 i] h
    (fun e h' => h' = h ∧ ∃ (n : Nat) (r : Bool) (er : Int), e = .ret (.tuple [.int .u64 n, .bool r, .int .i64 er]) ∧ CellSaid xs o i n r er) := by
  refine acalls_of_wp c40_ok mixed (by show 3 ≤ 52; decide) (wk_start ?_)
  unfold c40
  simp only [wk_skip, wk_region, wk_seq, wk_block, wk_cond, wk_exit, wk_ret, wk_draw, cnd_true, cnd_false, fin_nil, fin_seq, fin_seq_exit, fin_seq_ret, fin_seq_panic, fin_block, fin_block_exit, fin_block_ret, fin_block_panic, fin_loop, fin_loop_exit, fin_loop_ret, fin_loop_panic, ops_nil, ops_cons, ops_guard, res_val, res_new, main_nil, main_cons, main_guard, mres_val, mres_new, AOp.ev, AOpd.ev, evAll, evParts, evOpt, put_get, put_none, wantA, ARes.ofOpt, tmOf, List.getD_cons_zero, List.getD_cons_succ, Nat.reduceEqDiff, if_true, if_false, reduceIte, Nat.reduceAdd, Nat.reduceMul, binA, intOp, eqOp, nilOf, lenA_slice, callA, AV.cells, undefA, Option.map_some, Option.map_none, Bool.false_eq_true, reduceCtorEq, beq_false, beq_true, g_true, g_false, mg_true, mg_false, Bool.not_true, Bool.not_false, decide_true, decide_false, not_true_eq_false, not_false_eq_true, List.nil_append, List.cons_append, List.append_nil, Option.isNone_some, Option.isNone_none, List.getElem?_cons_zero, List.getElem?_cons_succ, List.getD_cons_zero, List.getD_cons_succ]
  refine res_call (at_c W _) ?_ ?_
  · rintro u h2 ⟨rfl, r, e, hr⟩
    cases e
    simp only [wk_skip, wk_region, wk_seq, wk_block, wk_cond, wk_exit, wk_ret, wk_draw, cnd_true, cnd_false, fin_nil, fin_seq, fin_seq_exit, fin_seq_ret, fin_seq_panic, fin_block, fin_block_exit, fin_block_ret, fin_block_panic, fin_loop, fin_loop_exit, fin_loop_ret, fin_loop_panic, ops_nil, ops_cons, ops_guard, res_val, res_new, main_nil, main_cons, main_guard, mres_val, mres_new, AOp.ev, AOpd.ev, evAll, evParts, evOpt, put_get, put_none, wantA, ARes.ofOpt, tmOf, List.getD_cons_zero, List.getD_cons_succ, Nat.reduceEqDiff, if_true, if_false, reduceIte, Nat.reduceAdd, Nat.reduceMul, binA, intOp, eqOp, nilOf, lenA_slice, callA, AV.cells, undefA, Option.map_some, Option.map_none, Bool.false_eq_true, reduceCtorEq, beq_false, beq_true, g_true, g_false, mg_true, mg_false, Bool.not_true, Bool.not_false, decide_true, decide_false, not_true_eq_false, not_false_eq_true, List.nil_append, List.cons_append, List.append_nil, Option.isNone_some, Option.isNone_none, List.getElem?_cons_zero, List.getElem?_cons_succ]
    refine cond_dec (fun he => ?_) (fun he => ?_)
    · simp only [wk_skip, wk_region, wk_seq, wk_block, wk_cond, wk_exit, wk_ret, wk_draw, cnd_true, cnd_false, fin_nil, fin_seq, fin_seq_exit, fin_seq_ret, fin_seq_panic, fin_block, fin_block_exit, fin_block_ret, fin_block_panic, fin_loop, fin_loop_exit, fin_loop_ret, fin_loop_panic, ops_nil, ops_cons, ops_guard, res_val, res_new, main_nil, main_cons, main_guard, mres_val, mres_new, AOp.ev, AOpd.ev, evAll, evParts, evOpt, put_get, put_none, wantA, ARes.ofOpt, tmOf, List.getD_cons_zero, List.getD_cons_succ, Nat.reduceEqDiff, if_true, if_false, reduceIte, Nat.reduceAdd, Nat.reduceMul, binA, intOp, eqOp, nilOf, lenA_slice, callA, AV.cells, undefA, Option.map_some, Option.map_none, Bool.false_eq_true, reduceCtorEq, beq_false, beq_true, g_true, g_false, mg_true, mg_false, Bool.not_true, Bool.not_false, decide_true, decide_false, not_true_eq_false, not_false_eq_true, List.nil_append, List.cons_append, List.append_nil, Option.isNone_some, Option.isNone_none, List.getElem?_cons_zero, List.getElem?_cons_succ]
      refine fnEnd_ret3 ⟨rfl, 0, false, 15, by simp [TM.put], .inl ⟨?_, rfl, rfl, rfl⟩⟩
      rcases hr with ⟨_, h⟩ | ⟨k, hk, rfl, _⟩
      · exact h
      · omega
    · rcases hr with ⟨rfl, h⟩ | ⟨k, hk, rfl, hn⟩
      · exact absurd (by omega) he
      have bad : (i < 0 ∨ (xs[k].1.cells.length : Int) ≤ i) → CellSaid xs o i 0 false 16 := fun h => .inr ⟨k, hk, hn, .inl ⟨h, rfl, rfl, rfl⟩⟩
      obtain ⟨c, q, g1, _, g2, g3, _⟩ := W.row k hk
      have hx := List.getElem_mem hk
      have few := W.small _ hx
      have g4 := (W.cells _ hx).len xs[k].1.cells.length (by simp) (by omega)
      simp only [wk_skip, wk_region, wk_seq, wk_block, wk_cond, wk_exit, wk_ret, wk_draw, cnd_true, cnd_false, fin_nil, fin_seq, fin_seq_exit, fin_seq_ret, fin_seq_panic, fin_block, fin_block_exit, fin_block_ret, fin_block_panic, fin_loop, fin_loop_exit, fin_loop_ret, fin_loop_panic, ops_nil, ops_cons, ops_guard, res_val, res_new, main_nil, main_cons, main_guard, mres_val, mres_new, AOp.ev, AOpd.ev, evAll, evParts, evOpt, put_get, put_none, wantA, ARes.ofOpt, tmOf, List.getD_cons_zero, List.getD_cons_succ, Nat.reduceEqDiff, if_true, if_false, reduceIte, Nat.reduceAdd, Nat.reduceMul, binA, intOp, eqOp, nilOf, lenA_slice, callA, AV.cells, undefA, Option.map_some, Option.map_none, Bool.false_eq_true, reduceCtorEq, beq_false, beq_true, g_true, g_false, mg_true, mg_false, Bool.not_true, Bool.not_false, decide_true, decide_false, not_true_eq_false, not_false_eq_true, List.nil_append, List.cons_append, List.append_nil, Option.isNone_some, Option.isNone_none, List.getElem?_cons_zero, List.getElem?_cons_succ]
      refine g_ndec (fun h0 => ?_) (fun h0 => ?_)
      · simp only [wk_skip, wk_region, wk_seq, wk_block, wk_cond, wk_exit, wk_ret, wk_draw, cnd_true, cnd_false, fin_nil, fin_seq, fin_seq_exit, fin_seq_ret, fin_seq_panic, fin_block, fin_block_exit, fin_block_ret, fin_block_panic, fin_loop, fin_loop_exit, fin_loop_ret, fin_loop_panic, ops_nil, ops_cons, ops_guard, res_val, res_new, main_nil, main_cons, main_guard, mres_val, mres_new, AOp.ev, AOpd.ev, evAll, evParts, evOpt, put_get, put_none, wantA, ARes.ofOpt, tmOf, List.getD_cons_zero, List.getD_cons_succ, Nat.reduceEqDiff, if_true, if_false, reduceIte, Nat.reduceAdd, Nat.reduceMul, binA, intOp, eqOp, nilOf, lenA_slice, callA, AV.cells, undefA, Option.map_some, Option.map_none, Bool.false_eq_true, reduceCtorEq, beq_false, beq_true, g_true, g_false, mg_true, mg_false, Bool.not_true, Bool.not_false, decide_true, decide_false, not_true_eq_false, not_false_eq_true, List.nil_append, List.cons_append, List.append_nil, Option.isNone_some, Option.isNone_none, List.getElem?_cons_zero, List.getElem?_cons_succ, h0, nilCheck_ptr, W.ld0, g1, g2, g4]
        refine cond_dec (fun h1 => ?_) (fun h1 => ?_)
        · simp only [wk_skip, wk_region, wk_seq, wk_block, wk_cond, wk_exit, wk_ret, wk_draw, cnd_true, cnd_false, fin_nil, fin_seq, fin_seq_exit, fin_seq_ret, fin_seq_panic, fin_block, fin_block_exit, fin_block_ret, fin_block_panic, fin_loop, fin_loop_exit, fin_loop_ret, fin_loop_panic, ops_nil, ops_cons, ops_guard, res_val, res_new, main_nil, main_cons, main_guard, mres_val, mres_new, AOp.ev, AOpd.ev, evAll, evParts, evOpt, put_get, put_none, wantA, ARes.ofOpt, tmOf, List.getD_cons_zero, List.getD_cons_succ, Nat.reduceEqDiff, if_true, if_false, reduceIte, Nat.reduceAdd, Nat.reduceMul, binA, intOp, eqOp, nilOf, lenA_slice, callA, AV.cells, undefA, Option.map_some, Option.map_none, Bool.false_eq_true, reduceCtorEq, beq_false, beq_true, g_true, g_false, mg_true, mg_false, Bool.not_true, Bool.not_false, decide_true, decide_false, not_true_eq_false, not_false_eq_true, List.nil_append, List.cons_append, List.append_nil, Option.isNone_some, Option.isNone_none, List.getElem?_cons_zero, List.getElem?_cons_succ]
          exact fnEnd_ret3 ⟨rfl, 0, false, 16, by simp [TM.put], bad (.inr (by omega))⟩
        · obtain ⟨j, rfl⟩ := Int.eq_ofNat_of_zero_le (by omega : 0 ≤ i)
          have hj : j < xs[k].1.cells.length := by omega
          obtain ⟨c2, q2, i1, _, i2⟩ := (W.cells _ hx).get j (by simpa using hj) .i64
          obtain ⟨c3, q3, j1, _, j2⟩ := (W.refs _ hx).get j (by rw [List.length_map, W.same _ hx]; exact hj) .i64
          simp only [List.getElem_map] at i2 j2
          simp only [wk_skip, wk_region, wk_seq, wk_block, wk_cond, wk_exit, wk_ret, wk_draw, cnd_true, cnd_false, fin_nil, fin_seq, fin_seq_exit, fin_seq_ret, fin_seq_panic, fin_block, fin_block_exit, fin_block_ret, fin_block_panic, fin_loop, fin_loop_exit, fin_loop_ret, fin_loop_panic, ops_nil, ops_cons, ops_guard, res_val, res_new, main_nil, main_cons, main_guard, mres_val, mres_new, AOp.ev, AOpd.ev, evAll, evParts, evOpt, put_get, put_none, wantA, ARes.ofOpt, tmOf, List.getD_cons_zero, List.getD_cons_succ, Nat.reduceEqDiff, if_true, if_false, reduceIte, Nat.reduceAdd, Nat.reduceMul, binA, intOp, eqOp, nilOf, lenA_slice, callA, AV.cells, undefA, Option.map_some, Option.map_none, Bool.false_eq_true, reduceCtorEq, beq_false, beq_true, g_true, g_false, mg_true, mg_false, Bool.not_true, Bool.not_false, decide_true, decide_false, not_true_eq_false, not_false_eq_true, List.nil_append, List.cons_append, List.append_nil, Option.isNone_some, Option.isNone_none, List.getElem?_cons_zero, List.getElem?_cons_succ, h0, nilCheck_ptr, W.ld0, g1, g2, g3, g4, i1, i2, j1, j2]
          refine fnEnd_ret3 ⟨rfl, xs[k].1.cells[j], xs[k].1.refs[j]'(by rw [W.same _ hx]; exact hj), 0, by simp [TM.put], .inr ⟨k, hk, hn, .inr ⟨j, rfl, by simp [hj], by simp [W.same _ hx, hj], rfl⟩⟩⟩
      · simp only [wk_skip, wk_region, wk_seq, wk_block, wk_cond, wk_exit, wk_ret, wk_draw, cnd_true, cnd_false, fin_nil, fin_seq, fin_seq_exit, fin_seq_ret, fin_seq_panic, fin_block, fin_block_exit, fin_block_ret, fin_block_panic, fin_loop, fin_loop_exit, fin_loop_ret, fin_loop_panic, ops_nil, ops_cons, ops_guard, res_val, res_new, main_nil, main_cons, main_guard, mres_val, mres_new, AOp.ev, AOpd.ev, evAll, evParts, evOpt, put_get, put_none, wantA, ARes.ofOpt, tmOf, List.getD_cons_zero, List.getD_cons_succ, Nat.reduceEqDiff, if_true, if_false, reduceIte, Nat.reduceAdd, Nat.reduceMul, binA, intOp, eqOp, nilOf, lenA_slice, callA, AV.cells, undefA, Option.map_some, Option.map_none, Bool.false_eq_true, reduceCtorEq, beq_false, beq_true, g_true, g_false, mg_true, mg_false, Bool.not_true, Bool.not_false, decide_true, decide_false, not_true_eq_false, not_false_eq_true, List.nil_append, List.cons_append, List.append_nil, Option.isNone_some, Option.isNone_none, List.getElem?_cons_zero, List.getElem?_cons_succ, h0]
        exact fnEnd_ret3 ⟨rfl, 0, false, 16, by simp [TM.put], bad (.inl h0)⟩
  · rintro u h2 ⟨_, r, e, _⟩; cases e
end Go.Proofs.Ytnkdjfmidiffdaa
namespace Go.Proofs.Ytnkdjfmidiffdaa
open Go Go.Proofs Go.Am
variable {N : Nat}

/-- Whose each block is: 0 nobody's, 1 the top's, 2 the list's, 3 and more: an object's cells, an object's refs. -/
structure WOwn (h : AHeap) (b : Nat) (L : AV) (xs : List Row) (ρ : Nat → Nat) : Prop where
  top : ρ b = 1
  lst : ∀ c, blkOf L = some c → ρ c = 2 ∧ ∃ ds, h c = some (.cells ds false)
  cel : ∀ x ∈ xs, ∀ c, blkOf x.2.1 = some c → ρ c = 3 + 2 * x.1.name ∧ ∃ ds, h c = some (.cells ds false)
  rfs : ∀ x ∈ xs, ∀ c, blkOf x.2.2 = some c → ρ c = 4 + 2 * x.1.name
  dom : ∀ c, ρ c ≠ 0 → h c ≠ none
  sorted : (xs.map fun x => x.1.name).Pairwise (· < ·)
  pos : ∀ x ∈ xs, 1 ≤ x.1.name
def WRep (h : AHeap) (b : Nat) (B : Int) (xs : List Row) (ρ : Nat → Nat) : Prop := ∃ L, WIn h b L B xs ∧ WOwn h b L xs ρ
theorem WOwn.name_inj {h : AHeap} {b : Nat} {L : AV} {xs : List Row} {ρ : Nat → Nat} (O : WOwn h b L xs ρ) {i j : Nat} (hi : i < xs.length) (hj : j < xs.length) (e : xs[i].1.name = xs[j].1.name) : i = j := by
  have := List.pairwise_iff_getElem.1 O.sorted
  rcases Nat.lt_trichotomy i j with h | h | h
  · have := this i j (by simpa using hi) (by simpa using hj) h
    simp at this; omega
  · exact h
  · have := this j i (by simpa using hj) (by simpa using hi) h
    simp at this; omega

/-- An object with one cell set. -/
def Ob.put (o : Ob) (j n : Nat) : Ob := { o with cells := o.cells.set j n }
def putRow (xs : List Row) (k j n : Nat) : List Row := match xs[k]? with
  | some x => xs.set k (x.1.put j n, x.2)
  | none => xs

theorem rowsOf_put (xs : List Row) (k j n : Nat) : rowsOf (putRow xs k j n) = rowsOf xs := by
  unfold putRow
  cases hk : xs[k]? with
  | none => rfl
  | some x =>
    obtain ⟨hk', rfl⟩ := List.getElem?_eq_some_iff.1 hk
    simp only []
    induction xs generalizing k with
    | nil => simp at hk'
    | cons y ys ih =>
      cases k with
      | zero => simp [rowsOf, Ob.put]
      | succ k =>
        have hk2 : k < ys.length := by simpa using hk'
        have := ih k hk2 (List.getElem?_eq_getElem hk2)
        simp only [rowsOf, List.getElem_cons_succ, List.set_cons_succ, List.flatMap_cons] at this ⊢
        rw [this]
theorem putRow_mem {xs : List Row} {k j n : Nat} (hk : k < xs.length) {y : Row} (hy : y ∈ putRow xs k j n) : y = (xs[k].1.put j n, xs[k].2) ∨ ∃ i, ∃ hi : i < xs.length, i ≠ k ∧ y = xs[i] := by
  unfold putRow at hy
  rw [List.getElem?_eq_getElem hk] at hy
  simp only [] at hy
  obtain ⟨i, hi, rfl⟩ := List.mem_iff_getElem.1 hy
  rw [List.getElem_set]
  split
  · exact .inl rfl
  · rename_i e; exact .inr ⟨i, by simpa using hi, fun e' => e e'.symm, rfl⟩
theorem putRow_names (xs : List Row) (k j n : Nat) : (putRow xs k j n).map (fun x => x.1.name) = xs.map fun x => x.1.name := by
  unfold putRow
  cases hk : xs[k]? with
  | none => rfl
  | some x =>
    obtain ⟨hk', rfl⟩ := List.getElem?_eq_some_iff.1 hk
    simp only [List.map_set, Ob.put]
    apply List.ext_getElem (by simp)
    intro i h1 h2
    rw [List.getElem_set]
    split
    · rename_i e; subst e; simp
    · rfl

theorem WRep.setCell {h : AHeap} {b : Nat} {L : AV} {B : Int} {xs : List Row} {ρ : Nat → Nat} (W : WIn h b L B xs) (O : WOwn h b L xs ρ) {k j n : Nat} (hk : k < xs.length) {c : Nat} (hc : blkOf xs[k].2.1 = some c) {ds : List AV}
    (hs : SliceAt (h.upd c (.cells ds false)) 1 xs[k].2.1 ((xs[k].1.cells.map fun n : Nat => AV.int .u64 (n : Int)).set j (.int .u64 n))) :
    WIn (h.upd c (.cells ds false)) b L B (putRow xs k j n) ∧ WOwn (h.upd c (.cells ds false)) b L (putRow xs k j n) ρ := by
  have hx := List.getElem_mem hk
  have hρ := (O.cel _ hx c hc).1
  have len : (putRow xs k j n).length = xs.length := by
    unfold putRow; split <;> simp
  have keep : ∀ d, ρ d ≠ 3 + 2 * xs[k].1.name → (h.upd c (.cells ds false)) d = h d := fun d hd => AHeap.upd_other _ _ fun e => hd (e ▸ hρ)
  have keepL : ∀ d, blkOf L = some d → (h.upd c (.cells ds false)) d = h d := fun d hd => keep d (by have := (O.lst d hd).1; omega)
  have keepC : ∀ i (hi : i < xs.length), i ≠ k → ∀ d, blkOf xs[i].2.1 = some d → (h.upd c (.cells ds false)) d = h d := fun i hi hne d hd => keep d (by
    have := (O.cel _ (List.getElem_mem hi) d hd).1
    have : xs[i].1.name ≠ xs[k].1.name := fun e => hne (O.name_inj hi hk e)
    omega)
  have keepR : ∀ x ∈ xs, ∀ d, blkOf x.2.2 = some d → (h.upd c (.cells ds false)) d = h d := fun x hx d hd => keep d (by have := O.rfs x hx d hd; omega)
  refine ⟨⟨?_, ?_, fun y hy => ?_, fun y hy => ?_, fun y hy => ?_, by rw [len]; exact W.few, fun y hy => ?_⟩, ⟨O.top, fun d hd => ?_, fun y hy d hd => ?_, fun y hy d hd => ?_, fun d hd => ?_, by rw [putRow_names]; exact O.sorted, fun y hy => ?_⟩⟩
  · rw [keep b (by have := O.top; omega)]; exact W.top
  · rw [rowsOf_put]; exact W.list.keep keepL
  · rcases putRow_mem hk hy with rfl | ⟨i, hi, hne, rfl⟩
    · simp only [Ob.put, List.map_set]; exact hs
    · exact (W.cells _ (List.getElem_mem hi)).keep (keepC i hi hne)
  · rcases putRow_mem hk hy with rfl | ⟨i, hi, hne, rfl⟩
    · exact (W.refs _ hx).keep (keepR _ hx)
    · exact (W.refs _ (List.getElem_mem hi)).keep (keepR _ (List.getElem_mem hi))
  · rcases putRow_mem hk hy with rfl | ⟨i, hi, hne, rfl⟩
    · simp [Ob.put, W.same _ hx]
    · exact W.same _ (List.getElem_mem hi)
  · rcases putRow_mem hk hy with rfl | ⟨i, hi, hne, rfl⟩
    · simp [Ob.put, W.small _ hx]
    · exact W.small _ (List.getElem_mem hi)
  · rw [keepL d hd]; exact O.lst d hd
  · rcases putRow_mem hk hy with rfl | ⟨i, hi, hne, rfl⟩
    · rw [hc] at hd; cases hd
      exact ⟨hρ, ds, AHeap.upd_same _ _ _⟩
    · rw [keepC i hi hne d hd]; exact O.cel _ (List.getElem_mem hi) d hd
  · rcases putRow_mem hk hy with rfl | ⟨i, hi, hne, rfl⟩
    · exact O.rfs _ hx d hd
    · exact O.rfs _ (List.getElem_mem hi) d hd
  · by_cases e : d = c
    · subst e; rw [AHeap.upd_same]; simp
    · rw [AHeap.upd_other _ _ e]; exact O.dom d hd
  · rcases putRow_mem hk hy with rfl | ⟨i, hi, hne, rfl⟩
    · exact O.pos xs[k] hx
    · exact O.pos _ (List.getElem_mem hi)
end Go.Proofs.Ytnkdjfmidiffdaa
namespace Go.Proofs.Ytnkdjfmidiffdaa
open Go Go.Proofs Go.Am
variable {N : Nat}

/-- What 'Put' answers and does. -/
def PutSaid (xs : List Row) (o i : Int) (n : Nat) (e : Int) (ys : List Row) : Prop :=
  (e ≠ 0 ∧ ys = xs ∧ ∃ m r, CellSaid xs o i m r e) ∨
  ∃ m r, CellSaid xs o i m r 0 ∧
    ((e = 15 ∧ ys = xs ∧ r = true ∧ n ≠ 0 ∧ (1000000 < n ∨ ∀ x ∈ xs, x.1.name ≠ n)) ∨
     (e = 0 ∧ (r = true → n ≠ 0 → n ≤ 1000000 ∧ ∃ x ∈ xs, x.1.name = n) ∧ ∃ (k j : Nat) (hk : k < xs.length), (xs[k].1.name : Int) = o ∧ i = j ∧ j < xs[k].1.cells.length ∧ ys = putRow xs k j n))

theorem put_c {h : AHeap} {b : Nat} {B : Int} {xs : List Row} {ρ : Nat → Nat} (R : WRep h b B xs ρ) (o i : Int) (n : Nat) (hn64 : n < 18446744073709551616) : ACalls Try.prog N 41 [.ptr (some (b, 0)), .int .i64 o, .int .i64 i, .int .u64 n] h
    (fun e h' => ∃ (er : Int) (ys : List Row), e = .ret (.int .i64 er) ∧ PutSaid xs o i n er ys ∧ WRep h' b B ys ρ ∧ Off ρ h h') := by
  obtain ⟨L, W, O⟩ := R
  have same : WRep h b B xs ρ ∧ Off ρ h h := ⟨⟨L, W, O⟩, fun _ _ _ => rfl⟩
  refine acalls_of_wp c41_ok mixed (by show 4 ≤ 52; decide) (wk_start ?_)
  unfold c41
  simp only [wk_skip, wk_region, wk_seq, wk_block, wk_cond, wk_exit, wk_ret, wk_draw, cnd_true, cnd_false, fin_nil, fin_seq, fin_seq_exit, fin_seq_ret, fin_seq_panic, fin_block, fin_block_exit, fin_block_ret, fin_block_panic, fin_loop, fin_loop_exit, fin_loop_ret, fin_loop_panic, ops_nil, ops_cons, ops_guard, res_val, res_new, main_nil, main_cons, main_guard, mres_val, mres_new, AOp.ev, AOpd.ev, evAll, evParts, evOpt, put_get, put_none, wantA, ARes.ofOpt, tmOf, List.getD_cons_zero, List.getD_cons_succ, Nat.reduceEqDiff, if_true, if_false, reduceIte, Nat.reduceAdd, Nat.reduceMul, binA, intOp, eqOp, nilOf, lenA_slice, callA, AV.cells, undefA, Option.map_some, Option.map_none, Bool.false_eq_true, reduceCtorEq, beq_false, beq_true, g_true, g_false, mg_true, mg_false, Bool.not_true, Bool.not_false, decide_true, decide_false, not_true_eq_false, not_false_eq_true, List.nil_append, List.cons_append, List.append_nil, Option.isNone_some, Option.isNone_none, List.getElem?_cons_zero, List.getElem?_cons_succ]
  refine res_call (cell_c W o i) ?_ ?_
  · rintro u h2 ⟨rfl, m, r, e, he, hr⟩
    cases he
    simp only [wk_skip, wk_region, wk_seq, wk_block, wk_cond, wk_exit, wk_ret, wk_draw, cnd_true, cnd_false, fin_nil, fin_seq, fin_seq_exit, fin_seq_ret, fin_seq_panic, fin_block, fin_block_exit, fin_block_ret, fin_block_panic, fin_loop, fin_loop_exit, fin_loop_ret, fin_loop_panic, ops_nil, ops_cons, ops_guard, res_val, res_new, main_nil, main_cons, main_guard, mres_val, mres_new, AOp.ev, AOpd.ev, evAll, evParts, evOpt, put_get, put_none, wantA, ARes.ofOpt, tmOf, List.getD_cons_zero, List.getD_cons_succ, Nat.reduceEqDiff, if_true, if_false, reduceIte, Nat.reduceAdd, Nat.reduceMul, binA, intOp, eqOp, nilOf, lenA_slice, callA, AV.cells, undefA, Option.map_some, Option.map_none, Bool.false_eq_true, reduceCtorEq, beq_false, beq_true, g_true, g_false, mg_true, mg_false, Bool.not_true, Bool.not_false, decide_true, decide_false, not_true_eq_false, not_false_eq_true, List.nil_append, List.cons_append, List.append_nil, Option.isNone_some, Option.isNone_none, List.getElem?_cons_zero, List.getElem?_cons_succ]
    refine cond_ndec (fun he => ?_) (fun he => ?_)
    · simp only [wk_skip, wk_region, wk_seq, wk_block, wk_cond, wk_exit, wk_ret, wk_draw, cnd_true, cnd_false, fin_nil, fin_seq, fin_seq_exit, fin_seq_ret, fin_seq_panic, fin_block, fin_block_exit, fin_block_ret, fin_block_panic, fin_loop, fin_loop_exit, fin_loop_ret, fin_loop_panic, ops_nil, ops_cons, ops_guard, res_val, res_new, main_nil, main_cons, main_guard, mres_val, mres_new, AOp.ev, AOpd.ev, evAll, evParts, evOpt, put_get, put_none, wantA, ARes.ofOpt, tmOf, List.getD_cons_zero, List.getD_cons_succ, Nat.reduceEqDiff, if_true, if_false, reduceIte, Nat.reduceAdd, Nat.reduceMul, binA, intOp, eqOp, nilOf, lenA_slice, callA, AV.cells, undefA, Option.map_some, Option.map_none, Bool.false_eq_true, reduceCtorEq, beq_false, beq_true, g_true, g_false, mg_true, mg_false, Bool.not_true, Bool.not_false, decide_true, decide_false, not_true_eq_false, not_false_eq_true, List.nil_append, List.cons_append, List.append_nil, Option.isNone_some, Option.isNone_none, List.getElem?_cons_zero, List.getElem?_cons_succ]
      exact fnEnd_ret1 ⟨e, xs, by simp [TM.put], .inl ⟨he, rfl, m, r, hr⟩, same⟩
    · subst he
      simp only [wk_skip, fin_seq]
      refine wk_cut (fun tm ds h' => ds = [] ∧ h' = h2 ∧ tm 0 = .ptr (some (b, 0)) ∧ tm 1 = .int .i64 o ∧ tm 2 = .int .i64 i ∧ tm 3 = .int .u64 n ∧ (r = true → n ≠ 0 → n ≤ 1000000 ∧ ∃ x ∈ xs, x.1.name = n)) ?_ ?_
      · have out : ∀ tm : TM, r = true → n ≠ 0 → (1000000 < n ∨ ∀ x ∈ xs, x.1.name ≠ n) → fnEnd [.tmp 8] (fun e h' => ∃ (er : Int) (ys : List Row), e = .ret (.int .i64 er) ∧ PutSaid xs o i n er ys ∧ WRep h' b B ys ρ ∧ Off ρ h2 h') .ret (tm.put (some 8) (.int .i64 15)) [] h2 := fun tm h1 h2 h3 =>
          fnEnd_ret1 ⟨15, xs, by simp [TM.put], .inr ⟨m, r, hr, .inl ⟨rfl, rfl, h1, h2, h3⟩⟩, same⟩
        simp only [wk_skip, wk_region, wk_seq, wk_block, wk_cond, wk_exit, wk_ret, wk_draw, cnd_true, cnd_false, fin_nil, fin_seq, fin_seq_exit, fin_seq_ret, fin_seq_panic, fin_block, fin_block_exit, fin_block_ret, fin_block_panic, fin_loop, fin_loop_exit, fin_loop_ret, fin_loop_panic, ops_nil, ops_cons, ops_guard, res_val, res_new, main_nil, main_cons, main_guard, mres_val, mres_new, AOp.ev, AOpd.ev, evAll, evParts, evOpt, put_get, put_none, wantA, ARes.ofOpt, tmOf, List.getD_cons_zero, List.getD_cons_succ, Nat.reduceEqDiff, if_true, if_false, reduceIte, Nat.reduceAdd, Nat.reduceMul, binA, intOp, eqOp, nilOf, lenA_slice, callA, AV.cells, undefA, Option.map_some, Option.map_none, Bool.false_eq_true, reduceCtorEq, beq_false, beq_true, g_true, g_false, mg_true, mg_false, Bool.not_true, Bool.not_false, decide_true, decide_false, not_true_eq_false, not_false_eq_true, List.nil_append, List.cons_append, List.append_nil, Option.isNone_some, Option.isNone_none, List.getElem?_cons_zero, List.getElem?_cons_succ]
        cases r with
        | false =>
          simp only [wk_skip, wk_region, wk_seq, wk_block, wk_cond, wk_exit, wk_ret, wk_draw, cnd_true, cnd_false, fin_nil, fin_seq, fin_seq_exit, fin_seq_ret, fin_seq_panic, fin_block, fin_block_exit, fin_block_ret, fin_block_panic, fin_loop, fin_loop_exit, fin_loop_ret, fin_loop_panic, ops_nil, ops_cons, ops_guard, res_val, res_new, main_nil, main_cons, main_guard, mres_val, mres_new, AOp.ev, AOpd.ev, evAll, evParts, evOpt, put_get, put_none, wantA, ARes.ofOpt, tmOf, List.getD_cons_zero, List.getD_cons_succ, Nat.reduceEqDiff, if_true, if_false, reduceIte, Nat.reduceAdd, Nat.reduceMul, binA, intOp, eqOp, nilOf, lenA_slice, callA, AV.cells, undefA, Option.map_some, Option.map_none, Bool.false_eq_true, reduceCtorEq, beq_false, beq_true, g_true, g_false, mg_true, mg_false, Bool.not_true, Bool.not_false, decide_true, decide_false, not_true_eq_false, not_false_eq_true, List.nil_append, List.cons_append, List.append_nil, Option.isNone_some, Option.isNone_none, List.getElem?_cons_zero, List.getElem?_cons_succ]
          exact meet ⟨rfl, rfl, rfl, rfl, rfl, rfl, fun h => h.elim⟩
        | true =>
          simp only [wk_skip, wk_region, wk_seq, wk_block, wk_cond, wk_exit, wk_ret, wk_draw, cnd_true, cnd_false, fin_nil, fin_seq, fin_seq_exit, fin_seq_ret, fin_seq_panic, fin_block, fin_block_exit, fin_block_ret, fin_block_panic, fin_loop, fin_loop_exit, fin_loop_ret, fin_loop_panic, ops_nil, ops_cons, ops_guard, res_val, res_new, main_nil, main_cons, main_guard, mres_val, mres_new, AOp.ev, AOpd.ev, evAll, evParts, evOpt, put_get, put_none, wantA, ARes.ofOpt, tmOf, List.getD_cons_zero, List.getD_cons_succ, Nat.reduceEqDiff, if_true, if_false, reduceIte, Nat.reduceAdd, Nat.reduceMul, binA, intOp, eqOp, nilOf, lenA_slice, callA, AV.cells, undefA, Option.map_some, Option.map_none, Bool.false_eq_true, reduceCtorEq, beq_false, beq_true, g_true, g_false, mg_true, mg_false, Bool.not_true, Bool.not_false, decide_true, decide_false, not_true_eq_false, not_false_eq_true, List.nil_append, List.cons_append, List.append_nil, Option.isNone_some, Option.isNone_none, List.getElem?_cons_zero, List.getElem?_cons_succ]
          refine g_ndec (fun h0 => ?_) (fun h0 => ?_)
          · simp only [wk_skip, wk_region, wk_seq, wk_block, wk_cond, wk_exit, wk_ret, wk_draw, cnd_true, cnd_false, fin_nil, fin_seq, fin_seq_exit, fin_seq_ret, fin_seq_panic, fin_block, fin_block_exit, fin_block_ret, fin_block_panic, fin_loop, fin_loop_exit, fin_loop_ret, fin_loop_panic, ops_nil, ops_cons, ops_guard, res_val, res_new, main_nil, main_cons, main_guard, mres_val, mres_new, AOp.ev, AOpd.ev, evAll, evParts, evOpt, put_get, put_none, wantA, ARes.ofOpt, tmOf, List.getD_cons_zero, List.getD_cons_succ, Nat.reduceEqDiff, if_true, if_false, reduceIte, Nat.reduceAdd, Nat.reduceMul, binA, intOp, eqOp, nilOf, lenA_slice, callA, AV.cells, undefA, Option.map_some, Option.map_none, Bool.false_eq_true, reduceCtorEq, beq_false, beq_true, g_true, g_false, mg_true, mg_false, Bool.not_true, Bool.not_false, decide_true, decide_false, not_true_eq_false, not_false_eq_true, List.nil_append, List.cons_append, List.append_nil, Option.isNone_some, Option.isNone_none, List.getElem?_cons_zero, List.getElem?_cons_succ, h0]
            refine g_ndec (fun h1 => ?_) (fun h1 => ?_)
            · simp only [wk_skip, wk_region, wk_seq, wk_block, wk_cond, wk_exit, wk_ret, wk_draw, cnd_true, cnd_false, fin_nil, fin_seq, fin_seq_exit, fin_seq_ret, fin_seq_panic, fin_block, fin_block_exit, fin_block_ret, fin_block_panic, fin_loop, fin_loop_exit, fin_loop_ret, fin_loop_panic, ops_nil, ops_cons, ops_guard, res_val, res_new, main_nil, main_cons, main_guard, mres_val, mres_new, AOp.ev, AOpd.ev, evAll, evParts, evOpt, put_get, put_none, wantA, ARes.ofOpt, tmOf, List.getD_cons_zero, List.getD_cons_succ, Nat.reduceEqDiff, if_true, if_false, reduceIte, Nat.reduceAdd, Nat.reduceMul, binA, intOp, eqOp, nilOf, lenA_slice, callA, AV.cells, undefA, Option.map_some, Option.map_none, Bool.false_eq_true, reduceCtorEq, beq_false, beq_true, g_true, g_false, mg_true, mg_false, Bool.not_true, Bool.not_false, decide_true, decide_false, not_true_eq_false, not_false_eq_true, List.nil_append, List.cons_append, List.append_nil, Option.isNone_some, Option.isNone_none, List.getElem?_cons_zero, List.getElem?_cons_succ, h0, h1]
              refine res_call (at_c W _) ?_ ?_
              · rintro u h3 ⟨rfl, q, e, hq⟩
                cases e
                simp only [wk_skip, wk_region, wk_seq, wk_block, wk_cond, wk_exit, wk_ret, wk_draw, cnd_true, cnd_false, fin_nil, fin_seq, fin_seq_exit, fin_seq_ret, fin_seq_panic, fin_block, fin_block_exit, fin_block_ret, fin_block_panic, fin_loop, fin_loop_exit, fin_loop_ret, fin_loop_panic, ops_nil, ops_cons, ops_guard, res_val, res_new, main_nil, main_cons, main_guard, mres_val, mres_new, AOp.ev, AOpd.ev, evAll, evParts, evOpt, put_get, put_none, wantA, ARes.ofOpt, tmOf, List.getD_cons_zero, List.getD_cons_succ, Nat.reduceEqDiff, if_true, if_false, reduceIte, Nat.reduceAdd, Nat.reduceMul, binA, intOp, eqOp, nilOf, lenA_slice, callA, AV.cells, undefA, Option.map_some, Option.map_none, Bool.false_eq_true, reduceCtorEq, beq_false, beq_true, g_true, g_false, mg_true, mg_false, Bool.not_true, Bool.not_false, decide_true, decide_false, not_true_eq_false, not_false_eq_true, List.nil_append, List.cons_append, List.append_nil, Option.isNone_some, Option.isNone_none, List.getElem?_cons_zero, List.getElem?_cons_succ, h0, h1]
                rw [wrap64 (by omega) (by omega)] at hq
                refine cond_dec (fun h4 => ?_) (fun h4 => ?_)
                · simp only [wk_skip, wk_region, wk_seq, wk_block, wk_cond, wk_exit, wk_ret, wk_draw, cnd_true, cnd_false, fin_nil, fin_seq, fin_seq_exit, fin_seq_ret, fin_seq_panic, fin_block, fin_block_exit, fin_block_ret, fin_block_panic, fin_loop, fin_loop_exit, fin_loop_ret, fin_loop_panic, ops_nil, ops_cons, ops_guard, res_val, res_new, main_nil, main_cons, main_guard, mres_val, mres_new, AOp.ev, AOpd.ev, evAll, evParts, evOpt, put_get, put_none, wantA, ARes.ofOpt, tmOf, List.getD_cons_zero, List.getD_cons_succ, Nat.reduceEqDiff, if_true, if_false, reduceIte, Nat.reduceAdd, Nat.reduceMul, binA, intOp, eqOp, nilOf, lenA_slice, callA, AV.cells, undefA, Option.map_some, Option.map_none, Bool.false_eq_true, reduceCtorEq, beq_false, beq_true, g_true, g_false, mg_true, mg_false, Bool.not_true, Bool.not_false, decide_true, decide_false, not_true_eq_false, not_false_eq_true, List.nil_append, List.cons_append, List.append_nil, Option.isNone_some, Option.isNone_none, List.getElem?_cons_zero, List.getElem?_cons_succ]
                  refine out _ rfl (by omega) (.inr fun x hx e => ?_)
                  exact hq.neg.1 h4 ⟨x, hx, by omega⟩
                · simp only [wk_skip, wk_region, wk_seq, wk_block, wk_cond, wk_exit, wk_ret, wk_draw, cnd_true, cnd_false, fin_nil, fin_seq, fin_seq_exit, fin_seq_ret, fin_seq_panic, fin_block, fin_block_exit, fin_block_ret, fin_block_panic, fin_loop, fin_loop_exit, fin_loop_ret, fin_loop_panic, ops_nil, ops_cons, ops_guard, res_val, res_new, main_nil, main_cons, main_guard, mres_val, mres_new, AOp.ev, AOpd.ev, evAll, evParts, evOpt, put_get, put_none, wantA, ARes.ofOpt, tmOf, List.getD_cons_zero, List.getD_cons_succ, Nat.reduceEqDiff, if_true, if_false, reduceIte, Nat.reduceAdd, Nat.reduceMul, binA, intOp, eqOp, nilOf, lenA_slice, callA, AV.cells, undefA, Option.map_some, Option.map_none, Bool.false_eq_true, reduceCtorEq, beq_false, beq_true, g_true, g_false, mg_true, mg_false, Bool.not_true, Bool.not_false, decide_true, decide_false, not_true_eq_false, not_false_eq_true, List.nil_append, List.cons_append, List.append_nil, Option.isNone_some, Option.isNone_none, List.getElem?_cons_zero, List.getElem?_cons_succ]
                  refine meet ⟨rfl, rfl, rfl, rfl, rfl, rfl, fun _ _ => ⟨by omega, ?_⟩⟩
                  have := mt hq.neg.2 h4
                  obtain ⟨x, hx, e⟩ := Classical.not_not.1 this
                  exact ⟨x, hx, by omega⟩
              · rintro u h3 ⟨_, q, e, _⟩; cases e
            · simp only [wk_skip, wk_region, wk_seq, wk_block, wk_cond, wk_exit, wk_ret, wk_draw, cnd_true, cnd_false, fin_nil, fin_seq, fin_seq_exit, fin_seq_ret, fin_seq_panic, fin_block, fin_block_exit, fin_block_ret, fin_block_panic, fin_loop, fin_loop_exit, fin_loop_ret, fin_loop_panic, ops_nil, ops_cons, ops_guard, res_val, res_new, main_nil, main_cons, main_guard, mres_val, mres_new, AOp.ev, AOpd.ev, evAll, evParts, evOpt, put_get, put_none, wantA, ARes.ofOpt, tmOf, List.getD_cons_zero, List.getD_cons_succ, Nat.reduceEqDiff, if_true, if_false, reduceIte, Nat.reduceAdd, Nat.reduceMul, binA, intOp, eqOp, nilOf, lenA_slice, callA, AV.cells, undefA, Option.map_some, Option.map_none, Bool.false_eq_true, reduceCtorEq, beq_false, beq_true, g_true, g_false, mg_true, mg_false, Bool.not_true, Bool.not_false, decide_true, decide_false, not_true_eq_false, not_false_eq_true, List.nil_append, List.cons_append, List.append_nil, Option.isNone_some, Option.isNone_none, List.getElem?_cons_zero, List.getElem?_cons_succ, h0, h1]
              exact out _ rfl (by omega) (.inl (by omega))
          · simp only [wk_skip, wk_region, wk_seq, wk_block, wk_cond, wk_exit, wk_ret, wk_draw, cnd_true, cnd_false, fin_nil, fin_seq, fin_seq_exit, fin_seq_ret, fin_seq_panic, fin_block, fin_block_exit, fin_block_ret, fin_block_panic, fin_loop, fin_loop_exit, fin_loop_ret, fin_loop_panic, ops_nil, ops_cons, ops_guard, res_val, res_new, main_nil, main_cons, main_guard, mres_val, mres_new, AOp.ev, AOpd.ev, evAll, evParts, evOpt, put_get, put_none, wantA, ARes.ofOpt, tmOf, List.getD_cons_zero, List.getD_cons_succ, Nat.reduceEqDiff, if_true, if_false, reduceIte, Nat.reduceAdd, Nat.reduceMul, binA, intOp, eqOp, nilOf, lenA_slice, callA, AV.cells, undefA, Option.map_some, Option.map_none, Bool.false_eq_true, reduceCtorEq, beq_false, beq_true, g_true, g_false, mg_true, mg_false, Bool.not_true, Bool.not_false, decide_true, decide_false, not_true_eq_false, not_false_eq_true, List.nil_append, List.cons_append, List.append_nil, Option.isNone_some, Option.isNone_none, List.getElem?_cons_zero, List.getElem?_cons_succ, h0]
            exact meet ⟨rfl, rfl, rfl, rfl, rfl, rfl, fun _ h => absurd (by omega) h⟩
      · rintro tm ds h' ⟨rfl, rfl, t0, t1, t2, t3, hok⟩
        rcases hr with ⟨_, _, _, e⟩ | ⟨k, hk, hn, ⟨_, _, _, e⟩ | ⟨j, rfl, hm, hrf, _⟩⟩
        · cases e
        · cases e
        · simp only [wk_skip, wk_region, wk_seq, wk_block, wk_cond, wk_exit, wk_ret, wk_draw, cnd_true, cnd_false, fin_nil, fin_seq, fin_seq_exit, fin_seq_ret, fin_seq_panic, fin_block, fin_block_exit, fin_block_ret, fin_block_panic, fin_loop, fin_loop_exit, fin_loop_ret, fin_loop_panic, ops_nil, ops_cons, ops_guard, res_val, res_new, main_nil, main_cons, main_guard, mres_val, mres_new, AOp.ev, AOpd.ev, evAll, evParts, evOpt, put_get, put_none, wantA, ARes.ofOpt, tmOf, List.getD_cons_zero, List.getD_cons_succ, Nat.reduceEqDiff, if_true, if_false, reduceIte, Nat.reduceAdd, Nat.reduceMul, binA, intOp, eqOp, nilOf, lenA_slice, callA, AV.cells, undefA, Option.map_some, Option.map_none, Bool.false_eq_true, reduceCtorEq, beq_false, beq_true, g_true, g_false, mg_true, mg_false, Bool.not_true, Bool.not_false, decide_true, decide_false, not_true_eq_false, not_false_eq_true, List.nil_append, List.cons_append, List.append_nil, Option.isNone_some, Option.isNone_none, List.getElem?_cons_zero, List.getElem?_cons_succ, t0, t1, t2, t3, nilCheck_ptr, W.ld0]
          refine mres_call (at_c W o) ?_ ?_
          · rintro u h3 ⟨rfl, q, e, hq⟩
            cases e
            refine ⟨stabs_more (More.refl _) _, ?_⟩
            · have hqk : q = k := by
                rcases hq with ⟨_, h⟩ | ⟨k', hk', rfl, hn'⟩
                · exact absurd hn (h _ (List.getElem_mem hk))
                · have : k' = k := O.name_inj hk' hk (by omega)
                  rw [this]
              subst hqk
              have hx := List.getElem_mem hk
              obtain ⟨c, p, g1, _, g2, g3, _⟩ := W.row k hk
              have hj : j < xs[k].1.cells.length := (List.getElem?_eq_some_iff.1 hm).1
              obtain ⟨c2, p2, ds2, i1, i2, i3, i4, i5⟩ := (W.cells _ hx).set (fun d hd => (O.cel _ hx d hd).2) j (by simpa using hj) .i64 (.int .u64 n) rfl
              have fin := WRep.setCell W O hk i2 (j := j) (n := n) i5
              simp only [wk_skip, wk_region, wk_seq, wk_block, wk_cond, wk_exit, wk_ret, wk_draw, cnd_true, cnd_false, fin_nil, fin_seq, fin_seq_exit, fin_seq_ret, fin_seq_panic, fin_block, fin_block_exit, fin_block_ret, fin_block_panic, fin_loop, fin_loop_exit, fin_loop_ret, fin_loop_panic, ops_nil, ops_cons, ops_guard, res_val, res_new, main_nil, main_cons, main_guard, mres_val, mres_new, AOp.ev, AOpd.ev, evAll, evParts, evOpt, put_get, put_none, wantA, ARes.ofOpt, tmOf, List.getD_cons_zero, List.getD_cons_succ, Nat.reduceEqDiff, if_true, if_false, reduceIte, Nat.reduceAdd, Nat.reduceMul, binA, intOp, eqOp, nilOf, lenA_slice, callA, AV.cells, undefA, Option.map_some, Option.map_none, Bool.false_eq_true, reduceCtorEq, beq_false, beq_true, g_true, g_false, mg_true, mg_false, Bool.not_true, Bool.not_false, decide_true, decide_false, not_true_eq_false, not_false_eq_true, List.nil_append, List.cons_append, List.append_nil, Option.isNone_some, Option.isNone_none, List.getElem?_cons_zero, List.getElem?_cons_succ, t0, t1, t2, t3, g1, g2, i1, i4]
              refine fnEnd_ret1 ⟨0, putRow xs k j n, by simp [TM.put], .inr ⟨m, r, .inr ⟨k, hk, hn, .inr ⟨j, rfl, hm, hrf, rfl⟩⟩, .inr ⟨rfl, hok, k, j, hk, hn, rfl, hj, rfl⟩⟩, ⟨L, fin⟩, fun d hd _ => ?_⟩
              refine AHeap.upd_other _ _ fun e => ?_
              have := (O.cel _ hx c2 i2).1
              rw [← e] at this
              omega
          · rintro u h3 ⟨_, q, e, _⟩; cases e
  · rintro u h2 ⟨_, m, r, e, he, _⟩; cases he
end Go.Proofs.Ytnkdjfmidiffdaa
namespace Go.Proofs.Ytnkdjfmidiffdaa
open Go Go.Proofs Go.Am
variable {N : Nat}

theorem WIn.more {h h' : AHeap} {b : Nat} {L : AV} {B : Int} {xs : List Row} (W : WIn h b L B xs) (m : More h h') : WIn h' b L B xs :=
  ⟨by rw [m b (by rw [W.top]; simp)]; exact W.top, slice_more W.list m, fun x hx => slice_more (W.cells x hx) m, fun x hx => slice_more (W.refs x hx) m, W.same, W.few, W.small⟩

/-- To which object the j-th cell of the k-th leads. -/
def Leads (xs : List Row) (k j m : Nat) : Prop := ∃ (hk : k < xs.length) (hm : m < xs.length), xs[k].1.refs[j]? = some true ∧ ∃ c, xs[k].1.cells[j]? = some c ∧ (xs[m].1.name : Int) = IntKind.i64.wrap c
inductive Rch (xs : List Row) (roots : List Int) : Nat → Prop
  | root (k : Nat) (hk : k < xs.length) (h : (xs[k].1.name : Int) ∈ roots) : Rch xs roots k
  | step (k j m : Nat) (h : Rch xs roots k) (hl : Leads xs k j m) : Rch xs roots m

/-- The marks as they stand, and where. -/
structure Marks (h h' : AHeap) (cb : Nat) (n : Nat) (on : List Bool) : Prop where
  free : h cb = none
  heap : ∃ ds, h' = h.upd cb (.cells ds false)
  at_ : SliceAt h' 1 (.slice (some (cb, 0)) 1 n n true) (on.map .bool)
  len : on.length = n
theorem Marks.more {h h' : AHeap} {cb n : Nat} {on : List Bool} (m : Marks h h' cb n on) : More h h' := by
  obtain ⟨ds, rfl⟩ := m.heap
  exact More.upd m.free _
theorem Marks.get {h h' : AHeap} {cb n : Nat} {on : List Bool} (m : Marks h h' cb n on) (i : Nat) (hi : i < on.length) : ∃ b o, indexSliceA 1 (.slice (some (cb, 0)) 1 n n true) (.int .i64 i) = some (.ptr (some (b, o))) ∧ loadA h' none (.ptr (some (b, o))) = .val (.bool on[i]) h' := by
  obtain ⟨b, o, h1, _, h2⟩ := m.at_.get i (by simpa using hi) .i64
  simp only [List.getElem_map] at h2
  exact ⟨b, o, h1, h2⟩
theorem Marks.set {h h' : AHeap} {cb n : Nat} {on : List Bool} (m : Marks h h' cb n on) (i : Nat) (hi : i < on.length) :
    ∃ b o h'', indexSliceA 1 (.slice (some (cb, 0)) 1 n n true) (.int .i64 i) = some (.ptr (some (b, o))) ∧ storeA h' 1 (.ptr (some (b, o))) (.bool true) = .val undefA h'' ∧ Marks h h'' cb n (on.set i true) := by
  obtain ⟨ds0, rfl⟩ := m.heap
  obtain ⟨b, o, ds, h1, h2, h3, h4, h5⟩ := m.at_.set (fun d hd => by cases hd; exact ⟨ds0, AHeap.upd_same _ _ _⟩) i (by simpa using hi) .i64 (.bool true) rfl
  cases h2
  refine ⟨cb, o, _, h1, h4, m.free, ⟨_, AHeap.upd_upd _ _ _ _⟩, ?_, by simp [m.len]⟩
  rw [List.map_set]; exact h5

/-- How many are not marked. -/
def off (on : List Bool) : Nat := on.countP (!·)
theorem off_set {on : List Bool} {i : Nat} (hi : i < on.length) (h : on[i] = false) : off (on.set i true) + 1 = off on := by
  induction on generalizing i with
  | nil => simp at hi
  | cons a on ih =>
    cases i with
    | zero => simp at h; subst h; simp [off]
    | succ i =>
      have := ih (i := i) (by simpa using hi) (by simpa using h)
      simp only [off, List.set_cons_succ, List.countP_cons] at this ⊢
      omega
end Go.Proofs.Ytnkdjfmidiffdaa
namespace Go.Proofs.Ytnkdjfmidiffdaa
open Go Go.Proofs Go.Am
variable {N : Nat}

/-- Marks are sound. -/
def Sound (xs : List Row) (roots : List Int) (on : List Bool) : Prop := ∀ k, on[k]? = some true → Rch xs roots k
/-- Marks are closed at a cell. -/
def ClosedAt (xs : List Row) (on : List Bool) (k j : Nat) : Prop := on[k]? = some true → ∀ m, Leads xs k j m → on[m]? = some true
def RootsOn (xs : List Row) (roots : List Int) (on : List Bool) : Prop := ∀ k, ∀ hk : k < xs.length, (xs[k].1.name : Int) ∈ roots → on[k]? = some true

theorem rch_of_closed {xs : List Row} {roots : List Int} {on : List Bool} (h1 : RootsOn xs roots on) (h2 : ∀ k j, ClosedAt xs on k j) : ∀ k, Rch xs roots k → on[k]? = some true := by
  intro k h
  induction h with
  | root k hk h => exact h1 k hk h
  | step k j m _ hl ih => exact h2 k j ih m hl

theorem sound_set {xs : List Row} {roots : List Int} {on : List Bool} (hs : Sound xs roots on) {m : Nat} (hm : Rch xs roots m) : Sound xs roots (on.set m true) := by
  intro k hk
  rw [List.getElem?_set] at hk
  split at hk
  · rename_i e; subst e; exact hm
  · exact hs k hk
theorem roots_set {xs : List Row} {roots : List Int} {on : List Bool} (hs : RootsOn xs roots on) (m : Nat) : RootsOn xs roots (on.set m true) := by
  intro k hk h
  have := hs k hk h
  rw [List.getElem?_set]
  split
  · rename_i e; subst e
    rw [if_pos (List.getElem?_eq_some_iff.1 this).1]
  · exact this

theorem leads_bound {xs : List Row} {k j m : Nat} (h : Leads xs k j m) : ∃ hk : k < xs.length, j < xs[k].1.cells.length := by
  obtain ⟨hk, _, _, c, hc, _⟩ := h
  exact ⟨hk, (List.getElem?_eq_some_iff.1 hc).1⟩
theorem closed_off {xs : List Row} {on : List Bool} {k : Nat} (h : on[k]? ≠ some true) (j : Nat) : ClosedAt xs on k j := fun e => absurd e h

theorem names_inj {xs : List Row} (hd : (xs.map fun x => x.1.name).Pairwise (· < ·)) {i j : Nat} (hi : i < xs.length) (hj : j < xs.length) (e : xs[i].1.name = xs[j].1.name) : i = j := by
  have := List.pairwise_iff_getElem.1 hd
  rcases Nat.lt_trichotomy i j with h | h | h
  · have := this i j (by simpa using hi) (by simpa using hj) h
    simp at this; omega
  · exact h
  · have := this j i (by simpa using hj) (by simpa using hi) h
    simp at this; omega

theorem reached_c {h : AHeap} {b : Nat} {L : AV} {B : Int} {xs : List Row} (W : WIn h b L B xs) {v : AV} {roots : List Int} (H : Ints h v roots) (hl : roots.length ≤ 4294967296) (hd : (xs.map fun x => x.1.name).Pairwise (· < ·)) :
    ACalls Try.prog N 31 [.ptr (some (b, 0)), v] h (fun e h' => ∃ (cb : Nat) (on : List Bool), e = .ret (.slice (some (cb, 0)) 1 xs.length xs.length true) ∧ Marks h h' cb xs.length on ∧ ∀ k, on[k]? = some true ↔ Rch xs roots k) := by
  refine acalls_of_wp c31_ok mixed (by show 2 ≤ 102; decide) (wk_start ?_)
  unfold c31
  have few := W.few
  have hmk := make_one (h := h) (bytes := 1) (z := .bool false) (n := xs.length) (by omega) (by omega)
  simp only [wk_skip, wk_region, wk_seq, wk_block, wk_cond, wk_exit, wk_ret, wk_draw, cnd_true, cnd_false, fin_nil, fin_seq, fin_seq_exit, fin_seq_ret, fin_seq_panic, fin_block, fin_block_exit, fin_block_ret, fin_block_panic, fin_loop, fin_loop_exit, fin_loop_ret, fin_loop_panic, ops_nil, ops_cons, ops_guard, res_val, res_new, main_nil, main_cons, main_guard, mres_val, mres_new, AOp.ev, AOpd.ev, evAll, evParts, evOpt, put_get, put_none, wantA, ARes.ofOpt, tmOf, List.getD_cons_zero, List.getD_cons_succ, Nat.reduceEqDiff, if_true, if_false, reduceIte, Nat.reduceAdd, Nat.reduceMul, binA, intOp, eqOp, nilOf, lenA_slice, callA, AV.cells, undefA, Option.map_some, Option.map_none, Bool.false_eq_true, reduceCtorEq, beq_false, beq_true, g_true, g_false, mg_true, mg_false, Bool.not_true, Bool.not_false, decide_true, decide_false, not_true_eq_false, not_false_eq_true, List.nil_append, List.cons_append, List.append_nil, Option.isNone_some, Option.isNone_none, List.getElem?_cons_zero, List.getElem?_cons_succ, nilCheck_ptr, W.ld0, W.len, hmk]
  intro cb hcb
  have M0 : Marks h (h.upd cb (.cells (List.replicate xs.length (.bool false)) false)) cb xs.length (List.replicate xs.length false) :=
    ⟨hcb, ⟨_, rfl⟩, by rw [List.map_replicate]; exact slice_new (by simp), by simp⟩
  generalize h.upd cb (.cells (List.replicate xs.length (.bool false)) false) = hm at M0
  generalize hon : List.replicate xs.length false = on0 at M0
  have S0 : Sound xs roots on0 := fun k hk => by
    rw [← hon, List.getElem?_replicate] at hk
    split at hk
    · simp at hk
    · cases hk
  clear hmk
  -- the roots
  refine wk_cutb (fun tm ds h' => ds = [] ∧ tm 0 = .ptr (some (b, 0)) ∧ tm 1 = v ∧ tm 5 = .slice (some (cb, 0)) 1 xs.length xs.length true ∧ ∃ on, Marks h h' cb xs.length on ∧ Sound xs roots on ∧ RootsOn xs roots on) ?_ ?_
  · refine wk_loop (fun k tm ds h' => ds = [] ∧ tm 0 = .ptr (some (b, 0)) ∧ tm 1 = v ∧ tm 5 = .slice (some (cb, 0)) 1 xs.length xs.length true ∧ ∃ i : Nat, tm 6 = .int .i64 i ∧ i + k = roots.length ∧
      ∃ on, Marks h h' cb xs.length on ∧ Sound xs roots on ∧ RootsOn xs (roots.take i) on) roots.length ⟨rfl, rfl, rfl, rfl, 0, rfl, by simp, on0, M0, S0, fun k hk h => by simp at h⟩ ?_
    rintro k tm ds h' ⟨rfl, t0, t1, t5, i, t6, hk, on, M, S, Ro⟩
    have W' := W.more M.more
    have H' : Ints h' v roots := slice_more H M.more
    have hlen := H'.len roots.length (by simp) (by omega)
    simp only [wk_skip, wk_region, wk_seq, wk_block, wk_cond, wk_exit, wk_ret, wk_draw, cnd_true, cnd_false, fin_nil, fin_seq, fin_seq_exit, fin_seq_ret, fin_seq_panic, fin_block, fin_block_exit, fin_block_ret, fin_block_panic, fin_loop, fin_loop_exit, fin_loop_ret, fin_loop_panic, ops_nil, ops_cons, ops_guard, res_val, res_new, main_nil, main_cons, main_guard, mres_val, mres_new, AOp.ev, AOpd.ev, evAll, evParts, evOpt, put_get, put_none, wantA, ARes.ofOpt, tmOf, List.getD_cons_zero, List.getD_cons_succ, Nat.reduceEqDiff, if_true, if_false, reduceIte, Nat.reduceAdd, Nat.reduceMul, binA, intOp, eqOp, nilOf, lenA_slice, callA, AV.cells, undefA, Option.map_some, Option.map_none, Bool.false_eq_true, reduceCtorEq, beq_false, beq_true, g_true, g_false, mg_true, mg_false, Bool.not_true, Bool.not_false, decide_true, decide_false, not_true_eq_false, not_false_eq_true, List.nil_append, List.cons_append, List.append_nil, Option.isNone_some, Option.isNone_none, List.getElem?_cons_zero, List.getElem?_cons_succ, t0, t1, t5, t6, hlen]
    refine cond_dec (fun hi => ?_) (fun hi => ?_)
    · have hi' : i < roots.length := by omega
      obtain ⟨c, o, g1, _, g2⟩ := H'.get i (by simpa using hi') .i64
      simp only [List.getElem_map] at g2
      simp only [wk_skip, wk_region, wk_seq, wk_block, wk_cond, wk_exit, wk_ret, wk_draw, cnd_true, cnd_false, fin_nil, fin_seq, fin_seq_exit, fin_seq_ret, fin_seq_panic, fin_block, fin_block_exit, fin_block_ret, fin_block_panic, fin_loop, fin_loop_exit, fin_loop_ret, fin_loop_panic, ops_nil, ops_cons, ops_guard, res_val, res_new, main_nil, main_cons, main_guard, mres_val, mres_new, AOp.ev, AOpd.ev, evAll, evParts, evOpt, put_get, put_none, wantA, ARes.ofOpt, tmOf, List.getD_cons_zero, List.getD_cons_succ, Nat.reduceEqDiff, if_true, if_false, reduceIte, Nat.reduceAdd, Nat.reduceMul, binA, intOp, eqOp, nilOf, lenA_slice, callA, AV.cells, undefA, Option.map_some, Option.map_none, Bool.false_eq_true, reduceCtorEq, beq_false, beq_true, g_true, g_false, mg_true, mg_false, Bool.not_true, Bool.not_false, decide_true, decide_false, not_true_eq_false, not_false_eq_true, List.nil_append, List.cons_append, List.append_nil, Option.isNone_some, Option.isNone_none, List.getElem?_cons_zero, List.getElem?_cons_succ, t0, t1, t5, t6, g1, g2]
      refine res_call (at_c W' _) ?_ ?_
      · rintro u h3 ⟨rfl, r, e, hr⟩
        cases e
        simp only [wk_skip, wk_region, wk_seq, wk_block, wk_cond, wk_exit, wk_ret, wk_draw, cnd_true, cnd_false, fin_nil, fin_seq, fin_seq_exit, fin_seq_ret, fin_seq_panic, fin_block, fin_block_exit, fin_block_ret, fin_block_panic, fin_loop, fin_loop_exit, fin_loop_ret, fin_loop_panic, ops_nil, ops_cons, ops_guard, res_val, res_new, main_nil, main_cons, main_guard, mres_val, mres_new, AOp.ev, AOpd.ev, evAll, evParts, evOpt, put_get, put_none, wantA, ARes.ofOpt, tmOf, List.getD_cons_zero, List.getD_cons_succ, Nat.reduceEqDiff, if_true, if_false, reduceIte, Nat.reduceAdd, Nat.reduceMul, binA, intOp, eqOp, nilOf, lenA_slice, callA, AV.cells, undefA, Option.map_some, Option.map_none, Bool.false_eq_true, reduceCtorEq, beq_false, beq_true, g_true, g_false, mg_true, mg_false, Bool.not_true, Bool.not_false, decide_true, decide_false, not_true_eq_false, not_false_eq_true, List.nil_append, List.cons_append, List.append_nil, Option.isNone_some, Option.isNone_none, List.getElem?_cons_zero, List.getElem?_cons_succ, t0, t1, t5, t6]
        have wr : IntKind.i64.wrap ((i : Int) + 1) = ((i + 1 : Nat) : Int) := by rw [wrap64 (by omega) (by omega)]; rfl
        refine cond_dec (fun h4 => ?_) (fun h4 => ?_)
        · rcases hr with ⟨rfl, _⟩ | ⟨q, hq, rfl, hn⟩
          · omega
          obtain ⟨c2, o2, h4', s1, s2, M2⟩ := M.set q (by rw [M.len]; exact hq)
          simp only [wk_skip, wk_region, wk_seq, wk_block, wk_cond, wk_exit, wk_ret, wk_draw, cnd_true, cnd_false, fin_nil, fin_seq, fin_seq_exit, fin_seq_ret, fin_seq_panic, fin_block, fin_block_exit, fin_block_ret, fin_block_panic, fin_loop, fin_loop_exit, fin_loop_ret, fin_loop_panic, ops_nil, ops_cons, ops_guard, res_val, res_new, main_nil, main_cons, main_guard, mres_val, mres_new, AOp.ev, AOpd.ev, evAll, evParts, evOpt, put_get, put_none, wantA, ARes.ofOpt, tmOf, List.getD_cons_zero, List.getD_cons_succ, Nat.reduceEqDiff, if_true, if_false, reduceIte, Nat.reduceAdd, Nat.reduceMul, binA, intOp, eqOp, nilOf, lenA_slice, callA, AV.cells, undefA, Option.map_some, Option.map_none, Bool.false_eq_true, reduceCtorEq, beq_false, beq_true, g_true, g_false, mg_true, mg_false, Bool.not_true, Bool.not_false, decide_true, decide_false, not_true_eq_false, not_false_eq_true, List.nil_append, List.cons_append, List.append_nil, Option.isNone_some, Option.isNone_none, List.getElem?_cons_zero, List.getElem?_cons_succ, t0, t1, t5, t6, s1, s2]
          refine meet ⟨k - 1, by omega, rfl, by simp [TM.put, t0], by simp [TM.put, t1], by simp [TM.put, t5], i + 1, by simp [TM.put, wr], by omega, on.set q true, M2, ?_, ?_⟩
          · exact sound_set S (.root q hq (by rw [hn]; exact List.getElem_mem hi'))
          · intro k2 hk2 hin
            rw [List.take_add_one, List.mem_append] at hin
            rcases hin with hin | hin
            · exact roots_set Ro q k2 hk2 hin
            · simp [hi'] at hin
              have : k2 = q := names_inj hd hk2 hq (by omega)
              subst this
              rw [List.getElem?_set]
              simp [M.len, hk2]
        · rcases hr with ⟨rfl, hno⟩ | ⟨q, hq, rfl, hn⟩
          · simp only [wk_skip, wk_region, wk_seq, wk_block, wk_cond, wk_exit, wk_ret, wk_draw, cnd_true, cnd_false, fin_nil, fin_seq, fin_seq_exit, fin_seq_ret, fin_seq_panic, fin_block, fin_block_exit, fin_block_ret, fin_block_panic, fin_loop, fin_loop_exit, fin_loop_ret, fin_loop_panic, ops_nil, ops_cons, ops_guard, res_val, res_new, main_nil, main_cons, main_guard, mres_val, mres_new, AOp.ev, AOpd.ev, evAll, evParts, evOpt, put_get, put_none, wantA, ARes.ofOpt, tmOf, List.getD_cons_zero, List.getD_cons_succ, Nat.reduceEqDiff, if_true, if_false, reduceIte, Nat.reduceAdd, Nat.reduceMul, binA, intOp, eqOp, nilOf, lenA_slice, callA, AV.cells, undefA, Option.map_some, Option.map_none, Bool.false_eq_true, reduceCtorEq, beq_false, beq_true, g_true, g_false, mg_true, mg_false, Bool.not_true, Bool.not_false, decide_true, decide_false, not_true_eq_false, not_false_eq_true, List.nil_append, List.cons_append, List.append_nil, Option.isNone_some, Option.isNone_none, List.getElem?_cons_zero, List.getElem?_cons_succ, t0, t1, t5, t6]
            refine meet ⟨k - 1, by omega, rfl, by simp [TM.put, t0], by simp [TM.put, t1], by simp [TM.put, t5], i + 1, by simp [TM.put, wr], by omega, on, M, S, ?_⟩
            intro k2 hk2 hin
            rw [List.take_add_one, List.mem_append] at hin
            rcases hin with hin | hin
            · exact Ro k2 hk2 hin
            · simp [hi'] at hin
              exact absurd hin (hno _ (List.getElem_mem hk2))
          · omega
      · rintro u h3 ⟨_, q, e, _⟩; cases e
    · simp only [wk_skip, wk_region, wk_seq, wk_block, wk_cond, wk_exit, wk_ret, wk_draw, cnd_true, cnd_false, fin_nil, fin_seq, fin_seq_exit, fin_seq_ret, fin_seq_panic, fin_block, fin_block_exit, fin_block_ret, fin_block_panic, fin_loop, fin_loop_exit, fin_loop_ret, fin_loop_panic, ops_nil, ops_cons, ops_guard, res_val, res_new, main_nil, main_cons, main_guard, mres_val, mres_new, AOp.ev, AOpd.ev, evAll, evParts, evOpt, put_get, put_none, wantA, ARes.ofOpt, tmOf, List.getD_cons_zero, List.getD_cons_succ, Nat.reduceEqDiff, if_true, if_false, reduceIte, Nat.reduceAdd, Nat.reduceMul, binA, intOp, eqOp, nilOf, lenA_slice, callA, AV.cells, undefA, Option.map_some, Option.map_none, Bool.false_eq_true, reduceCtorEq, beq_false, beq_true, g_true, g_false, mg_true, mg_false, Bool.not_true, Bool.not_false, decide_true, decide_false, not_true_eq_false, not_false_eq_true, List.nil_append, List.cons_append, List.append_nil, Option.isNone_some, Option.isNone_none, List.getElem?_cons_zero, List.getElem?_cons_succ]
      refine meet ⟨rfl, t0, t1, t5, on, M, S, ?_⟩
      rw [List.take_of_length_le (by omega)] at Ro; exact Ro
  · rintro tm ds h' ⟨rfl, t0, t1, t5, on, M, S, Ro⟩
    simp only [wk_skip, wk_region, wk_seq, wk_block, wk_cond, wk_exit, wk_ret, wk_draw, cnd_true, cnd_false, fin_nil, fin_seq, fin_seq_exit, fin_seq_ret, fin_seq_panic, fin_block, fin_block_exit, fin_block_ret, fin_block_panic, fin_loop, fin_loop_exit, fin_loop_ret, fin_loop_panic, ops_nil, ops_cons, ops_guard, res_val, res_new, main_nil, main_cons, main_guard, mres_val, mres_new, AOp.ev, AOpd.ev, evAll, evParts, evOpt, put_get, put_none, wantA, ARes.ofOpt, tmOf, List.getD_cons_zero, List.getD_cons_succ, Nat.reduceEqDiff, if_true, if_false, reduceIte, Nat.reduceAdd, Nat.reduceMul, binA, intOp, eqOp, nilOf, lenA_slice, callA, AV.cells, undefA, Option.map_some, Option.map_none, Bool.false_eq_true, reduceCtorEq, beq_false, beq_true, g_true, g_false, mg_true, mg_false, Bool.not_true, Bool.not_false, decide_true, decide_false, not_true_eq_false, not_false_eq_true, List.nil_append, List.cons_append, List.append_nil, Option.isNone_some, Option.isNone_none, List.getElem?_cons_zero, List.getElem?_cons_succ]
    refine wk_loop (fun k tm ds h' => ds = [] ∧ tm 0 = .ptr (some (b, 0)) ∧ tm 5 = .slice (some (cb, 0)) 1 xs.length xs.length true ∧ ∃ (on : List Bool) (more : Bool), tm 8 = .bool more ∧ Marks h h' cb xs.length on ∧ Sound xs roots on ∧ RootsOn xs roots on ∧
      k = 2 * off on + (if more = true then 1 else 0) ∧ (more = false → ∀ k j, ClosedAt xs on k j)) (2 * off on + 1) ⟨rfl, by simp [TM.put, t0], by simp [TM.put, t5], on, true, by simp [TM.put], M, S, Ro, by simp, fun e => by cases e⟩ ?_
    clear t0 t1 t5 tm S Ro M on M0 S0 hon on0 hm hcb
    rintro k tm ds h' ⟨rfl, t0, t5, on, more, t8, M, S, Ro, hk, hcl⟩
    simp only [wk_skip, wk_region, wk_seq, wk_block, wk_cond, wk_exit, wk_ret, wk_draw, cnd_true, cnd_false, fin_nil, fin_seq, fin_seq_exit, fin_seq_ret, fin_seq_panic, fin_block, fin_block_exit, fin_block_ret, fin_block_panic, fin_loop, fin_loop_exit, fin_loop_ret, fin_loop_panic, ops_nil, ops_cons, ops_guard, res_val, res_new, main_nil, main_cons, main_guard, mres_val, mres_new, AOp.ev, AOpd.ev, evAll, evParts, evOpt, put_get, put_none, wantA, ARes.ofOpt, tmOf, List.getD_cons_zero, List.getD_cons_succ, Nat.reduceEqDiff, if_true, if_false, reduceIte, Nat.reduceAdd, Nat.reduceMul, binA, intOp, eqOp, nilOf, lenA_slice, callA, AV.cells, undefA, Option.map_some, Option.map_none, Bool.false_eq_true, reduceCtorEq, beq_false, beq_true, g_true, g_false, mg_true, mg_false, Bool.not_true, Bool.not_false, decide_true, decide_false, not_true_eq_false, not_false_eq_true, List.nil_append, List.cons_append, List.append_nil, Option.isNone_some, Option.isNone_none, List.getElem?_cons_zero, List.getElem?_cons_succ, t0, t5, t8]
    cases more with
    | false =>
      simp only [wk_skip, wk_region, wk_seq, wk_block, wk_cond, wk_exit, wk_ret, wk_draw, cnd_true, cnd_false, fin_nil, fin_seq, fin_seq_exit, fin_seq_ret, fin_seq_panic, fin_block, fin_block_exit, fin_block_ret, fin_block_panic, fin_loop, fin_loop_exit, fin_loop_ret, fin_loop_panic, ops_nil, ops_cons, ops_guard, res_val, res_new, main_nil, main_cons, main_guard, mres_val, mres_new, AOp.ev, AOpd.ev, evAll, evParts, evOpt, put_get, put_none, wantA, ARes.ofOpt, tmOf, List.getD_cons_zero, List.getD_cons_succ, Nat.reduceEqDiff, if_true, if_false, reduceIte, Nat.reduceAdd, Nat.reduceMul, binA, intOp, eqOp, nilOf, lenA_slice, callA, AV.cells, undefA, Option.map_some, Option.map_none, Bool.false_eq_true, reduceCtorEq, beq_false, beq_true, g_true, g_false, mg_true, mg_false, Bool.not_true, Bool.not_false, decide_true, decide_false, not_true_eq_false, not_false_eq_true, List.nil_append, List.cons_append, List.append_nil, Option.isNone_some, Option.isNone_none, List.getElem?_cons_zero, List.getElem?_cons_succ, t0, t5, t8]
      have hcl := hcl rfl
      refine fnEnd_ret1 ⟨cb, on, by simp [TM.put, t5], M, fun k => ⟨S k, fun hr => rch_of_closed Ro hcl k hr⟩⟩
    | true =>
      simp only [wk_skip, wk_region, wk_seq, wk_block, wk_cond, wk_exit, wk_ret, wk_draw, cnd_true, cnd_false, fin_nil, fin_seq, fin_seq_exit, fin_seq_ret, fin_seq_panic, fin_block, fin_block_exit, fin_block_ret, fin_block_panic, fin_loop, fin_loop_exit, fin_loop_ret, fin_loop_panic, ops_nil, ops_cons, ops_guard, res_val, res_new, main_nil, main_cons, main_guard, mres_val, mres_new, AOp.ev, AOpd.ev, evAll, evParts, evOpt, put_get, put_none, wantA, ARes.ofOpt, tmOf, List.getD_cons_zero, List.getD_cons_succ, Nat.reduceEqDiff, if_true, if_false, reduceIte, Nat.reduceAdd, Nat.reduceMul, binA, intOp, eqOp, nilOf, lenA_slice, callA, AV.cells, undefA, Option.map_some, Option.map_none, Bool.false_eq_true, reduceCtorEq, beq_false, beq_true, g_true, g_false, mg_true, mg_false, Bool.not_true, Bool.not_false, decide_true, decide_false, not_true_eq_false, not_false_eq_true, List.nil_append, List.cons_append, List.append_nil, Option.isNone_some, Option.isNone_none, List.getElem?_cons_zero, List.getElem?_cons_succ, t0, t5, t8]
      simp only [if_true] at hk
      refine wk_loop (fun k2 tm ds h' => ds = [] ∧ tm 0 = .ptr (some (b, 0)) ∧ tm 5 = .slice (some (cb, 0)) 1 xs.length xs.length true ∧ ∃ i : Nat, tm 9 = .int .i64 i ∧ i + k2 = xs.length ∧ ∃ (on' : List Bool) (more : Bool), tm 8 = .bool more ∧ Marks h h' cb xs.length on' ∧ Sound xs roots on' ∧ RootsOn xs roots on' ∧
        off on' ≤ off on ∧ (more = true → off on' < off on) ∧ (more = false → ∀ k, k < i → ∀ j, ClosedAt xs on' k j)) xs.length ⟨rfl, by simp [TM.put, t0], by simp [TM.put, t5], 0, by simp [TM.put], by omega, on, false, by simp [TM.put], M, S, Ro, Nat.le_refl _, fun e => (by cases e), fun _ k hk => (by omega)⟩ ?_
      clear t0 t5 t8 tm S Ro M hcl h'
      rintro k2 tm ds h' ⟨rfl, t0, t5, i, t9, hk2, on2, more, t8, M, S, Ro, ho1, ho2, hcl⟩
      have W' := W.more M.more
      simp only [wk_skip, wk_region, wk_seq, wk_block, wk_cond, wk_exit, wk_ret, wk_draw, cnd_true, cnd_false, fin_nil, fin_seq, fin_seq_exit, fin_seq_ret, fin_seq_panic, fin_block, fin_block_exit, fin_block_ret, fin_block_panic, fin_loop, fin_loop_exit, fin_loop_ret, fin_loop_panic, ops_nil, ops_cons, ops_guard, res_val, res_new, main_nil, main_cons, main_guard, mres_val, mres_new, AOp.ev, AOpd.ev, evAll, evParts, evOpt, put_get, put_none, wantA, ARes.ofOpt, tmOf, List.getD_cons_zero, List.getD_cons_succ, Nat.reduceEqDiff, if_true, if_false, reduceIte, Nat.reduceAdd, Nat.reduceMul, binA, intOp, eqOp, nilOf, lenA_slice, callA, AV.cells, undefA, Option.map_some, Option.map_none, Bool.false_eq_true, reduceCtorEq, beq_false, beq_true, g_true, g_false, mg_true, mg_false, Bool.not_true, Bool.not_false, decide_true, decide_false, not_true_eq_false, not_false_eq_true, List.nil_append, List.cons_append, List.append_nil, Option.isNone_some, Option.isNone_none, List.getElem?_cons_zero, List.getElem?_cons_succ, t0, t5, t8, t9, nilCheck_ptr, W'.ld0, W'.len]
      refine cond_dec (fun hi => ?_) (fun hi => ?_)
      · have hi' : i < xs.length := by omega
        simp only [wk_skip, wk_region, wk_seq, wk_block, wk_cond, wk_exit, wk_ret, wk_draw, cnd_true, cnd_false, fin_nil, fin_seq, fin_seq_exit, fin_seq_ret, fin_seq_panic, fin_block, fin_block_exit, fin_block_ret, fin_block_panic, fin_loop, fin_loop_exit, fin_loop_ret, fin_loop_panic, ops_nil, ops_cons, ops_guard, res_val, res_new, main_nil, main_cons, main_guard, mres_val, mres_new, AOp.ev, AOpd.ev, evAll, evParts, evOpt, put_get, put_none, wantA, ARes.ofOpt, tmOf, List.getD_cons_zero, List.getD_cons_succ, Nat.reduceEqDiff, if_true, if_false, reduceIte, Nat.reduceAdd, Nat.reduceMul, binA, intOp, eqOp, nilOf, lenA_slice, callA, AV.cells, undefA, Option.map_some, Option.map_none, Bool.false_eq_true, reduceCtorEq, beq_false, beq_true, g_true, g_false, mg_true, mg_false, Bool.not_true, Bool.not_false, decide_true, decide_false, not_true_eq_false, not_false_eq_true, List.nil_append, List.cons_append, List.append_nil, Option.isNone_some, Option.isNone_none, List.getElem?_cons_zero, List.getElem?_cons_succ]
        have hx := List.getElem_mem hi'
        have small := W.small _ hx
        have wri : IntKind.i64.wrap ((i : Int) + 1) = ((i + 1 : Nat) : Int) := by rw [wrap64 (by omega) (by omega)]; rfl
        refine wk_loop (fun k3 tm ds h' => ds = [] ∧ tm 0 = .ptr (some (b, 0)) ∧ tm 5 = .slice (some (cb, 0)) 1 xs.length xs.length true ∧ tm 9 = .int .i64 i ∧ ∃ c : Nat, tm 10 = .int .i64 c ∧ c + k3 = xs[i].1.cells.length ∧ ∃ (on' : List Bool) (more : Bool), tm 8 = .bool more ∧ Marks h h' cb xs.length on' ∧ Sound xs roots on' ∧ RootsOn xs roots on' ∧
          off on' ≤ off on ∧ (more = true → off on' < off on) ∧ (more = false → (∀ k, k < i → ∀ j, ClosedAt xs on' k j) ∧ ∀ j, j < c → ClosedAt xs on' i j)) xs[i].1.cells.length
          ⟨rfl, by simp [TM.put, t0], by simp [TM.put, t5], by simp [TM.put, t9], 0, by simp [TM.put], by omega, on2, more, by simp [TM.put, t8], M, S, Ro, ho1, ho2, fun e => ⟨hcl e, fun j hj => by omega⟩⟩ ?_
        clear t0 t5 t8 t9 tm S Ro M hcl W' ho1 ho2 on2 more h'
        rintro k3 tm ds h' ⟨rfl, t0, t5, t9, c, t10, hk3, on2, more, t8, M, S, Ro, ho1, ho2, hcl⟩
        have W' := W.more M.more
        obtain ⟨a1, a2, m1, m2⟩ := M.get i (by rw [M.len]; exact hi')
        obtain ⟨r1, r2, g1, g2, g3, g4, _⟩ := W'.row i hi'
        have gl := (W'.cells _ hx).len xs[i].1.cells.length (by simp) (by omega)
        -- how a pass over an object ends
        have stop : ∀ tm' : TM, tm' 0 = .ptr (some (b, 0)) → tm' 5 = .slice (some (cb, 0)) 1 xs.length xs.length true → tm' 9 = .int .i64 i → tm' 8 = .bool more → (more = false → ∀ j, ClosedAt xs on2 i j) →
            ∃ k', k' < k2 ∧ ([] : List ADef) = [] ∧ (((tm'.put (some 43) (.int .i64 i)).put (some 44) (.int .i64 (IntKind.i64.wrap (i + 1)))).put (some 9) (.int .i64 (IntKind.i64.wrap (i + 1)))) 0 = .ptr (some (b, 0)) ∧ (((tm'.put (some 43) (.int .i64 i)).put (some 44) (.int .i64 (IntKind.i64.wrap (i + 1)))).put (some 9) (.int .i64 (IntKind.i64.wrap (i + 1)))) 5 = .slice (some (cb, 0)) 1 xs.length xs.length true ∧ ∃ i' : Nat, (((tm'.put (some 43) (.int .i64 i)).put (some 44) (.int .i64 (IntKind.i64.wrap (i + 1)))).put (some 9) (.int .i64 (IntKind.i64.wrap (i + 1)))) 9 = .int .i64 i' ∧ i' + k' = xs.length ∧ ∃ (on' : List Bool) (more : Bool), (((tm'.put (some 43) (.int .i64 i)).put (some 44) (.int .i64 (IntKind.i64.wrap (i + 1)))).put (some 9) (.int .i64 (IntKind.i64.wrap (i + 1)))) 8 = .bool more ∧ Marks h h' cb xs.length on' ∧ Sound xs roots on' ∧ RootsOn xs roots on' ∧
            off on' ≤ off on ∧ (more = true → off on' < off on) ∧ (more = false → ∀ k, k < i' → ∀ j, ClosedAt xs on' k j) := fun tm' u0 u5 u9 u8 hc => by
          refine ⟨k2 - 1, by omega, rfl, by simp [TM.put, u0], by simp [TM.put, u5], i + 1, by simp [TM.put, wri], by omega, on2, more, by simp [TM.put, u8], M, S, Ro, ho1, ho2, fun e k hk j => ?_⟩
          by_cases ek : k < i
          · exact (hcl e).1 k ek j
          · have : k = i := by omega
            subst this; exact hc e j
        simp only [wk_skip, wk_region, wk_seq, wk_block, wk_cond, wk_exit, wk_ret, wk_draw, cnd_true, cnd_false, fin_nil, fin_seq, fin_seq_exit, fin_seq_ret, fin_seq_panic, fin_block, fin_block_exit, fin_block_ret, fin_block_panic, fin_loop, fin_loop_exit, fin_loop_ret, fin_loop_panic, ops_nil, ops_cons, ops_guard, res_val, res_new, main_nil, main_cons, main_guard, mres_val, mres_new, AOp.ev, AOpd.ev, evAll, evParts, evOpt, put_get, put_none, wantA, ARes.ofOpt, tmOf, List.getD_cons_zero, List.getD_cons_succ, Nat.reduceEqDiff, if_true, if_false, reduceIte, Nat.reduceAdd, Nat.reduceMul, binA, intOp, eqOp, nilOf, lenA_slice, callA, AV.cells, undefA, Option.map_some, Option.map_none, Bool.false_eq_true, reduceCtorEq, beq_false, beq_true, g_true, g_false, mg_true, mg_false, Bool.not_true, Bool.not_false, decide_true, decide_false, not_true_eq_false, not_false_eq_true, List.nil_append, List.cons_append, List.append_nil, Option.isNone_some, Option.isNone_none, List.getElem?_cons_zero, List.getElem?_cons_succ, t0, t5, t9, t10, m1, m2]
        cases hoi : on2[i]'(by rw [M.len]; exact hi') with
        | false =>
          simp only [wk_skip, wk_region, wk_seq, wk_block, wk_cond, wk_exit, wk_ret, wk_draw, cnd_true, cnd_false, fin_nil, fin_seq, fin_seq_exit, fin_seq_ret, fin_seq_panic, fin_block, fin_block_exit, fin_block_ret, fin_block_panic, fin_loop, fin_loop_exit, fin_loop_ret, fin_loop_panic, ops_nil, ops_cons, ops_guard, res_val, res_new, main_nil, main_cons, main_guard, mres_val, mres_new, AOp.ev, AOpd.ev, evAll, evParts, evOpt, put_get, put_none, wantA, ARes.ofOpt, tmOf, List.getD_cons_zero, List.getD_cons_succ, Nat.reduceEqDiff, if_true, if_false, reduceIte, Nat.reduceAdd, Nat.reduceMul, binA, intOp, eqOp, nilOf, lenA_slice, callA, AV.cells, undefA, Option.map_some, Option.map_none, Bool.false_eq_true, reduceCtorEq, beq_false, beq_true, g_true, g_false, mg_true, mg_false, Bool.not_true, Bool.not_false, decide_true, decide_false, not_true_eq_false, not_false_eq_true, List.nil_append, List.cons_append, List.append_nil, Option.isNone_some, Option.isNone_none, List.getElem?_cons_zero, List.getElem?_cons_succ, t0, t5, t9, t10, hoi]
          exact meet (stop _ (by simp [TM.put, t0]) (by simp [TM.put, t5]) (by simp [TM.put, t9]) (by simp [TM.put, t8]) fun _ j => closed_off (by rw [List.getElem?_eq_getElem (by rw [M.len]; exact hi'), hoi]; simp) j)
        | true =>
          simp only [wk_skip, wk_region, wk_seq, wk_block, wk_cond, wk_exit, wk_ret, wk_draw, cnd_true, cnd_false, fin_nil, fin_seq, fin_seq_exit, fin_seq_ret, fin_seq_panic, fin_block, fin_block_exit, fin_block_ret, fin_block_panic, fin_loop, fin_loop_exit, fin_loop_ret, fin_loop_panic, ops_nil, ops_cons, ops_guard, res_val, res_new, main_nil, main_cons, main_guard, mres_val, mres_new, AOp.ev, AOpd.ev, evAll, evParts, evOpt, put_get, put_none, wantA, ARes.ofOpt, tmOf, List.getD_cons_zero, List.getD_cons_succ, Nat.reduceEqDiff, if_true, if_false, reduceIte, Nat.reduceAdd, Nat.reduceMul, binA, intOp, eqOp, nilOf, lenA_slice, callA, AV.cells, undefA, Option.map_some, Option.map_none, Bool.false_eq_true, reduceCtorEq, beq_false, beq_true, g_true, g_false, mg_true, mg_false, Bool.not_true, Bool.not_false, decide_true, decide_false, not_true_eq_false, not_false_eq_true, List.nil_append, List.cons_append, List.append_nil, Option.isNone_some, Option.isNone_none, List.getElem?_cons_zero, List.getElem?_cons_succ, t0, t5, t9, t10, hoi, nilCheck_ptr, W'.ld0, g1, g3, gl]
          refine cond_dec (fun hc => ?_) (fun hc => ?_)
          · have hc' : c < xs[i].1.cells.length := by omega
            obtain ⟨b1, b2, p1, _, p2⟩ := (W'.refs _ hx).get c (by rw [List.length_map, W.same _ hx]; exact hc') .i64
            obtain ⟨c1, c2, q1, _, q2⟩ := (W'.cells _ hx).get c (by simpa using hc') .i64
            simp only [List.getElem_map] at p2 q2
            have hrl : c < xs[i].1.refs.length := by rw [W.same _ hx]; exact hc'
            simp only [wk_skip, wk_region, wk_seq, wk_block, wk_cond, wk_exit, wk_ret, wk_draw, cnd_true, cnd_false, fin_nil, fin_seq, fin_seq_exit, fin_seq_ret, fin_seq_panic, fin_block, fin_block_exit, fin_block_ret, fin_block_panic, fin_loop, fin_loop_exit, fin_loop_ret, fin_loop_panic, ops_nil, ops_cons, ops_guard, res_val, res_new, main_nil, main_cons, main_guard, mres_val, mres_new, AOp.ev, AOpd.ev, evAll, evParts, evOpt, put_get, put_none, wantA, ARes.ofOpt, tmOf, List.getD_cons_zero, List.getD_cons_succ, Nat.reduceEqDiff, if_true, if_false, reduceIte, Nat.reduceAdd, Nat.reduceMul, binA, intOp, eqOp, nilOf, lenA_slice, callA, AV.cells, undefA, Option.map_some, Option.map_none, Bool.false_eq_true, reduceCtorEq, beq_false, beq_true, g_true, g_false, mg_true, mg_false, Bool.not_true, Bool.not_false, decide_true, decide_false, not_true_eq_false, not_false_eq_true, List.nil_append, List.cons_append, List.append_nil, Option.isNone_some, Option.isNone_none, List.getElem?_cons_zero, List.getElem?_cons_succ, t0, t5, t9, t10, nilCheck_ptr, W'.ld0, g1, g4, p1, p2]
            refine cond_cut (fun tm ds h2 => ds = [] ∧ h2 = h' ∧ tm 0 = .ptr (some (b, 0)) ∧ tm 5 = .slice (some (cb, 0)) 1 xs.length xs.length true ∧ tm 9 = .int .i64 i ∧ tm 10 = .int .i64 c ∧ tm 8 = .bool more ∧ ∃ r : Int, tm 11 = .int .i64 r ∧
              ((r = -1 ∧ ∀ m, ¬ Leads xs i c m) ∨ ∃ m : Nat, r = m ∧ Leads xs i c m)) ?_ ?_
            · cases hrf : xs[i].1.refs[c] with
              | false =>
                simp only [wk_skip, wk_region, wk_seq, wk_block, wk_cond, wk_exit, wk_ret, wk_draw, cnd_true, cnd_false, fin_nil, fin_seq, fin_seq_exit, fin_seq_ret, fin_seq_panic, fin_block, fin_block_exit, fin_block_ret, fin_block_panic, fin_loop, fin_loop_exit, fin_loop_ret, fin_loop_panic, ops_nil, ops_cons, ops_guard, res_val, res_new, main_nil, main_cons, main_guard, mres_val, mres_new, AOp.ev, AOpd.ev, evAll, evParts, evOpt, put_get, put_none, wantA, ARes.ofOpt, tmOf, List.getD_cons_zero, List.getD_cons_succ, Nat.reduceEqDiff, if_true, if_false, reduceIte, Nat.reduceAdd, Nat.reduceMul, binA, intOp, eqOp, nilOf, lenA_slice, callA, AV.cells, undefA, Option.map_some, Option.map_none, Bool.false_eq_true, reduceCtorEq, beq_false, beq_true, g_true, g_false, mg_true, mg_false, Bool.not_true, Bool.not_false, decide_true, decide_false, not_true_eq_false, not_false_eq_true, List.nil_append, List.cons_append, List.append_nil, Option.isNone_some, Option.isNone_none, List.getElem?_cons_zero, List.getElem?_cons_succ]
                refine meet ⟨rfl, rfl, by simp [TM.put, t0], by simp [TM.put, t5], by simp [TM.put, t9], by simp [TM.put, t10], by simp [TM.put, t8], -1, by simp [TM.put], .inl ⟨rfl, fun m hl => ?_⟩⟩
                obtain ⟨_, _, hr, _⟩ := hl
                rw [List.getElem?_eq_getElem hrl, hrf] at hr
                cases hr
              | true =>
                simp only [wk_skip, wk_region, wk_seq, wk_block, wk_cond, wk_exit, wk_ret, wk_draw, cnd_true, cnd_false, fin_nil, fin_seq, fin_seq_exit, fin_seq_ret, fin_seq_panic, fin_block, fin_block_exit, fin_block_ret, fin_block_panic, fin_loop, fin_loop_exit, fin_loop_ret, fin_loop_panic, ops_nil, ops_cons, ops_guard, res_val, res_new, main_nil, main_cons, main_guard, mres_val, mres_new, AOp.ev, AOpd.ev, evAll, evParts, evOpt, put_get, put_none, wantA, ARes.ofOpt, tmOf, List.getD_cons_zero, List.getD_cons_succ, Nat.reduceEqDiff, if_true, if_false, reduceIte, Nat.reduceAdd, Nat.reduceMul, binA, intOp, eqOp, nilOf, lenA_slice, callA, AV.cells, undefA, Option.map_some, Option.map_none, Bool.false_eq_true, reduceCtorEq, beq_false, beq_true, g_true, g_false, mg_true, mg_false, Bool.not_true, Bool.not_false, decide_true, decide_false, not_true_eq_false, not_false_eq_true, List.nil_append, List.cons_append, List.append_nil, Option.isNone_some, Option.isNone_none, List.getElem?_cons_zero, List.getElem?_cons_succ, t0, t5, t9, t10, nilCheck_ptr, W'.ld0, g1, g3, q1, q2]
                refine res_call (at_c W' _) ?_ ?_
                · rintro u h3 ⟨rfl, r, e, hr⟩
                  cases e
                  simp only [wk_skip, wk_region, wk_seq, wk_block, wk_cond, wk_exit, wk_ret, wk_draw, cnd_true, cnd_false, fin_nil, fin_seq, fin_seq_exit, fin_seq_ret, fin_seq_panic, fin_block, fin_block_exit, fin_block_ret, fin_block_panic, fin_loop, fin_loop_exit, fin_loop_ret, fin_loop_panic, ops_nil, ops_cons, ops_guard, res_val, res_new, main_nil, main_cons, main_guard, mres_val, mres_new, AOp.ev, AOpd.ev, evAll, evParts, evOpt, put_get, put_none, wantA, ARes.ofOpt, tmOf, List.getD_cons_zero, List.getD_cons_succ, Nat.reduceEqDiff, if_true, if_false, reduceIte, Nat.reduceAdd, Nat.reduceMul, binA, intOp, eqOp, nilOf, lenA_slice, callA, AV.cells, undefA, Option.map_some, Option.map_none, Bool.false_eq_true, reduceCtorEq, beq_false, beq_true, g_true, g_false, mg_true, mg_false, Bool.not_true, Bool.not_false, decide_true, decide_false, not_true_eq_false, not_false_eq_true, List.nil_append, List.cons_append, List.append_nil, Option.isNone_some, Option.isNone_none, List.getElem?_cons_zero, List.getElem?_cons_succ]
                  refine meet ⟨rfl, rfl, by simp [TM.put, t0], by simp [TM.put, t5], by simp [TM.put, t9], by simp [TM.put, t10], by simp [TM.put, t8], r, by simp [TM.put], ?_⟩
                  rcases hr with ⟨rfl, hno⟩ | ⟨m, hm, rfl, hn⟩
                  · refine .inl ⟨rfl, fun m hl => ?_⟩
                    obtain ⟨_, hm, _, c', hc', hn⟩ := hl
                    rw [List.getElem?_eq_getElem (by assumption)] at hc'
                    cases hc'
                    exact hno _ (List.getElem_mem hm) hn
                  · exact .inr ⟨m, rfl, hi', hm, by rw [List.getElem?_eq_getElem hrl, hrf], _, List.getElem?_eq_getElem (by assumption), hn⟩
                · rintro u h3 ⟨_, q, e, _⟩; cases e
            · clear t0 t5 t9 t10 t8 tm stop
              rintro tm ds h2 ⟨rfl, rfl, t0, t5, t9, t10, t8, r, t11, hr⟩
              have wrc : IntKind.i64.wrap ((c : Int) + 1) = ((c + 1 : Nat) : Int) := by rw [wrap64 (by omega) (by omega)]; rfl
              -- nothing new
              have none' : ∀ tm' : TM, tm' 0 = .ptr (some (b, 0)) → tm' 5 = .slice (some (cb, 0)) 1 xs.length xs.length true → tm' 9 = .int .i64 i → tm' 8 = .bool more → tm' 10 = .int .i64 ((c + 1 : Nat) : Int) → ClosedAt xs on2 i c →
                  ∃ k', k' < k3 ∧ ([] : List ADef) = [] ∧ tm' 0 = .ptr (some (b, 0)) ∧ tm' 5 = .slice (some (cb, 0)) 1 xs.length xs.length true ∧ tm' 9 = .int .i64 i ∧ ∃ c : Nat, tm' 10 = .int .i64 c ∧ c + k' = xs[i].1.cells.length ∧ ∃ (on' : List Bool) (more : Bool), tm' 8 = .bool more ∧ Marks h h2 cb xs.length on' ∧ Sound xs roots on' ∧ RootsOn xs roots on' ∧
                    off on' ≤ off on ∧ (more = true → off on' < off on) ∧ (more = false → (∀ k, k < i → ∀ j, ClosedAt xs on' k j) ∧ ∀ j, j < c → ClosedAt xs on' i j) := fun tm' u0 u5 u9 u8 u10 hca => by
                refine ⟨k3 - 1, by omega, rfl, u0, u5, u9, c + 1, u10, by omega, on2, more, u8, M, S, Ro, ho1, ho2, fun e => ⟨(hcl e).1, fun j hj => ?_⟩⟩
                by_cases ej : j < c
                · exact (hcl e).2 j ej
                · have : j = c := by omega
                  subst this; exact hca
              simp only [wk_skip, wk_region, wk_seq, wk_block, wk_cond, wk_exit, wk_ret, wk_draw, cnd_true, cnd_false, fin_nil, fin_seq, fin_seq_exit, fin_seq_ret, fin_seq_panic, fin_block, fin_block_exit, fin_block_ret, fin_block_panic, fin_loop, fin_loop_exit, fin_loop_ret, fin_loop_panic, ops_nil, ops_cons, ops_guard, res_val, res_new, main_nil, main_cons, main_guard, mres_val, mres_new, AOp.ev, AOpd.ev, evAll, evParts, evOpt, put_get, put_none, wantA, ARes.ofOpt, tmOf, List.getD_cons_zero, List.getD_cons_succ, Nat.reduceEqDiff, if_true, if_false, reduceIte, Nat.reduceAdd, Nat.reduceMul, binA, intOp, eqOp, nilOf, lenA_slice, callA, AV.cells, undefA, Option.map_some, Option.map_none, Bool.false_eq_true, reduceCtorEq, beq_false, beq_true, g_true, g_false, mg_true, mg_false, Bool.not_true, Bool.not_false, decide_true, decide_false, not_true_eq_false, not_false_eq_true, List.nil_append, List.cons_append, List.append_nil, Option.isNone_some, Option.isNone_none, List.getElem?_cons_zero, List.getElem?_cons_succ, t0, t5, t9, t10, t11]
              refine g_dec (fun h6 => ?_) (fun h6 => ?_)
              · rcases hr with ⟨rfl, hno⟩ | ⟨m, rfl, hl⟩
                · omega
                have hm : m < xs.length := by obtain ⟨_, hm, _⟩ := hl; exact hm
                obtain ⟨d1, d2, n1, n2⟩ := M.get m (by rw [M.len]; exact hm)
                have honi : on2[i]? = some true := by rw [List.getElem?_eq_getElem (by rw [M.len]; exact hi'), hoi]
                simp only [wk_skip, wk_region, wk_seq, wk_block, wk_cond, wk_exit, wk_ret, wk_draw, cnd_true, cnd_false, fin_nil, fin_seq, fin_seq_exit, fin_seq_ret, fin_seq_panic, fin_block, fin_block_exit, fin_block_ret, fin_block_panic, fin_loop, fin_loop_exit, fin_loop_ret, fin_loop_panic, ops_nil, ops_cons, ops_guard, res_val, res_new, main_nil, main_cons, main_guard, mres_val, mres_new, AOp.ev, AOpd.ev, evAll, evParts, evOpt, put_get, put_none, wantA, ARes.ofOpt, tmOf, List.getD_cons_zero, List.getD_cons_succ, Nat.reduceEqDiff, if_true, if_false, reduceIte, Nat.reduceAdd, Nat.reduceMul, binA, intOp, eqOp, nilOf, lenA_slice, callA, AV.cells, undefA, Option.map_some, Option.map_none, Bool.false_eq_true, reduceCtorEq, beq_false, beq_true, g_true, g_false, mg_true, mg_false, Bool.not_true, Bool.not_false, decide_true, decide_false, not_true_eq_false, not_false_eq_true, List.nil_append, List.cons_append, List.append_nil, Option.isNone_some, Option.isNone_none, List.getElem?_cons_zero, List.getElem?_cons_succ, h6, t0, t5, t9, t10, t11, n1, n2]
                cases hom : on2[m]'(by rw [M.len]; exact hm) with
                | true =>
                  simp only [wk_skip, wk_region, wk_seq, wk_block, wk_cond, wk_exit, wk_ret, wk_draw, cnd_true, cnd_false, fin_nil, fin_seq, fin_seq_exit, fin_seq_ret, fin_seq_panic, fin_block, fin_block_exit, fin_block_ret, fin_block_panic, fin_loop, fin_loop_exit, fin_loop_ret, fin_loop_panic, ops_nil, ops_cons, ops_guard, res_val, res_new, main_nil, main_cons, main_guard, mres_val, mres_new, AOp.ev, AOpd.ev, evAll, evParts, evOpt, put_get, put_none, wantA, ARes.ofOpt, tmOf, List.getD_cons_zero, List.getD_cons_succ, Nat.reduceEqDiff, if_true, if_false, reduceIte, Nat.reduceAdd, Nat.reduceMul, binA, intOp, eqOp, nilOf, lenA_slice, callA, AV.cells, undefA, Option.map_some, Option.map_none, Bool.false_eq_true, reduceCtorEq, beq_false, beq_true, g_true, g_false, mg_true, mg_false, Bool.not_true, Bool.not_false, decide_true, decide_false, not_true_eq_false, not_false_eq_true, List.nil_append, List.cons_append, List.append_nil, Option.isNone_some, Option.isNone_none, List.getElem?_cons_zero, List.getElem?_cons_succ, h6, t0, t5, t9, t10, t11, wrc]
                  refine meet (none' _ ?_ ?_ ?_ ?_ ?_ ?_)
                  · simp [TM.put, t0]
                  · simp [TM.put, t5]
                  · simp [TM.put, t9]
                  · simp [TM.put, t8]
                  · simp [TM.put]
                  · intro _ m' hl'
                    have : m' = m := by
                      obtain ⟨_, hm', _, c1, e1, f1⟩ := hl'
                      obtain ⟨_, hm2, _, c2, e2, f2⟩ := hl
                      rw [e1] at e2; cases e2
                      exact names_inj hd hm' hm2 (by omega)
                    rw [this, List.getElem?_eq_getElem (by rw [M.len]; exact hm), hom]
                | false =>
                  obtain ⟨d3, d4, h3, u1, u2, M2⟩ := M.set m (by rw [M.len]; exact hm)
                  have ho := off_set (by rw [M.len]; exact hm) hom
                  simp only [wk_skip, wk_region, wk_seq, wk_block, wk_cond, wk_exit, wk_ret, wk_draw, cnd_true, cnd_false, fin_nil, fin_seq, fin_seq_exit, fin_seq_ret, fin_seq_panic, fin_block, fin_block_exit, fin_block_ret, fin_block_panic, fin_loop, fin_loop_exit, fin_loop_ret, fin_loop_panic, ops_nil, ops_cons, ops_guard, res_val, res_new, main_nil, main_cons, main_guard, mres_val, mres_new, AOp.ev, AOpd.ev, evAll, evParts, evOpt, put_get, put_none, wantA, ARes.ofOpt, tmOf, List.getD_cons_zero, List.getD_cons_succ, Nat.reduceEqDiff, if_true, if_false, reduceIte, Nat.reduceAdd, Nat.reduceMul, binA, intOp, eqOp, nilOf, lenA_slice, callA, AV.cells, undefA, Option.map_some, Option.map_none, Bool.false_eq_true, reduceCtorEq, beq_false, beq_true, g_true, g_false, mg_true, mg_false, Bool.not_true, Bool.not_false, decide_true, decide_false, not_true_eq_false, not_false_eq_true, List.nil_append, List.cons_append, List.append_nil, Option.isNone_some, Option.isNone_none, List.getElem?_cons_zero, List.getElem?_cons_succ, h6, t0, t5, t9, t10, t11, wrc, u1, u2]
                  refine meet ⟨k3 - 1, by omega, rfl, by simp [TM.put, t0], by simp [TM.put, t5], by simp [TM.put, t9], c + 1, by simp [TM.put], by omega, on2.set m true, true, by simp [TM.put], M2, sound_set S (.step i c m (S i honi) hl), roots_set Ro m, by omega, fun _ => by omega, fun e => (by cases e)⟩
              · rcases hr with ⟨rfl, hno⟩ | ⟨m, rfl, hl⟩
                · simp only [wk_skip, wk_region, wk_seq, wk_block, wk_cond, wk_exit, wk_ret, wk_draw, cnd_true, cnd_false, fin_nil, fin_seq, fin_seq_exit, fin_seq_ret, fin_seq_panic, fin_block, fin_block_exit, fin_block_ret, fin_block_panic, fin_loop, fin_loop_exit, fin_loop_ret, fin_loop_panic, ops_nil, ops_cons, ops_guard, res_val, res_new, main_nil, main_cons, main_guard, mres_val, mres_new, AOp.ev, AOpd.ev, evAll, evParts, evOpt, put_get, put_none, wantA, ARes.ofOpt, tmOf, List.getD_cons_zero, List.getD_cons_succ, Nat.reduceEqDiff, if_true, if_false, reduceIte, Nat.reduceAdd, Nat.reduceMul, binA, intOp, eqOp, nilOf, lenA_slice, callA, AV.cells, undefA, Option.map_some, Option.map_none, Bool.false_eq_true, reduceCtorEq, beq_false, beq_true, g_true, g_false, mg_true, mg_false, Bool.not_true, Bool.not_false, decide_true, decide_false, not_true_eq_false, not_false_eq_true, List.nil_append, List.cons_append, List.append_nil, Option.isNone_some, Option.isNone_none, List.getElem?_cons_zero, List.getElem?_cons_succ, h6, t0, t5, t9, t10, t11, wrc]
                  refine meet (none' _ ?_ ?_ ?_ ?_ ?_ ?_)
                  · simp [TM.put, t0]
                  · simp [TM.put, t5]
                  · simp [TM.put, t9]
                  · simp [TM.put, t8]
                  · simp [TM.put]
                  · exact fun _ m hl => absurd hl (hno m)
                · omega
          · simp only [wk_skip, wk_region, wk_seq, wk_block, wk_cond, wk_exit, wk_ret, wk_draw, cnd_true, cnd_false, fin_nil, fin_seq, fin_seq_exit, fin_seq_ret, fin_seq_panic, fin_block, fin_block_exit, fin_block_ret, fin_block_panic, fin_loop, fin_loop_exit, fin_loop_ret, fin_loop_panic, ops_nil, ops_cons, ops_guard, res_val, res_new, main_nil, main_cons, main_guard, mres_val, mres_new, AOp.ev, AOpd.ev, evAll, evParts, evOpt, put_get, put_none, wantA, ARes.ofOpt, tmOf, List.getD_cons_zero, List.getD_cons_succ, Nat.reduceEqDiff, if_true, if_false, reduceIte, Nat.reduceAdd, Nat.reduceMul, binA, intOp, eqOp, nilOf, lenA_slice, callA, AV.cells, undefA, Option.map_some, Option.map_none, Bool.false_eq_true, reduceCtorEq, beq_false, beq_true, g_true, g_false, mg_true, mg_false, Bool.not_true, Bool.not_false, decide_true, decide_false, not_true_eq_false, not_false_eq_true, List.nil_append, List.cons_append, List.append_nil, Option.isNone_some, Option.isNone_none, List.getElem?_cons_zero, List.getElem?_cons_succ, t0, t5, t9, t10]
            refine meet (stop _ (by simp [TM.put, t0]) (by simp [TM.put, t5]) (by simp [TM.put, t9]) (by simp [TM.put, t8]) fun e j => ?_)
            by_cases hj : j < c
            · exact (hcl e).2 j hj
            · exact fun _ m hl => by have := (leads_bound hl).2; omega
      · simp only [wk_skip, wk_region, wk_seq, wk_block, wk_cond, wk_exit, wk_ret, wk_draw, cnd_true, cnd_false, fin_nil, fin_seq, fin_seq_exit, fin_seq_ret, fin_seq_panic, fin_block, fin_block_exit, fin_block_ret, fin_block_panic, fin_loop, fin_loop_exit, fin_loop_ret, fin_loop_panic, ops_nil, ops_cons, ops_guard, res_val, res_new, main_nil, main_cons, main_guard, mres_val, mres_new, AOp.ev, AOpd.ev, evAll, evParts, evOpt, put_get, put_none, wantA, ARes.ofOpt, tmOf, List.getD_cons_zero, List.getD_cons_succ, Nat.reduceEqDiff, if_true, if_false, reduceIte, Nat.reduceAdd, Nat.reduceMul, binA, intOp, eqOp, nilOf, lenA_slice, callA, AV.cells, undefA, Option.map_some, Option.map_none, Bool.false_eq_true, reduceCtorEq, beq_false, beq_true, g_true, g_false, mg_true, mg_false, Bool.not_true, Bool.not_false, decide_true, decide_false, not_true_eq_false, not_false_eq_true, List.nil_append, List.cons_append, List.append_nil, Option.isNone_some, Option.isNone_none, List.getElem?_cons_zero, List.getElem?_cons_succ]
        refine meet ⟨2 * off on2 + (if more = true then 1 else 0), ?_, rfl, t0, t5, on2, more, t8, M, S, Ro, rfl, fun e k j => ?_⟩
        · cases more with
          | false => simp; omega
          | true => have := ho2 rfl; simp; omega
        · by_cases hk : k < i
          · exact hcl e k hk j
          · exact fun hon m hl => by have := (leads_bound hl).1; omega
end Go.Proofs.Ytnkdjfmidiffdaa
namespace Go.Proofs.Ytnkdjfmidiffdaa
open Go Go.Proofs Go.Am
variable {N : Nat}

/-- The names of those that are marked. -/
def picked (xs : List Row) (on : List Bool) : List Int := ((xs.zip on).filter (·.2)).map fun p => (p.1.1.name : Int)
theorem zip_take_succ {α β : Type} (xs : List α) (ys : List β) (i : Nat) (hi : i < xs.length) (hj : i < ys.length) : (xs.zip ys).take (i + 1) = (xs.zip ys).take i ++ [(xs[i], ys[i])] := by
  rw [List.take_add_one, List.getElem?_eq_getElem (by simp; omega)]
  simp

def ReachSaid (h0 h' : AHeap) (xs : List Row) (roots : List Int) (v : AV) (e : Int) : Prop :=
  (¬ Known xs roots ∧ v = .slice none 0 0 0 true ∧ e = 15 ∧ h' = h0) ∨
  (Known xs roots ∧ e = 0 ∧ ∃ on : List Bool, on.length = xs.length ∧ (∀ k, on[k]? = some true ↔ Rch xs roots k) ∧ Grown h0 h' 1 v ((picked xs on).map (.int .i64)))

theorem reach_c {h : AHeap} {b : Nat} {L : AV} {B : Int} {xs : List Row} (W : WIn h b L B xs) {v : AV} {roots : List Int} (H : Ints h v roots) (hl : roots.length ≤ 4294967296) (hd : (xs.map fun x => x.1.name).Pairwise (· < ·)) :
    ACalls Try.prog N 11 [.ptr (some (b, 0)), v] h (fun e h' => ∃ (u : AV) (er : Int), e = .ret (.tuple [u, .int .i64 er]) ∧ ReachSaid h h' xs roots u er) := by
  refine acalls_of_wp c11_ok mixed (by show 2 ≤ 41; decide) (wk_start ?_)
  unfold c11
  have few := W.few
  simp only [wk_skip, wk_region, wk_seq, wk_block, wk_cond, wk_exit, wk_ret, wk_draw, cnd_true, cnd_false, fin_nil, fin_seq, fin_seq_exit, fin_seq_ret, fin_seq_panic, fin_block, fin_block_exit, fin_block_ret, fin_block_panic, fin_loop, fin_loop_exit, fin_loop_ret, fin_loop_panic, ops_nil, ops_cons, ops_guard, res_val, res_new, main_nil, main_cons, main_guard, mres_val, mres_new, AOp.ev, AOpd.ev, evAll, evParts, evOpt, put_get, put_none, wantA, ARes.ofOpt, tmOf, List.getD_cons_zero, List.getD_cons_succ, Nat.reduceEqDiff, if_true, if_false, reduceIte, Nat.reduceAdd, Nat.reduceMul, binA, intOp, eqOp, nilOf, lenA_slice, callA, AV.cells, undefA, Option.map_some, Option.map_none, Bool.false_eq_true, reduceCtorEq, beq_false, beq_true, g_true, g_false, mg_true, mg_false, Bool.not_true, Bool.not_false, decide_true, decide_false, not_true_eq_false, not_false_eq_true, List.nil_append, List.cons_append, List.append_nil, Option.isNone_some, Option.isNone_none, List.getElem?_cons_zero, List.getElem?_cons_succ]
  refine res_call (known_c W H hl) ?_ ?_
  · rintro u h2 ⟨rfl, q, e, hq⟩
    cases e
    simp only [wk_skip, wk_region, wk_seq, wk_block, wk_cond, wk_exit, wk_ret, wk_draw, cnd_true, cnd_false, fin_nil, fin_seq, fin_seq_exit, fin_seq_ret, fin_seq_panic, fin_block, fin_block_exit, fin_block_ret, fin_block_panic, fin_loop, fin_loop_exit, fin_loop_ret, fin_loop_panic, ops_nil, ops_cons, ops_guard, res_val, res_new, main_nil, main_cons, main_guard, mres_val, mres_new, AOp.ev, AOpd.ev, evAll, evParts, evOpt, put_get, put_none, wantA, ARes.ofOpt, tmOf, List.getD_cons_zero, List.getD_cons_succ, Nat.reduceEqDiff, if_true, if_false, reduceIte, Nat.reduceAdd, Nat.reduceMul, binA, intOp, eqOp, nilOf, lenA_slice, callA, AV.cells, undefA, Option.map_some, Option.map_none, Bool.false_eq_true, reduceCtorEq, beq_false, beq_true, g_true, g_false, mg_true, mg_false, Bool.not_true, Bool.not_false, decide_true, decide_false, not_true_eq_false, not_false_eq_true, List.nil_append, List.cons_append, List.append_nil, Option.isNone_some, Option.isNone_none, List.getElem?_cons_zero, List.getElem?_cons_succ]
    cases q with
    | false =>
      simp only [wk_skip, wk_region, wk_seq, wk_block, wk_cond, wk_exit, wk_ret, wk_draw, cnd_true, cnd_false, fin_nil, fin_seq, fin_seq_exit, fin_seq_ret, fin_seq_panic, fin_block, fin_block_exit, fin_block_ret, fin_block_panic, fin_loop, fin_loop_exit, fin_loop_ret, fin_loop_panic, ops_nil, ops_cons, ops_guard, res_val, res_new, main_nil, main_cons, main_guard, mres_val, mres_new, AOp.ev, AOpd.ev, evAll, evParts, evOpt, put_get, put_none, wantA, ARes.ofOpt, tmOf, List.getD_cons_zero, List.getD_cons_succ, Nat.reduceEqDiff, if_true, if_false, reduceIte, Nat.reduceAdd, Nat.reduceMul, binA, intOp, eqOp, nilOf, lenA_slice, callA, AV.cells, undefA, Option.map_some, Option.map_none, Bool.false_eq_true, reduceCtorEq, beq_false, beq_true, g_true, g_false, mg_true, mg_false, Bool.not_true, Bool.not_false, decide_true, decide_false, not_true_eq_false, not_false_eq_true, List.nil_append, List.cons_append, List.append_nil, Option.isNone_some, Option.isNone_none, List.getElem?_cons_zero, List.getElem?_cons_succ]
      refine fnEnd_ret2 ⟨_, _, rfl, .inl ⟨fun hk => by simpa using hq.2 hk, by simp [TM.put], by simp [TM.put], rfl⟩⟩
    | true =>
      have hkn := hq.1 rfl
      simp only [wk_skip, wk_region, wk_seq, wk_block, wk_cond, wk_exit, wk_ret, wk_draw, cnd_true, cnd_false, fin_nil, fin_seq, fin_seq_exit, fin_seq_ret, fin_seq_panic, fin_block, fin_block_exit, fin_block_ret, fin_block_panic, fin_loop, fin_loop_exit, fin_loop_ret, fin_loop_panic, ops_nil, ops_cons, ops_guard, res_val, res_new, main_nil, main_cons, main_guard, mres_val, mres_new, AOp.ev, AOpd.ev, evAll, evParts, evOpt, put_get, put_none, wantA, ARes.ofOpt, tmOf, List.getD_cons_zero, List.getD_cons_succ, Nat.reduceEqDiff, if_true, if_false, reduceIte, Nat.reduceAdd, Nat.reduceMul, binA, intOp, eqOp, nilOf, lenA_slice, callA, AV.cells, undefA, Option.map_some, Option.map_none, Bool.false_eq_true, reduceCtorEq, beq_false, beq_true, g_true, g_false, mg_true, mg_false, Bool.not_true, Bool.not_false, decide_true, decide_false, not_true_eq_false, not_false_eq_true, List.nil_append, List.cons_append, List.append_nil, Option.isNone_some, Option.isNone_none, List.getElem?_cons_zero, List.getElem?_cons_succ]
      refine res_call (reached_c W H hl hd) ?_ ?_
      · rintro u h3 ⟨cb, on, e, M, hon⟩
        cases e
        simp only [wk_skip, wk_region, wk_seq, wk_block, wk_cond, wk_exit, wk_ret, wk_draw, cnd_true, cnd_false, fin_nil, fin_seq, fin_seq_exit, fin_seq_ret, fin_seq_panic, fin_block, fin_block_exit, fin_block_ret, fin_block_panic, fin_loop, fin_loop_exit, fin_loop_ret, fin_loop_panic, ops_nil, ops_cons, ops_guard, res_val, res_new, main_nil, main_cons, main_guard, mres_val, mres_new, AOp.ev, AOpd.ev, evAll, evParts, evOpt, put_get, put_none, wantA, ARes.ofOpt, tmOf, List.getD_cons_zero, List.getD_cons_succ, Nat.reduceEqDiff, if_true, if_false, reduceIte, Nat.reduceAdd, Nat.reduceMul, binA, intOp, eqOp, nilOf, lenA_slice, callA, AV.cells, undefA, Option.map_some, Option.map_none, Bool.false_eq_true, reduceCtorEq, beq_false, beq_true, g_true, g_false, mg_true, mg_false, Bool.not_true, Bool.not_false, decide_true, decide_false, not_true_eq_false, not_false_eq_true, List.nil_append, List.cons_append, List.append_nil, Option.isNone_some, Option.isNone_none, List.getElem?_cons_zero, List.getElem?_cons_succ]
        refine wk_loop (fun k tm ds h' => ds = [] ∧ tm 0 = .ptr (some (b, 0)) ∧ tm 6 = .slice (some (cb, 0)) 1 xs.length xs.length true ∧ ∃ (i : Nat) (lv : AV), tm 8 = .int .i64 i ∧ i + k = xs.length ∧ tm 7 = lv ∧
          Grown h3 h' 1 lv ((((xs.zip on).take i).filter (·.2)).map fun p => .int .i64 (p.1.1.name : Int))) xs.length ⟨rfl, rfl, rfl, 0, _, rfl, by simp, rfl, Grown.nil (More.refl _) 1 0 true⟩ ?_
        rintro k tm ds h' ⟨rfl, t0, t6, i, lv, t8, hk, t7, G⟩
        have W' := W.more (M.more.trans G.more)
        simp only [wk_skip, wk_region, wk_seq, wk_block, wk_cond, wk_exit, wk_ret, wk_draw, cnd_true, cnd_false, fin_nil, fin_seq, fin_seq_exit, fin_seq_ret, fin_seq_panic, fin_block, fin_block_exit, fin_block_ret, fin_block_panic, fin_loop, fin_loop_exit, fin_loop_ret, fin_loop_panic, ops_nil, ops_cons, ops_guard, res_val, res_new, main_nil, main_cons, main_guard, mres_val, mres_new, AOp.ev, AOpd.ev, evAll, evParts, evOpt, put_get, put_none, wantA, ARes.ofOpt, tmOf, List.getD_cons_zero, List.getD_cons_succ, Nat.reduceEqDiff, if_true, if_false, reduceIte, Nat.reduceAdd, Nat.reduceMul, binA, intOp, eqOp, nilOf, lenA_slice, callA, AV.cells, undefA, Option.map_some, Option.map_none, Bool.false_eq_true, reduceCtorEq, beq_false, beq_true, g_true, g_false, mg_true, mg_false, Bool.not_true, Bool.not_false, decide_true, decide_false, not_true_eq_false, not_false_eq_true, List.nil_append, List.cons_append, List.append_nil, Option.isNone_some, Option.isNone_none, List.getElem?_cons_zero, List.getElem?_cons_succ, t0, t6, t7, t8, nilCheck_ptr, W'.ld0, W'.len]
        refine cond_dec (fun hi => ?_) (fun hi => ?_)
        · have hi' : i < xs.length := by omega
          have wri : IntKind.i64.wrap ((i : Int) + 1) = ((i + 1 : Nat) : Int) := by rw [wrap64 (by omega) (by omega)]; rfl
          have hon' : i < on.length := by rw [M.len]; exact hi'
          have at' := slice_more M.at_ G.more
          obtain ⟨a1, a2, m1, _, m2⟩ := at'.get i (by simpa using hon') .i64
          simp only [List.getElem_map] at m2
          obtain ⟨r1, r2, g1, g2, _⟩ := W'.row i hi'
          simp only [wk_skip, wk_region, wk_seq, wk_block, wk_cond, wk_exit, wk_ret, wk_draw, cnd_true, cnd_false, fin_nil, fin_seq, fin_seq_exit, fin_seq_ret, fin_seq_panic, fin_block, fin_block_exit, fin_block_ret, fin_block_panic, fin_loop, fin_loop_exit, fin_loop_ret, fin_loop_panic, ops_nil, ops_cons, ops_guard, res_val, res_new, main_nil, main_cons, main_guard, mres_val, mres_new, AOp.ev, AOpd.ev, evAll, evParts, evOpt, put_get, put_none, wantA, ARes.ofOpt, tmOf, List.getD_cons_zero, List.getD_cons_succ, Nat.reduceEqDiff, if_true, if_false, reduceIte, Nat.reduceAdd, Nat.reduceMul, binA, intOp, eqOp, nilOf, lenA_slice, callA, AV.cells, undefA, Option.map_some, Option.map_none, Bool.false_eq_true, reduceCtorEq, beq_false, beq_true, g_true, g_false, mg_true, mg_false, Bool.not_true, Bool.not_false, decide_true, decide_false, not_true_eq_false, not_false_eq_true, List.nil_append, List.cons_append, List.append_nil, Option.isNone_some, Option.isNone_none, List.getElem?_cons_zero, List.getElem?_cons_succ, t0, t6, t7, t8, m1, m2]
          have zt := zip_take_succ xs on i hi' hon'
          cases ho : on[i] with
          | false =>
            simp only [wk_skip, wk_region, wk_seq, wk_block, wk_cond, wk_exit, wk_ret, wk_draw, cnd_true, cnd_false, fin_nil, fin_seq, fin_seq_exit, fin_seq_ret, fin_seq_panic, fin_block, fin_block_exit, fin_block_ret, fin_block_panic, fin_loop, fin_loop_exit, fin_loop_ret, fin_loop_panic, ops_nil, ops_cons, ops_guard, res_val, res_new, main_nil, main_cons, main_guard, mres_val, mres_new, AOp.ev, AOpd.ev, evAll, evParts, evOpt, put_get, put_none, wantA, ARes.ofOpt, tmOf, List.getD_cons_zero, List.getD_cons_succ, Nat.reduceEqDiff, if_true, if_false, reduceIte, Nat.reduceAdd, Nat.reduceMul, binA, intOp, eqOp, nilOf, lenA_slice, callA, AV.cells, undefA, Option.map_some, Option.map_none, Bool.false_eq_true, reduceCtorEq, beq_false, beq_true, g_true, g_false, mg_true, mg_false, Bool.not_true, Bool.not_false, decide_true, decide_false, not_true_eq_false, not_false_eq_true, List.nil_append, List.cons_append, List.append_nil, Option.isNone_some, Option.isNone_none, List.getElem?_cons_zero, List.getElem?_cons_succ, t0, t6, t7, t8]
            refine meet ⟨k - 1, by omega, rfl, by simp [TM.put, t0], by simp [TM.put, t6], i + 1, lv, by simp [TM.put, wri], by omega, by simp [TM.put, t7], ?_⟩
            rw [zt, ho]; simpa using G
          | true =>
            simp only [wk_skip, wk_region, wk_seq, wk_block, wk_cond, wk_exit, wk_ret, wk_draw, cnd_true, cnd_false, fin_nil, fin_seq, fin_seq_exit, fin_seq_ret, fin_seq_panic, fin_block, fin_block_exit, fin_block_ret, fin_block_panic, fin_loop, fin_loop_exit, fin_loop_ret, fin_loop_panic, ops_nil, ops_cons, ops_guard, res_val, res_new, main_nil, main_cons, main_guard, mres_val, mres_new, AOp.ev, AOpd.ev, evAll, evParts, evOpt, put_get, put_none, wantA, ARes.ofOpt, tmOf, List.getD_cons_zero, List.getD_cons_succ, Nat.reduceEqDiff, if_true, if_false, reduceIte, Nat.reduceAdd, Nat.reduceMul, binA, intOp, eqOp, nilOf, lenA_slice, callA, AV.cells, undefA, Option.map_some, Option.map_none, Bool.false_eq_true, reduceCtorEq, beq_false, beq_true, g_true, g_false, mg_true, mg_false, Bool.not_true, Bool.not_false, decide_true, decide_false, not_true_eq_false, not_false_eq_true, List.nil_append, List.cons_append, List.append_nil, Option.isNone_some, Option.isNone_none, List.getElem?_cons_zero, List.getElem?_cons_succ, t0, t6, t7, t8, nilCheck_ptr, W'.ld0, g1, g2, fill_int]
            intro c hc
            have hlen : ((((xs.zip on).take i).filter (·.2)).map fun p => AV.int .i64 (p.1.1.name : Int)).length ≤ 65536 := by
              rw [List.length_map]
              refine Nat.le_trans (List.length_filter_le _ _) ?_
              simp; omega
            obtain ⟨kk, h4, e4, g4⟩ := G.push (bytes := 8) hc (x := [.int .i64 (xs[i].1.name : Int)]) rfl (by omega) (by omega) (by omega) (by simp [AV.oneCell]) rfl
            simp only [wk_skip, wk_region, wk_seq, wk_block, wk_cond, wk_exit, wk_ret, wk_draw, cnd_true, cnd_false, fin_nil, fin_seq, fin_seq_exit, fin_seq_ret, fin_seq_panic, fin_block, fin_block_exit, fin_block_ret, fin_block_panic, fin_loop, fin_loop_exit, fin_loop_ret, fin_loop_panic, ops_nil, ops_cons, ops_guard, res_val, res_new, main_nil, main_cons, main_guard, mres_val, mres_new, AOp.ev, AOpd.ev, evAll, evParts, evOpt, put_get, put_none, wantA, ARes.ofOpt, tmOf, List.getD_cons_zero, List.getD_cons_succ, Nat.reduceEqDiff, if_true, if_false, reduceIte, Nat.reduceAdd, Nat.reduceMul, binA, intOp, eqOp, nilOf, lenA_slice, callA, AV.cells, undefA, Option.map_some, Option.map_none, Bool.false_eq_true, reduceCtorEq, beq_false, beq_true, g_true, g_false, mg_true, mg_false, Bool.not_true, Bool.not_false, decide_true, decide_false, not_true_eq_false, not_false_eq_true, List.nil_append, List.cons_append, List.append_nil, Option.isNone_some, Option.isNone_none, List.getElem?_cons_zero, List.getElem?_cons_succ, e4]
            intro c2 hc2
            have G2 := g4 c2 hc2
            simp only [wk_skip, wk_region, wk_seq, wk_block, wk_cond, wk_exit, wk_ret, wk_draw, cnd_true, cnd_false, fin_nil, fin_seq, fin_seq_exit, fin_seq_ret, fin_seq_panic, fin_block, fin_block_exit, fin_block_ret, fin_block_panic, fin_loop, fin_loop_exit, fin_loop_ret, fin_loop_panic, ops_nil, ops_cons, ops_guard, res_val, res_new, main_nil, main_cons, main_guard, mres_val, mres_new, AOp.ev, AOpd.ev, evAll, evParts, evOpt, put_get, put_none, wantA, ARes.ofOpt, tmOf, List.getD_cons_zero, List.getD_cons_succ, Nat.reduceEqDiff, if_true, if_false, reduceIte, Nat.reduceAdd, Nat.reduceMul, binA, intOp, eqOp, nilOf, lenA_slice, callA, AV.cells, undefA, Option.map_some, Option.map_none, Bool.false_eq_true, reduceCtorEq, beq_false, beq_true, g_true, g_false, mg_true, mg_false, Bool.not_true, Bool.not_false, decide_true, decide_false, not_true_eq_false, not_false_eq_true, List.nil_append, List.cons_append, List.append_nil, Option.isNone_some, Option.isNone_none, List.getElem?_cons_zero, List.getElem?_cons_succ, t8]
            refine meet ⟨k - 1, by omega, rfl, by simp [TM.put, t0], by simp [TM.put, t6], i + 1, kk c2, by simp [TM.put, wri], by omega, by simp [TM.put], ?_⟩
            rw [zt, ho]; simpa using G2
        · simp only [wk_skip, wk_region, wk_seq, wk_block, wk_cond, wk_exit, wk_ret, wk_draw, cnd_true, cnd_false, fin_nil, fin_seq, fin_seq_exit, fin_seq_ret, fin_seq_panic, fin_block, fin_block_exit, fin_block_ret, fin_block_panic, fin_loop, fin_loop_exit, fin_loop_ret, fin_loop_panic, ops_nil, ops_cons, ops_guard, res_val, res_new, main_nil, main_cons, main_guard, mres_val, mres_new, AOp.ev, AOpd.ev, evAll, evParts, evOpt, put_get, put_none, wantA, ARes.ofOpt, tmOf, List.getD_cons_zero, List.getD_cons_succ, Nat.reduceEqDiff, if_true, if_false, reduceIte, Nat.reduceAdd, Nat.reduceMul, binA, intOp, eqOp, nilOf, lenA_slice, callA, AV.cells, undefA, Option.map_some, Option.map_none, Bool.false_eq_true, reduceCtorEq, beq_false, beq_true, g_true, g_false, mg_true, mg_false, Bool.not_true, Bool.not_false, decide_true, decide_false, not_true_eq_false, not_false_eq_true, List.nil_append, List.cons_append, List.append_nil, Option.isNone_some, Option.isNone_none, List.getElem?_cons_zero, List.getElem?_cons_succ, t7]
          refine fnEnd_ret2 ⟨lv, 0, by simp [TM.put], .inr ⟨hkn, rfl, on, M.len, hon, ?_⟩⟩
          have : (xs.zip on).take i = xs.zip on := List.take_of_length_le (by simp; omega)
          rw [this] at G
          have := G.base M.more
          unfold picked
          rw [List.map_map]
          exact this
      · rintro u h3 ⟨_, _, e, _⟩; cases e
  · rintro u h2 ⟨_, q, e, _⟩; cases e
end Go.Proofs.Ytnkdjfmidiffdaa
