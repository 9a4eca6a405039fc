/-
  Part of the proofs about the heap: an abstract memory, its compiled code, and the contracts of the functions over it.
  Conditions: each theorem names its own.
-/
import Derived.Test.YtnkdjfmidiffdaaLay
import Derived.Test.YtnkdjfmidiffdaaH2
set_option linter.unusedSimpArgs false
set_option linter.unusedVariables false
namespace Go.Proofs.Ytnkdjfmidiffdaa
open Go Go.Proofs Go.Am
variable {N : Nat}

theorem sort_said : SortSaid Try.prog 46 :=
  ⟨fun blk off cap zs w hH hb hl => Any.slices_Sort_int laysSort blk off cap zs w hH hb hl, fun p cap w => calls_of_every_depth fun D => AnyS.slices_Sort_int_none_in laysSort D p cap w⟩
theorem sort_good : GoodFn Try.prog 46 := ⟨_, Try.func46, by kernel_rfl, by kernel_rfl⟩
theorem sort_c {h : AHeap} {v : AV} {l : List Int} (S : SliceAt h 1 v (l.map (.int .i64))) (own : ∀ b, blkOf v = some b → ∃ ds, h b = some (.cells ds false)) (hl : l.length < 4611686018427387904) :
    ARets Try.prog N 46 [v] h fun r h' => r = .tuple [] ∧ (∀ c, blkOf v ≠ some c → h' c = h c) ∧ (∀ b, blkOf v = some b → ∃ ds, h' b = some (.cells ds false)) ∧ SliceAt h' 1 v ((l.mergeSort fun x y => decide (x ≤ y)).map (.int .i64)) :=
  sort_lift sort_good sort_said S own hl

theorem keys48_made {h : AHeap} (v : AV) (hv : v.oneCell = true) : ARets Try.prog N 48 [v] h fun r h' => ∃ cb, h cb = none ∧ h' = h.upd cb (.cells [v] false) ∧ r = .func (.func 53) [] [.ptr (some (cb, 0))] := by
  refine acalls_of_wp c48_ok mixed (by show 1 ≤ 4; decide) (wk_start ?_)
  unfold c48
  have hc := oneCell_cells hv
  simp only [wk_skip, wk_region, wk_seq, wk_block, wk_cond, wk_exit, wk_ret, wk_draw, cnd_true, cnd_false, fin_nil, fin_seq, fin_seq_exit, fin_seq_ret, fin_seq_panic, fin_block, fin_block_exit, fin_block_ret, fin_block_panic, fin_loop, fin_loop_exit, fin_loop_ret, fin_loop_panic, ops_nil, ops_cons, ops_guard, res_val, res_new, main_nil, main_cons, main_guard, mres_val, mres_new, AOp.ev, AOpd.ev, evAll, evParts, evOpt, put_get, put_none, wantA, ARes.ofOpt, tmOf, List.getD_cons_zero, List.getD_cons_succ, Nat.reduceEqDiff, if_true, if_false, reduceIte, Nat.reduceAdd, Nat.reduceMul, binA, intOp, eqOp, nilOf, lenA_slice, callA, AV.cells, undefA, Option.map_some, Option.map_none, Bool.false_eq_true, reduceCtorEq, beq_false, beq_true, g_true, g_false, mg_true, mg_false, Bool.not_true, Bool.not_false, decide_true, decide_false, not_true_eq_false, not_false_eq_true, List.nil_append, List.cons_append, List.append_nil, Option.isNone_some, Option.isNone_none, List.getElem?_cons_zero, List.getElem?_cons_succ]
  intro b hb
  exact fnEnd_ret1 ⟨b, hb, by rw [← hc]; rfl, by simp [TM.put]⟩
theorem keys36_made {h : AHeap} (v : AV) (hv : v.oneCell = true) : ARets Try.prog N 36 [v] h fun r h' => ∃ cb, h cb = none ∧ h' = h.upd cb (.cells [v] false) ∧ r = .func (.func 47) [] [.ptr (some (cb, 0))] := by
  refine acalls_of_wp c36_ok mixed (by show 1 ≤ 4; decide) (wk_start ?_)
  unfold c36
  have hc := oneCell_cells hv
  simp only [wk_skip, wk_region, wk_seq, wk_block, wk_cond, wk_exit, wk_ret, wk_draw, cnd_true, cnd_false, fin_nil, fin_seq, fin_seq_exit, fin_seq_ret, fin_seq_panic, fin_block, fin_block_exit, fin_block_ret, fin_block_panic, fin_loop, fin_loop_exit, fin_loop_ret, fin_loop_panic, ops_nil, ops_cons, ops_guard, res_val, res_new, main_nil, main_cons, main_guard, mres_val, mres_new, AOp.ev, AOpd.ev, evAll, evParts, evOpt, put_get, put_none, wantA, ARes.ofOpt, tmOf, List.getD_cons_zero, List.getD_cons_succ, Nat.reduceEqDiff, if_true, if_false, reduceIte, Nat.reduceAdd, Nat.reduceMul, binA, intOp, eqOp, nilOf, lenA_slice, callA, AV.cells, undefA, Option.map_some, Option.map_none, Bool.false_eq_true, reduceCtorEq, beq_false, beq_true, g_true, g_false, mg_true, mg_false, Bool.not_true, Bool.not_false, decide_true, decide_false, not_true_eq_false, not_false_eq_true, List.nil_append, List.cons_append, List.append_nil, Option.isNone_some, Option.isNone_none, List.getElem?_cons_zero, List.getElem?_cons_succ]
  intro b hb
  exact fnEnd_ret1 ⟨b, hb, by rw [← hc]; rfl, by simp [TM.put]⟩
theorem values49_made {h : AHeap} (v : AV) (hv : v.oneCell = true) : ARets Try.prog N 49 [v] h fun r h' => ∃ cb, h cb = none ∧ h' = h.upd cb (.cells [v] false) ∧ r = .func (.func 54) [] [.ptr (some (cb, 0))] := by
  refine acalls_of_wp c49_ok mixed (by show 1 ≤ 4; decide) (wk_start ?_)
  unfold c49
  have hc := oneCell_cells hv
  simp only [wk_skip, wk_region, wk_seq, wk_block, wk_cond, wk_exit, wk_ret, wk_draw, cnd_true, cnd_false, fin_nil, fin_seq, fin_seq_exit, fin_seq_ret, fin_seq_panic, fin_block, fin_block_exit, fin_block_ret, fin_block_panic, fin_loop, fin_loop_exit, fin_loop_ret, fin_loop_panic, ops_nil, ops_cons, ops_guard, res_val, res_new, main_nil, main_cons, main_guard, mres_val, mres_new, AOp.ev, AOpd.ev, evAll, evParts, evOpt, put_get, put_none, wantA, ARes.ofOpt, tmOf, List.getD_cons_zero, List.getD_cons_succ, Nat.reduceEqDiff, if_true, if_false, reduceIte, Nat.reduceAdd, Nat.reduceMul, binA, intOp, eqOp, nilOf, lenA_slice, callA, AV.cells, undefA, Option.map_some, Option.map_none, Bool.false_eq_true, reduceCtorEq, beq_false, beq_true, g_true, g_false, mg_true, mg_false, Bool.not_true, Bool.not_false, decide_true, decide_false, not_true_eq_false, not_false_eq_true, List.nil_append, List.cons_append, List.append_nil, Option.isNone_some, Option.isNone_none, List.getElem?_cons_zero, List.getElem?_cons_succ]
  intro b hb
  exact fnEnd_ret1 ⟨b, hb, by rw [← hc]; rfl, by simp [TM.put]⟩

/-- A map of nothing tells nothing. -/
theorem keys47_nil {h0 : AHeap} {cb : Nat} {ro : Bool} (hc : h0 cb = some (.cells [.map none] ro)) : Tells Try.prog N (.func (.func 47) [] [.ptr (some (cb, 0))]) h0 (fun done => done = []) 0 := by
  refine ⟨47, [], [.ptr (some (cb, 0))], rfl, fun l J h S m0 F j0 => ?_⟩
  refine acalls_of_wp c47_ok mixed (by show 2 ≤ 14; decide) (wk_start ?_)
  unfold c47
  have hld : loadA h none (.ptr (some (cb, 0))) = .val (.map none) h := by simp [loadA, m0.at_ hc]
  simp only [wk_skip, wk_region, wk_seq, wk_block, wk_cond, wk_exit, wk_ret, wk_draw, cnd_true, cnd_false, fin_nil, fin_seq, fin_seq_exit, fin_seq_ret, fin_seq_panic, fin_block, fin_block_exit, fin_block_ret, fin_block_panic, fin_loop, fin_loop_exit, fin_loop_ret, fin_loop_panic, ops_nil, ops_cons, ops_guard, res_val, res_new, main_nil, main_cons, main_guard, mres_val, mres_new, AOp.ev, AOpd.ev, evAll, evParts, evOpt, put_get, put_none, wantA, ARes.ofOpt, tmOf, List.getD_cons_zero, List.getD_cons_succ, Nat.reduceEqDiff, if_true, if_false, reduceIte, Nat.reduceAdd, Nat.reduceMul, binA, intOp, eqOp, nilOf, lenA_slice, callA, AV.cells, undefA, Option.map_some, Option.map_none, Bool.false_eq_true, reduceCtorEq, beq_false, beq_true, g_true, g_false, mg_true, mg_false, Bool.not_true, Bool.not_false, decide_true, decide_false, not_true_eq_false, not_false_eq_true, List.nil_append, List.cons_append, List.append_nil, Option.isNone_some, Option.isNone_none, List.getElem?_cons_zero, List.getElem?_cons_succ, hld, rangeA]
  intro b hb
  refine wk_loop (fun k tm ds h' => ds = [] ∧ tm 5 = .ptr (some (b, 0)) ∧ h' = h.upd b (.iter none 0 [] 0)) 0 ⟨rfl, rfl, rfl⟩ ?_
  rintro k tm ds h' ⟨rfl, t5, rfl⟩
  have hn : nextA (h.upd b (.iter none 0 [] 0)) (.ptr (some (b, 0))) = .val (.tuple [.bool false]) (h.upd b (.iter none 0 [] 0)) := by simp [nextA, AHeap.upd_same]
  simp only [wk_skip, wk_region, wk_seq, wk_block, wk_cond, wk_exit, wk_ret, wk_draw, cnd_true, cnd_false, fin_nil, fin_seq, fin_seq_exit, fin_seq_ret, fin_seq_panic, fin_block, fin_block_exit, fin_block_ret, fin_block_panic, fin_loop, fin_loop_exit, fin_loop_ret, fin_loop_panic, ops_nil, ops_cons, ops_guard, res_val, res_new, main_nil, main_cons, main_guard, mres_val, mres_new, AOp.ev, AOpd.ev, evAll, evParts, evOpt, put_get, put_none, wantA, ARes.ofOpt, tmOf, List.getD_cons_zero, List.getD_cons_succ, Nat.reduceEqDiff, if_true, if_false, reduceIte, Nat.reduceAdd, Nat.reduceMul, binA, intOp, eqOp, nilOf, lenA_slice, callA, AV.cells, undefA, Option.map_some, Option.map_none, Bool.false_eq_true, reduceCtorEq, beq_false, beq_true, g_true, g_false, mg_true, mg_false, Bool.not_true, Bool.not_false, decide_true, decide_false, not_true_eq_false, not_false_eq_true, List.nil_append, List.cons_append, List.append_nil, Option.isNone_some, Option.isNone_none, List.getElem?_cons_zero, List.getElem?_cons_succ, t5, hn, List.getElem?_cons_zero]
  exact fnEnd_end0 ⟨m0.trans (More.upd hb _), [], S, rfl, F.keep _ _ _ _ j0 fun c hc => AHeap.upd_other _ _ fun e => (F.dom _ _ _ j0 c hc).1 (e ▸ hb)⟩

theorem collect45_c {h : AHeap} {fv : AV} {G : List Int → Prop} {B : Nat} (T : Tells Try.prog N fv h G B) (hB : B ≤ 1000000) (hG : ∀ l, G l → l.length ≤ B) :
    ARets Try.prog N 45 [fv] h (fun r h' => ∃ l, G l ∧ Grown h h' 1 r (l.map (.int .i64))) := by
  refine acalls_of_wp c45_ok mixed (by show 1 ≤ 5; decide) (wk_start ?_)
  unfold c45
  simp only [wk_skip, wk_region, wk_seq, wk_block, wk_cond, wk_exit, wk_ret, wk_draw, cnd_true, cnd_false, fin_nil, fin_seq, fin_seq_exit, fin_seq_ret, fin_seq_panic, fin_block, fin_block_exit, fin_block_ret, fin_block_panic, fin_loop, fin_loop_exit, fin_loop_ret, fin_loop_panic, ops_nil, ops_cons, ops_guard, res_val, res_new, main_nil, main_cons, main_guard, mres_val, mres_new, AOp.ev, AOpd.ev, evAll, evParts, evOpt, put_get, put_none, wantA, ARes.ofOpt, tmOf, List.getD_cons_zero, List.getD_cons_succ, Nat.reduceEqDiff, if_true, if_false, reduceIte, Nat.reduceAdd, Nat.reduceMul, binA, intOp, eqOp, nilOf, lenA_slice, callA, AV.cells, undefA, Option.map_some, Option.map_none, Bool.false_eq_true, reduceCtorEq, beq_false, beq_true, g_true, g_false, mg_true, mg_false, Bool.not_true, Bool.not_false, decide_true, decide_false, not_true_eq_false, not_false_eq_true, List.nil_append, List.cons_append, List.append_nil, Option.isNone_some, Option.isNone_none, List.getElem?_cons_zero, List.getElem?_cons_succ]
  refine res_ret (appendSeq_c T hB hG) ?_
  rintro r h' d ⟨l, hl, G'⟩
  simp only [wk_skip, wk_region, wk_seq, wk_block, wk_cond, wk_exit, wk_ret, wk_draw, cnd_true, cnd_false, fin_nil, fin_seq, fin_seq_exit, fin_seq_ret, fin_seq_panic, fin_block, fin_block_exit, fin_block_ret, fin_block_panic, fin_loop, fin_loop_exit, fin_loop_ret, fin_loop_panic, ops_nil, ops_cons, ops_guard, res_val, res_new, main_nil, main_cons, main_guard, mres_val, mres_new, AOp.ev, AOpd.ev, evAll, evParts, evOpt, put_get, put_none, wantA, ARes.ofOpt, tmOf, List.getD_cons_zero, List.getD_cons_succ, Nat.reduceEqDiff, if_true, if_false, reduceIte, Nat.reduceAdd, Nat.reduceMul, binA, intOp, eqOp, nilOf, lenA_slice, callA, AV.cells, undefA, Option.map_some, Option.map_none, Bool.false_eq_true, reduceCtorEq, beq_false, beq_true, g_true, g_false, mg_true, mg_false, Bool.not_true, Bool.not_false, decide_true, decide_false, not_true_eq_false, not_false_eq_true, List.nil_append, List.cons_append, List.append_nil, Option.isNone_some, Option.isNone_none, List.getElem?_cons_zero, List.getElem?_cons_succ]
  exact fnEnd_ret1 ⟨l, hl, by simpa [TM.put] using G'⟩

/-- Numbers, rising. -/
def Rising (l : List Int) : Prop := l.Pairwise (· ≤ ·)
theorem sorted35_c {h : AHeap} {fv : AV} {G : List Int → Prop} {B : Nat} (T : Tells Try.prog N fv h G B) (hB : B ≤ 1000000) (hG : ∀ l, G l → l.length ≤ B) :
    ARets Try.prog N 35 [fv] h (fun r h' => ∃ l, G l ∧ Grown h h' 1 r ((l.mergeSort fun x y => decide (x ≤ y)).map (.int .i64))) := by
  refine acalls_of_wp c35_ok mixed (by show 1 ≤ 9; decide) (wk_start ?_)
  unfold c35
  simp only [wk_skip, wk_region, wk_seq, wk_block, wk_cond, wk_exit, wk_ret, wk_draw, cnd_true, cnd_false, fin_nil, fin_seq, fin_seq_exit, fin_seq_ret, fin_seq_panic, fin_block, fin_block_exit, fin_block_ret, fin_block_panic, fin_loop, fin_loop_exit, fin_loop_ret, fin_loop_panic, ops_nil, ops_cons, ops_guard, res_val, res_new, main_nil, main_cons, main_guard, mres_val, mres_new, AOp.ev, AOpd.ev, evAll, evParts, evOpt, put_get, put_none, wantA, ARes.ofOpt, tmOf, List.getD_cons_zero, List.getD_cons_succ, Nat.reduceEqDiff, if_true, if_false, reduceIte, Nat.reduceAdd, Nat.reduceMul, binA, intOp, eqOp, nilOf, lenA_slice, callA, AV.cells, undefA, Option.map_some, Option.map_none, Bool.false_eq_true, reduceCtorEq, beq_false, beq_true, g_true, g_false, mg_true, mg_false, Bool.not_true, Bool.not_false, decide_true, decide_false, not_true_eq_false, not_false_eq_true, List.nil_append, List.cons_append, List.append_nil, Option.isNone_some, Option.isNone_none, List.getElem?_cons_zero, List.getElem?_cons_succ]
  refine res_ret (collect45_c T hB hG) ?_
  rintro r h' d ⟨l, hl, G'⟩
  simp only [wk_skip, wk_region, wk_seq, wk_block, wk_cond, wk_exit, wk_ret, wk_draw, cnd_true, cnd_false, fin_nil, fin_seq, fin_seq_exit, fin_seq_ret, fin_seq_panic, fin_block, fin_block_exit, fin_block_ret, fin_block_panic, fin_loop, fin_loop_exit, fin_loop_ret, fin_loop_panic, ops_nil, ops_cons, ops_guard, res_val, res_new, main_nil, main_cons, main_guard, mres_val, mres_new, AOp.ev, AOpd.ev, evAll, evParts, evOpt, put_get, put_none, wantA, ARes.ofOpt, tmOf, List.getD_cons_zero, List.getD_cons_succ, Nat.reduceEqDiff, if_true, if_false, reduceIte, Nat.reduceAdd, Nat.reduceMul, binA, intOp, eqOp, nilOf, lenA_slice, callA, AV.cells, undefA, Option.map_some, Option.map_none, Bool.false_eq_true, reduceCtorEq, beq_false, beq_true, g_true, g_false, mg_true, mg_false, Bool.not_true, Bool.not_false, decide_true, decide_false, not_true_eq_false, not_false_eq_true, List.nil_append, List.cons_append, List.append_nil, Option.isNone_some, Option.isNone_none, List.getElem?_cons_zero, List.getElem?_cons_succ]
  refine res_ret (sort_c G'.at_ (fun b hb => (G'.own b hb).2) (by have := hG l hl; omega)) ?_
  rintro r2 h2 d2 ⟨rfl, k, o, S⟩
  simp only [wk_skip, wk_region, wk_seq, wk_block, wk_cond, wk_exit, wk_ret, wk_draw, cnd_true, cnd_false, fin_nil, fin_seq, fin_seq_exit, fin_seq_ret, fin_seq_panic, fin_block, fin_block_exit, fin_block_ret, fin_block_panic, fin_loop, fin_loop_exit, fin_loop_ret, fin_loop_panic, ops_nil, ops_cons, ops_guard, res_val, res_new, main_nil, main_cons, main_guard, mres_val, mres_new, AOp.ev, AOpd.ev, evAll, evParts, evOpt, put_get, put_none, wantA, ARes.ofOpt, tmOf, List.getD_cons_zero, List.getD_cons_succ, Nat.reduceEqDiff, if_true, if_false, reduceIte, Nat.reduceAdd, Nat.reduceMul, binA, intOp, eqOp, nilOf, lenA_slice, callA, AV.cells, undefA, Option.map_some, Option.map_none, Bool.false_eq_true, reduceCtorEq, beq_false, beq_true, g_true, g_false, mg_true, mg_false, Bool.not_true, Bool.not_false, decide_true, decide_false, not_true_eq_false, not_false_eq_true, List.nil_append, List.cons_append, List.append_nil, Option.isNone_some, Option.isNone_none, List.getElem?_cons_zero, List.getElem?_cons_succ]
  refine fnEnd_ret1 ⟨l, hl, ⟨fun c hc => ?_, by simpa [TM.put] using S, fun b hb => ?_⟩⟩
  · rw [k c fun e => hc (G'.own c e).1]; exact G'.more c hc
  · simp [TM.put] at hb
    exact ⟨(G'.own b hb).1, o b hb⟩

theorem sort_perm {l m : List Int} (p : l.Perm m) : (l.mergeSort fun x y => decide (x ≤ y)) = m.mergeSort fun x y => decide (x ≤ y) := by
  have tr : ∀ a b c : Int, decide (a ≤ b) = true → decide (b ≤ c) = true → decide (a ≤ c) = true := fun a b c h1 h2 => by simp at *; omega
  have to : ∀ a b : Int, (decide (a ≤ b) || decide (b ≤ a)) = true := fun a b => by simp; omega
  refine List.Perm.eq_of_pairwise (le := fun a b => decide (a ≤ b) = true) (fun a b _ _ h1 h2 => by simp at h1 h2; omega) (List.pairwise_mergeSort tr to l) (List.pairwise_mergeSort tr to m) ?_
  exact (List.mergeSort_perm l _).trans (p.trans (List.mergeSort_perm m _).symm)
end Go.Proofs.Ytnkdjfmidiffdaa
namespace Go.Proofs.Ytnkdjfmidiffdaa
open Go Go.Proofs Go.Am
variable {N : Nat}

/-! ### Objects by their names. -/
def sizeOb (o : Ob) : Nat := 1 + o.cells.length
def totOb (l : List Ob) : Nat := (l.map sizeOb).sum
/-- Each cell that names an object, names one that is there. -/
def Closed (l : List Ob) : Prop := ∀ o ∈ l, ∀ (j c : Nat), o.refs[j]? = some true → o.cells[j]? = some c → c = 0 ∨ ∃ o' ∈ l, o'.name = c
def KnownN (l : List Ob) (roots : List Int) : Prop := ∀ r ∈ roots, r = 0 ∨ ∃ o ∈ l, (o.name : Int) = r
inductive RchN (l : List Ob) (roots : List Int) : Nat → Prop
  | root (o : Ob) (ho : o ∈ l) (h : (o.name : Int) ∈ roots) : RchN l roots o.name
  | step (o o' : Ob) (j : Nat) (h : RchN l roots o.name) (ho : o ∈ l) (ho' : o' ∈ l) (hr : o.refs[j]? = some true) (hc : o.cells[j]? = some o'.name) : RchN l roots o'.name
def GetSaid (l : List Ob) (o i : Int) (n : Nat) (r : Bool) (e : Int) : Prop :=
  ((∀ x ∈ l, (x.name : Int) ≠ o) ∧ n = 0 ∧ r = false ∧ e = 15) ∨
  ∃ x ∈ l, (x.name : Int) = o ∧ (((i < 0 ∨ (x.cells.length : Int) ≤ i) ∧ n = 0 ∧ r = false ∧ e = 16) ∨ ∃ j : Nat, i = j ∧ x.cells[j]? = some n ∧ x.refs[j]? = some r ∧ e = 0)

/-! ### The heap in the memory. -/
structure HO where
  ob : Ob
  blk : Nat
  cv : AV
  rv : AV
def obsOf (os : List HO) : List Ob := os.map (·.ob)
def kvOf (os : List HO) : List (Int × AV) := os.map fun o => ((o.ob.name : Int), .ptr (some (o.blk, 0)))

structure HIn (h : AHeap) (b M : Nat) (B used least : Int) (os : List HO) : Prop where
  top : h b = some (.cells [.map (some M), .int .i64 B, .int .i64 used, .int .i64 least] false)
  map : IMap h M (kvOf os)
  obj : ∀ o ∈ os, h o.blk = some (.cells [o.cv, o.rv] false)
  cells : ∀ o ∈ os, SliceAt h 1 o.cv (o.ob.cells.map fun n : Nat => AV.int .u64 (n : Int))
  refs : ∀ o ∈ os, SliceAt h 1 o.rv (o.ob.refs.map .bool)
/-- What is so of the objects alone. -/
structure HGood (B used least : Int) (l : List Ob) : Prop where
  same : ∀ o ∈ l, o.refs.length = o.cells.length
  names : (l.map (·.name)).Nodup
  pos : ∀ o ∈ l, 1 ≤ o.name
  few : ∀ o ∈ l, o.name ≤ 65536
  used_ : used = totOb l
  fits : used ≤ B
  budget : 0 ≤ B ∧ B ≤ 65536
  low : 1 ≤ least ∧ ∀ n : Nat, 1 ≤ n → (n : Int) < least → ∃ o ∈ l, o.name = n
  closed : Closed l
structure HOwn (h : AHeap) (b M : Nat) (os : List HO) (ρ : Nat → Nat) : Prop where
  top : ρ b = 1
  map : ρ M = 2
  obj : ∀ o ∈ os, ρ o.blk = 3 + 3 * o.ob.name
  cel : ∀ o ∈ os, ∀ c, blkOf o.cv = some c → ρ c = 4 + 3 * o.ob.name ∧ ∃ ds, h c = some (.cells ds false)
  rfs : ∀ o ∈ os, ∀ c, blkOf o.rv = some c → ρ c = 5 + 3 * o.ob.name
  dom : ∀ c, ρ c ≠ 0 → h c ≠ none
def HRep (h : AHeap) (b : Nat) (B : Int) (l : List Ob) (ρ : Nat → Nat) : Prop := ∃ M used least os, obsOf os = l ∧ HIn h b M B used least os ∧ HGood B used least l ∧ HOwn h b M os ρ

theorem HGood.len {B used least : Int} {l : List Ob} (g : HGood B used least l) : l.length ≤ totOb l := by
  have : ∀ l : List Ob, l.length ≤ totOb l := fun l => by
    induction l with
    | nil => exact Nat.le_refl 0
    | cons x l ih => simp only [totOb, List.map_cons, List.sum_cons, List.length_cons, sizeOb] at ih ⊢; omega
  exact this l
theorem tot_mem : ∀ {l : List Ob} {o : Ob}, o ∈ l → sizeOb o ≤ totOb l
  | x :: l, o, h => by
    simp only [totOb, List.map_cons, List.sum_cons]
    rcases List.mem_cons.1 h with rfl | h
    · omega
    · have := tot_mem h; simp only [totOb] at this; omega
theorem HGood.tot {B used least : Int} {l : List Ob} (g : HGood B used least l) : totOb l ≤ 65536 := by
  have := g.used_; have := g.fits; have := g.budget; omega
theorem HGood.small {B used least : Int} {l : List Ob} (g : HGood B used least l) {o : Ob} (ho : o ∈ l) : o.cells.length ≤ 65536 := by
  have h1 := tot_mem ho; have h2 := g.tot; unfold sizeOb at h1; omega
theorem HGood.inj {B used least : Int} {l : List Ob} (g : HGood B used least l) {x y : Ob} (hx : x ∈ l) (hy : y ∈ l) (e : x.name = y.name) : x = y := nodup_inj g.names hx hy e
theorem HIn.ld {h : AHeap} {b M : Nat} {B used least : Int} {os : List HO} (H : HIn h b M B used least os) :
    loadA h none (.ptr (some (b, 0 + 0))) = .val (.map (some M)) h ∧ loadA h none (.ptr (some (b, 0 + 1))) = .val (.int .i64 B) h ∧ loadA h none (.ptr (some (b, 0 + 2))) = .val (.int .i64 used) h ∧ loadA h none (.ptr (some (b, 0 + 3))) = .val (.int .i64 least) h := by
  simp [loadA, H.top]
theorem HIn.ob {h : AHeap} {b M : Nat} {B used least : Int} {os : List HO} (H : HIn h b M B used least os) {o : HO} (ho : o ∈ os) :
    loadA h none (.ptr (some (o.blk, 0 + 0))) = .val o.cv h ∧ loadA h none (.ptr (some (o.blk, 0 + 1))) = .val o.rv h := by
  simp [loadA, H.obj o ho]
theorem HIn.hit {h : AHeap} {b M : Nat} {B used least : Int} {os : List HO} (H : HIn h b M B used least os) {o : HO} (ho : o ∈ os) (z : AV) (ok : Bool) : lookupA h .int z (.map (some M)) (.int .i64 (o.ob.name : Int)) ok = some (outA ok (.ptr (some (o.blk, 0))) true) :=
  H.map.hit (List.mem_map.2 ⟨o, ho, rfl⟩) z ok
theorem HIn.miss {h : AHeap} {b M : Nat} {B used least : Int} {os : List HO} (H : HIn h b M B used least os) {n : Int} (hn : ∀ o ∈ os, (o.ob.name : Int) ≠ n) (z : AV) (ok : Bool) : lookupA h .int z (.map (some M)) (.int .i64 n) ok = some (outA ok z false) :=
  H.map.miss (fun p hp => by obtain ⟨o, ho, rfl⟩ := List.mem_map.1 hp; exact hn o ho) z ok
theorem mem_obs {os : List HO} {o : HO} (ho : o ∈ os) : o.ob ∈ obsOf os := List.mem_map.2 ⟨o, ho, rfl⟩
theorem of_obs {os : List HO} {x : Ob} (hx : x ∈ obsOf os) : ∃ o ∈ os, o.ob = x := by obtain ⟨o, ho, e⟩ := List.mem_map.1 hx; exact ⟨o, ho, e⟩
theorem isNone_ptr {b o : Nat} : nilOf .ptr (.ptr (some (b, o))) = some false := _root_.id rfl
theorem eq_ptr_nil {b o : Nat} : binA .eql .ptr (.ptr (some (b, o))) (.ptr none) = some (.bool false) := _root_.id rfl
theorem ne_ptr_nil {b o : Nat} : binA .neq .ptr (.ptr (some (b, o))) (.ptr none) = some (.bool true) := _root_.id rfl
theorem eq_nil_nil : binA .eql .ptr (.ptr none) (.ptr none) = some (.bool true) := _root_.id rfl
theorem ne_nil_nil : binA .neq .ptr (.ptr none) (.ptr none) = some (.bool false) := _root_.id rfl

/-! ### cell, Len, Get. -/
def CellH (os : List HO) (o i : Int) (p : AV) (e : Int) : Prop :=
  ((∀ x ∈ os, (x.ob.name : Int) ≠ o) ∧ p = .ptr none ∧ e = 15) ∨
  ∃ x ∈ os, (x.ob.name : Int) = o ∧ (((i < 0 ∨ (x.ob.cells.length : Int) ≤ i) ∧ p = .ptr none ∧ e = 16) ∨ ∃ j : Nat, i = j ∧ j < x.ob.cells.length ∧ p = .ptr (some (x.blk, 0)) ∧ e = 0)

theorem cell33_c {h : AHeap} {b M : Nat} {B used least : Int} {os : List HO} (H : HIn h b M B used least os) (g : HGood B used least (obsOf os)) (o i : Int) :
    ARets Try.prog N 33 [.ptr (some (b, 0)), .int .i64 o, .int .i64 i] h fun r h' => h' = h ∧ ∃ p e, r = .tuple [p, .int .i64 e] ∧ CellH os o i p e := by
  refine acalls_of_wp c33_ok mixed (by show 3 ≤ 33; decide) (wk_start ?_)
  unfold c33
  by_cases hx : ∃ x ∈ os, (x.ob.name : Int) = o
  · obtain ⟨x, hx, rfl⟩ := hx
    have hlk := H.hit hx (.ptr none) false
    have hlen := (H.cells x hx).len x.ob.cells.length (by simp) (by omega)
    have few := g.small (mem_obs hx)
    simp only [wk_skip, wk_region, wk_seq, wk_block, wk_cond, wk_exit, wk_ret, wk_draw, cnd_true, cnd_false, fin_nil, fin_seq, fin_seq_exit, fin_seq_ret, fin_seq_panic, fin_block, fin_block_exit, fin_block_ret, fin_block_panic, fin_loop, fin_loop_exit, fin_loop_ret, fin_loop_panic, ops_nil, ops_cons, ops_guard, res_val, res_new, main_nil, main_cons, main_guard, mres_val, mres_new, AOp.ev, AOpd.ev, evAll, evParts, evOpt, put_get, put_none, wantA, ARes.ofOpt, tmOf, List.getD_cons_zero, List.getD_cons_succ, Nat.reduceEqDiff, if_true, if_false, reduceIte, Nat.reduceAdd, Nat.reduceMul, binA, intOp, eqOp, nilOf, lenA_slice, callA, AV.cells, undefA, Option.map_some, Option.map_none, Bool.false_eq_true, reduceCtorEq, beq_false, beq_true, g_true, g_false, mg_true, mg_false, Bool.not_true, Bool.not_false, decide_true, decide_false, not_true_eq_false, not_false_eq_true, List.nil_append, List.cons_append, List.append_nil, Option.isNone_some, Option.isNone_none, List.getElem?_cons_zero, List.getElem?_cons_succ, nilCheck_ptr, H.ld.1, keyOk_int, hlk, outA]
    have bad : (i < 0 ∨ (x.ob.cells.length : Int) ≤ i) → CellH os x.ob.name i (.ptr none) 16 := fun h => .inr ⟨x, hx, rfl, .inl ⟨h, rfl, rfl⟩⟩
    refine g_ndec (fun h0 => ?_) (fun h0 => ?_)
    · simp only [wk_skip, wk_region, wk_seq, wk_block, wk_cond, wk_exit, wk_ret, wk_draw, cnd_true, cnd_false, fin_nil, fin_seq, fin_seq_exit, fin_seq_ret, fin_seq_panic, fin_block, fin_block_exit, fin_block_ret, fin_block_panic, fin_loop, fin_loop_exit, fin_loop_ret, fin_loop_panic, ops_nil, ops_cons, ops_guard, res_val, res_new, main_nil, main_cons, main_guard, mres_val, mres_new, AOp.ev, AOpd.ev, evAll, evParts, evOpt, put_get, put_none, wantA, ARes.ofOpt, tmOf, List.getD_cons_zero, List.getD_cons_succ, Nat.reduceEqDiff, if_true, if_false, reduceIte, Nat.reduceAdd, Nat.reduceMul, binA, intOp, eqOp, nilOf, lenA_slice, callA, AV.cells, undefA, Option.map_some, Option.map_none, Bool.false_eq_true, reduceCtorEq, beq_false, beq_true, g_true, g_false, mg_true, mg_false, Bool.not_true, Bool.not_false, decide_true, decide_false, not_true_eq_false, not_false_eq_true, List.nil_append, List.cons_append, List.append_nil, Option.isNone_some, Option.isNone_none, List.getElem?_cons_zero, List.getElem?_cons_succ, h0, nilCheck_ptr, (H.ob hx).1, hlen]
      refine cond_dec (fun h1 => ?_) (fun h1 => ?_)
      · simp only [wk_skip, wk_region, wk_seq, wk_block, wk_cond, wk_exit, wk_ret, wk_draw, cnd_true, cnd_false, fin_nil, fin_seq, fin_seq_exit, fin_seq_ret, fin_seq_panic, fin_block, fin_block_exit, fin_block_ret, fin_block_panic, fin_loop, fin_loop_exit, fin_loop_ret, fin_loop_panic, ops_nil, ops_cons, ops_guard, res_val, res_new, main_nil, main_cons, main_guard, mres_val, mres_new, AOp.ev, AOpd.ev, evAll, evParts, evOpt, put_get, put_none, wantA, ARes.ofOpt, tmOf, List.getD_cons_zero, List.getD_cons_succ, Nat.reduceEqDiff, if_true, if_false, reduceIte, Nat.reduceAdd, Nat.reduceMul, binA, intOp, eqOp, nilOf, lenA_slice, callA, AV.cells, undefA, Option.map_some, Option.map_none, Bool.false_eq_true, reduceCtorEq, beq_false, beq_true, g_true, g_false, mg_true, mg_false, Bool.not_true, Bool.not_false, decide_true, decide_false, not_true_eq_false, not_false_eq_true, List.nil_append, List.cons_append, List.append_nil, Option.isNone_some, Option.isNone_none, List.getElem?_cons_zero, List.getElem?_cons_succ]
        exact fnEnd_ret2 ⟨rfl, _, _, rfl, bad (.inr h1)⟩
      · simp only [wk_skip, wk_region, wk_seq, wk_block, wk_cond, wk_exit, wk_ret, wk_draw, cnd_true, cnd_false, fin_nil, fin_seq, fin_seq_exit, fin_seq_ret, fin_seq_panic, fin_block, fin_block_exit, fin_block_ret, fin_block_panic, fin_loop, fin_loop_exit, fin_loop_ret, fin_loop_panic, ops_nil, ops_cons, ops_guard, res_val, res_new, main_nil, main_cons, main_guard, mres_val, mres_new, AOp.ev, AOpd.ev, evAll, evParts, evOpt, put_get, put_none, wantA, ARes.ofOpt, tmOf, List.getD_cons_zero, List.getD_cons_succ, Nat.reduceEqDiff, if_true, if_false, reduceIte, Nat.reduceAdd, Nat.reduceMul, binA, intOp, eqOp, nilOf, lenA_slice, callA, AV.cells, undefA, Option.map_some, Option.map_none, Bool.false_eq_true, reduceCtorEq, beq_false, beq_true, g_true, g_false, mg_true, mg_false, Bool.not_true, Bool.not_false, decide_true, decide_false, not_true_eq_false, not_false_eq_true, List.nil_append, List.cons_append, List.append_nil, Option.isNone_some, Option.isNone_none, List.getElem?_cons_zero, List.getElem?_cons_succ]
        obtain ⟨j, rfl⟩ := Int.eq_ofNat_of_zero_le (by omega : 0 ≤ i)
        exact fnEnd_ret2 ⟨rfl, _, _, rfl, .inr ⟨x, hx, rfl, .inr ⟨j, rfl, by omega, rfl, rfl⟩⟩⟩
    · simp only [wk_skip, wk_region, wk_seq, wk_block, wk_cond, wk_exit, wk_ret, wk_draw, cnd_true, cnd_false, fin_nil, fin_seq, fin_seq_exit, fin_seq_ret, fin_seq_panic, fin_block, fin_block_exit, fin_block_ret, fin_block_panic, fin_loop, fin_loop_exit, fin_loop_ret, fin_loop_panic, ops_nil, ops_cons, ops_guard, res_val, res_new, main_nil, main_cons, main_guard, mres_val, mres_new, AOp.ev, AOpd.ev, evAll, evParts, evOpt, put_get, put_none, wantA, ARes.ofOpt, tmOf, List.getD_cons_zero, List.getD_cons_succ, Nat.reduceEqDiff, if_true, if_false, reduceIte, Nat.reduceAdd, Nat.reduceMul, binA, intOp, eqOp, nilOf, lenA_slice, callA, AV.cells, undefA, Option.map_some, Option.map_none, Bool.false_eq_true, reduceCtorEq, beq_false, beq_true, g_true, g_false, mg_true, mg_false, Bool.not_true, Bool.not_false, decide_true, decide_false, not_true_eq_false, not_false_eq_true, List.nil_append, List.cons_append, List.append_nil, Option.isNone_some, Option.isNone_none, List.getElem?_cons_zero, List.getElem?_cons_succ, h0]
      exact fnEnd_ret2 ⟨rfl, _, _, rfl, bad (.inl h0)⟩
  · have hno : ∀ x ∈ os, (x.ob.name : Int) ≠ o := fun x h e => hx ⟨x, h, e⟩
    have hlk := H.miss hno (.ptr none) false
    simp only [wk_skip, wk_region, wk_seq, wk_block, wk_cond, wk_exit, wk_ret, wk_draw, cnd_true, cnd_false, fin_nil, fin_seq, fin_seq_exit, fin_seq_ret, fin_seq_panic, fin_block, fin_block_exit, fin_block_ret, fin_block_panic, fin_loop, fin_loop_exit, fin_loop_ret, fin_loop_panic, ops_nil, ops_cons, ops_guard, res_val, res_new, main_nil, main_cons, main_guard, mres_val, mres_new, AOp.ev, AOpd.ev, evAll, evParts, evOpt, put_get, put_none, wantA, ARes.ofOpt, tmOf, List.getD_cons_zero, List.getD_cons_succ, Nat.reduceEqDiff, if_true, if_false, reduceIte, Nat.reduceAdd, Nat.reduceMul, binA, intOp, eqOp, nilOf, lenA_slice, callA, AV.cells, undefA, Option.map_some, Option.map_none, Bool.false_eq_true, reduceCtorEq, beq_false, beq_true, g_true, g_false, mg_true, mg_false, Bool.not_true, Bool.not_false, decide_true, decide_false, not_true_eq_false, not_false_eq_true, List.nil_append, List.cons_append, List.append_nil, Option.isNone_some, Option.isNone_none, List.getElem?_cons_zero, List.getElem?_cons_succ, nilCheck_ptr, H.ld.1, keyOk_int, hlk, outA]
    exact fnEnd_ret2 ⟨rfl, _, _, rfl, .inl ⟨hno, rfl, rfl⟩⟩

theorem len15_c {h : AHeap} {b M : Nat} {B used least : Int} {os : List HO} (H : HIn h b M B used least os) (g : HGood B used least (obsOf os)) (o : Int) :
    ARets Try.prog N 15 [.ptr (some (b, 0)), .int .i64 o] h fun r h' => h' = h ∧ ∃ n e : Int, r = .tuple [.int .i64 n, .int .i64 e] ∧
      (((∀ x ∈ os, (x.ob.name : Int) ≠ o) ∧ n = 0 ∧ e = 15) ∨ ∃ x ∈ os, (x.ob.name : Int) = o ∧ n = x.ob.cells.length ∧ e = 0) := by
  refine acalls_of_wp c15_ok mixed (by show 2 ≤ 24; decide) (wk_start ?_)
  unfold c15
  simp only [wk_skip, wk_region, wk_seq, wk_block, wk_cond, wk_exit, wk_ret, wk_draw, cnd_true, cnd_false, fin_nil, fin_seq, fin_seq_exit, fin_seq_ret, fin_seq_panic, fin_block, fin_block_exit, fin_block_ret, fin_block_panic, fin_loop, fin_loop_exit, fin_loop_ret, fin_loop_panic, ops_nil, ops_cons, ops_guard, res_val, res_new, main_nil, main_cons, main_guard, mres_val, mres_new, AOp.ev, AOpd.ev, evAll, evParts, evOpt, put_get, put_none, wantA, ARes.ofOpt, tmOf, List.getD_cons_zero, List.getD_cons_succ, Nat.reduceEqDiff, if_true, if_false, reduceIte, Nat.reduceAdd, Nat.reduceMul, binA, intOp, eqOp, nilOf, lenA_slice, callA, AV.cells, undefA, Option.map_some, Option.map_none, Bool.false_eq_true, reduceCtorEq, beq_false, beq_true, g_true, g_false, mg_true, mg_false, Bool.not_true, Bool.not_false, decide_true, decide_false, not_true_eq_false, not_false_eq_true, List.nil_append, List.cons_append, List.append_nil, Option.isNone_some, Option.isNone_none, List.getElem?_cons_zero, List.getElem?_cons_succ]
  refine res_ret (cell33_c H g o 0) ?_
  rintro r h' d ⟨rfl, p, e, rfl, hc⟩
  rcases hc with ⟨hno, rfl, rfl⟩ | ⟨x, hx, hn, ⟨h0, rfl, rfl⟩ | ⟨j, hj, hj', rfl, rfl⟩⟩
  · simp only [wk_skip, wk_region, wk_seq, wk_block, wk_cond, wk_exit, wk_ret, wk_draw, cnd_true, cnd_false, fin_nil, fin_seq, fin_seq_exit, fin_seq_ret, fin_seq_panic, fin_block, fin_block_exit, fin_block_ret, fin_block_panic, fin_loop, fin_loop_exit, fin_loop_ret, fin_loop_panic, ops_nil, ops_cons, ops_guard, res_val, res_new, main_nil, main_cons, main_guard, mres_val, mres_new, AOp.ev, AOpd.ev, evAll, evParts, evOpt, put_get, put_none, wantA, ARes.ofOpt, tmOf, List.getD_cons_zero, List.getD_cons_succ, Nat.reduceEqDiff, if_true, if_false, reduceIte, Nat.reduceAdd, Nat.reduceMul, binA, intOp, eqOp, nilOf, lenA_slice, callA, AV.cells, undefA, Option.map_some, Option.map_none, Bool.false_eq_true, reduceCtorEq, beq_false, beq_true, g_true, g_false, mg_true, mg_false, Bool.not_true, Bool.not_false, decide_true, decide_false, not_true_eq_false, not_false_eq_true, List.nil_append, List.cons_append, List.append_nil, Option.isNone_some, Option.isNone_none, List.getElem?_cons_zero, List.getElem?_cons_succ, Int.reduceEq]
    exact fnEnd_ret2 ⟨rfl, _, _, rfl, .inl ⟨hno, rfl, rfl⟩⟩
  · simp only [wk_skip, wk_region, wk_seq, wk_block, wk_cond, wk_exit, wk_ret, wk_draw, cnd_true, cnd_false, fin_nil, fin_seq, fin_seq_exit, fin_seq_ret, fin_seq_panic, fin_block, fin_block_exit, fin_block_ret, fin_block_panic, fin_loop, fin_loop_exit, fin_loop_ret, fin_loop_panic, ops_nil, ops_cons, ops_guard, res_val, res_new, main_nil, main_cons, main_guard, mres_val, mres_new, AOp.ev, AOpd.ev, evAll, evParts, evOpt, put_get, put_none, wantA, ARes.ofOpt, tmOf, List.getD_cons_zero, List.getD_cons_succ, Nat.reduceEqDiff, if_true, if_false, reduceIte, Nat.reduceAdd, Nat.reduceMul, binA, intOp, eqOp, nilOf, lenA_slice, callA, AV.cells, undefA, Option.map_some, Option.map_none, Bool.false_eq_true, reduceCtorEq, beq_false, beq_true, g_true, g_false, mg_true, mg_false, Bool.not_true, Bool.not_false, decide_true, decide_false, not_true_eq_false, not_false_eq_true, List.nil_append, List.cons_append, List.append_nil, Option.isNone_some, Option.isNone_none, List.getElem?_cons_zero, List.getElem?_cons_succ, Int.reduceEq]
    exact fnEnd_ret2 ⟨rfl, 0, 0, rfl, .inr ⟨x, hx, hn, by omega, rfl⟩⟩
  · have hlen := (H.cells x hx).len x.ob.cells.length (by simp) (by omega)
    simp only [wk_skip, wk_region, wk_seq, wk_block, wk_cond, wk_exit, wk_ret, wk_draw, cnd_true, cnd_false, fin_nil, fin_seq, fin_seq_exit, fin_seq_ret, fin_seq_panic, fin_block, fin_block_exit, fin_block_ret, fin_block_panic, fin_loop, fin_loop_exit, fin_loop_ret, fin_loop_panic, ops_nil, ops_cons, ops_guard, res_val, res_new, main_nil, main_cons, main_guard, mres_val, mres_new, AOp.ev, AOpd.ev, evAll, evParts, evOpt, put_get, put_none, wantA, ARes.ofOpt, tmOf, List.getD_cons_zero, List.getD_cons_succ, Nat.reduceEqDiff, if_true, if_false, reduceIte, Nat.reduceAdd, Nat.reduceMul, binA, intOp, eqOp, nilOf, lenA_slice, callA, AV.cells, undefA, Option.map_some, Option.map_none, Bool.false_eq_true, reduceCtorEq, beq_false, beq_true, g_true, g_false, mg_true, mg_false, Bool.not_true, Bool.not_false, decide_true, decide_false, not_true_eq_false, not_false_eq_true, List.nil_append, List.cons_append, List.append_nil, Option.isNone_some, Option.isNone_none, List.getElem?_cons_zero, List.getElem?_cons_succ, Int.reduceEq, nilCheck_ptr, (H.ob hx).1, hlen]
    exact fnEnd_ret2 ⟨rfl, _, _, rfl, .inr ⟨x, hx, hn, rfl, rfl⟩⟩

theorem get16_c {h : AHeap} {b M : Nat} {B used least : Int} {os : List HO} (H : HIn h b M B used least os) (g : HGood B used least (obsOf os)) (o i : Int) :
    ARets Try.prog N 16 [.ptr (some (b, 0)), .int .i64 o, .int .i64 i] h fun r h' => h' = h ∧ ∃ (n : Nat) (q : Bool) (e : Int), r = .tuple [.int .u64 n, .bool q, .int .i64 e] ∧ GetSaid (obsOf os) o i n q e := by
  refine acalls_of_wp c16_ok mixed (by show 3 ≤ 34; decide) (wk_start ?_)
  unfold c16
  simp only [wk_skip, wk_region, wk_seq, wk_block, wk_cond, wk_exit, wk_ret, wk_draw, cnd_true, cnd_false, fin_nil, fin_seq, fin_seq_exit, fin_seq_ret, fin_seq_panic, fin_block, fin_block_exit, fin_block_ret, fin_block_panic, fin_loop, fin_loop_exit, fin_loop_ret, fin_loop_panic, ops_nil, ops_cons, ops_guard, res_val, res_new, main_nil, main_cons, main_guard, mres_val, mres_new, AOp.ev, AOpd.ev, evAll, evParts, evOpt, put_get, put_none, wantA, ARes.ofOpt, tmOf, List.getD_cons_zero, List.getD_cons_succ, Nat.reduceEqDiff, if_true, if_false, reduceIte, Nat.reduceAdd, Nat.reduceMul, binA, intOp, eqOp, nilOf, lenA_slice, callA, AV.cells, undefA, Option.map_some, Option.map_none, Bool.false_eq_true, reduceCtorEq, beq_false, beq_true, g_true, g_false, mg_true, mg_false, Bool.not_true, Bool.not_false, decide_true, decide_false, not_true_eq_false, not_false_eq_true, List.nil_append, List.cons_append, List.append_nil, Option.isNone_some, Option.isNone_none, List.getElem?_cons_zero, List.getElem?_cons_succ]
  refine res_ret (cell33_c H g o i) ?_
  rintro r h' d ⟨rfl, p, e, rfl, hc⟩
  rcases hc with ⟨hno, rfl, rfl⟩ | ⟨x, hx, hn, ⟨h0, rfl, rfl⟩ | ⟨j, rfl, hj', rfl, rfl⟩⟩
  · simp only [wk_skip, wk_region, wk_seq, wk_block, wk_cond, wk_exit, wk_ret, wk_draw, cnd_true, cnd_false, fin_nil, fin_seq, fin_seq_exit, fin_seq_ret, fin_seq_panic, fin_block, fin_block_exit, fin_block_ret, fin_block_panic, fin_loop, fin_loop_exit, fin_loop_ret, fin_loop_panic, ops_nil, ops_cons, ops_guard, res_val, res_new, main_nil, main_cons, main_guard, mres_val, mres_new, AOp.ev, AOpd.ev, evAll, evParts, evOpt, put_get, put_none, wantA, ARes.ofOpt, tmOf, List.getD_cons_zero, List.getD_cons_succ, Nat.reduceEqDiff, if_true, if_false, reduceIte, Nat.reduceAdd, Nat.reduceMul, binA, intOp, eqOp, nilOf, lenA_slice, callA, AV.cells, undefA, Option.map_some, Option.map_none, Bool.false_eq_true, reduceCtorEq, beq_false, beq_true, g_true, g_false, mg_true, mg_false, Bool.not_true, Bool.not_false, decide_true, decide_false, not_true_eq_false, not_false_eq_true, List.nil_append, List.cons_append, List.append_nil, Option.isNone_some, Option.isNone_none, List.getElem?_cons_zero, List.getElem?_cons_succ, Int.reduceEq]
    refine fnEnd_ret3 ⟨rfl, 0, false, 15, rfl, .inl ⟨fun x hx => ?_, rfl, rfl, rfl⟩⟩
    obtain ⟨y, hy, rfl⟩ := of_obs hx
    exact hno y hy
  · simp only [wk_skip, wk_region, wk_seq, wk_block, wk_cond, wk_exit, wk_ret, wk_draw, cnd_true, cnd_false, fin_nil, fin_seq, fin_seq_exit, fin_seq_ret, fin_seq_panic, fin_block, fin_block_exit, fin_block_ret, fin_block_panic, fin_loop, fin_loop_exit, fin_loop_ret, fin_loop_panic, ops_nil, ops_cons, ops_guard, res_val, res_new, main_nil, main_cons, main_guard, mres_val, mres_new, AOp.ev, AOpd.ev, evAll, evParts, evOpt, put_get, put_none, wantA, ARes.ofOpt, tmOf, List.getD_cons_zero, List.getD_cons_succ, Nat.reduceEqDiff, if_true, if_false, reduceIte, Nat.reduceAdd, Nat.reduceMul, binA, intOp, eqOp, nilOf, lenA_slice, callA, AV.cells, undefA, Option.map_some, Option.map_none, Bool.false_eq_true, reduceCtorEq, beq_false, beq_true, g_true, g_false, mg_true, mg_false, Bool.not_true, Bool.not_false, decide_true, decide_false, not_true_eq_false, not_false_eq_true, List.nil_append, List.cons_append, List.append_nil, Option.isNone_some, Option.isNone_none, List.getElem?_cons_zero, List.getElem?_cons_succ, Int.reduceEq]
    exact fnEnd_ret3 ⟨rfl, 0, false, 16, rfl, .inr ⟨x.ob, mem_obs hx, hn, .inl ⟨h0, rfl, rfl, rfl⟩⟩⟩
  · have hsame := g.same _ (mem_obs hx)
    obtain ⟨c2, q2, i1, _, i2⟩ := (H.cells x hx).get j (by simpa using hj') .i64
    obtain ⟨c3, q3, j1, _, j2⟩ := (H.refs x hx).get j (by rw [List.length_map, hsame]; exact hj') .i64
    simp only [List.getElem_map] at i2 j2
    simp only [wk_skip, wk_region, wk_seq, wk_block, wk_cond, wk_exit, wk_ret, wk_draw, cnd_true, cnd_false, fin_nil, fin_seq, fin_seq_exit, fin_seq_ret, fin_seq_panic, fin_block, fin_block_exit, fin_block_ret, fin_block_panic, fin_loop, fin_loop_exit, fin_loop_ret, fin_loop_panic, ops_nil, ops_cons, ops_guard, res_val, res_new, main_nil, main_cons, main_guard, mres_val, mres_new, AOp.ev, AOpd.ev, evAll, evParts, evOpt, put_get, put_none, wantA, ARes.ofOpt, tmOf, List.getD_cons_zero, List.getD_cons_succ, Nat.reduceEqDiff, if_true, if_false, reduceIte, Nat.reduceAdd, Nat.reduceMul, binA, intOp, eqOp, nilOf, lenA_slice, callA, AV.cells, undefA, Option.map_some, Option.map_none, Bool.false_eq_true, reduceCtorEq, beq_false, beq_true, g_true, g_false, mg_true, mg_false, Bool.not_true, Bool.not_false, decide_true, decide_false, not_true_eq_false, not_false_eq_true, List.nil_append, List.cons_append, List.append_nil, Option.isNone_some, Option.isNone_none, List.getElem?_cons_zero, List.getElem?_cons_succ, Int.reduceEq, nilCheck_ptr, (H.ob hx).1, (H.ob hx).2, i1, i2, j1, j2]
    exact fnEnd_ret3 ⟨rfl, x.ob.cells[j], x.ob.refs[j]'(by rw [hsame]; exact hj'), 0, rfl, .inr ⟨x.ob, mem_obs hx, hn, .inr ⟨j, rfl, by simp [hj'], by simp [hsame, hj'], rfl⟩⟩⟩

theorem used21_c {h : AHeap} {b M : Nat} {B used least : Int} {os : List HO} (H : HIn h b M B used least os) : ARets Try.prog N 21 [.ptr (some (b, 0))] h fun r h' => h' = h ∧ r = .int .i64 used := by
  refine acalls_of_wp c21_ok mixed (by show 1 ≤ 9; decide) (wk_start ?_)
  unfold c21
  simp only [wk_skip, wk_region, wk_seq, wk_block, wk_cond, wk_exit, wk_ret, wk_draw, cnd_true, cnd_false, fin_nil, fin_seq, fin_seq_exit, fin_seq_ret, fin_seq_panic, fin_block, fin_block_exit, fin_block_ret, fin_block_panic, fin_loop, fin_loop_exit, fin_loop_ret, fin_loop_panic, ops_nil, ops_cons, ops_guard, res_val, res_new, main_nil, main_cons, main_guard, mres_val, mres_new, AOp.ev, AOpd.ev, evAll, evParts, evOpt, put_get, put_none, wantA, ARes.ofOpt, tmOf, List.getD_cons_zero, List.getD_cons_succ, Nat.reduceEqDiff, if_true, if_false, reduceIte, Nat.reduceAdd, Nat.reduceMul, binA, intOp, eqOp, nilOf, lenA_slice, callA, AV.cells, undefA, Option.map_some, Option.map_none, Bool.false_eq_true, reduceCtorEq, beq_false, beq_true, g_true, g_false, mg_true, mg_false, Bool.not_true, Bool.not_false, decide_true, decide_false, not_true_eq_false, not_false_eq_true, List.nil_append, List.cons_append, List.append_nil, Option.isNone_some, Option.isNone_none, List.getElem?_cons_zero, List.getElem?_cons_succ, nilCheck_ptr, H.ld.2.2.1]
  exact fnEnd_ret1 ⟨rfl, rfl⟩
end Go.Proofs.Ytnkdjfmidiffdaa
namespace Go.Proofs.Ytnkdjfmidiffdaa
open Go Go.Proofs Go.Am
variable {N : Nat}

theorem HIn.keep {h h' : AHeap} {b M : Nat} {B used least : Int} {os : List HO} {ρ : Nat → Nat} (H : HIn h b M B used least os) (O : HOwn h b M os ρ) (k : ∀ c, ρ c ≠ 0 → h' c = h c) : HIn h' b M B used least os ∧ HOwn h' b M os ρ := by
  refine ⟨⟨by rw [k b (by rw [O.top]; omega)]; exact H.top, H.map.keep (k M (by rw [O.map]; omega)), fun o ho => by rw [k _ (by rw [O.obj o ho]; omega)]; exact H.obj o ho,
    fun o ho => (H.cells o ho).keep fun c hc => k c (by rw [(O.cel o ho c hc).1]; omega), fun o ho => (H.refs o ho).keep fun c hc => k c (by rw [O.rfs o ho c hc]; omega)⟩,
    ⟨O.top, O.map, O.obj, fun o ho c hc => ⟨(O.cel o ho c hc).1, by rw [k c (by rw [(O.cel o ho c hc).1]; omega)]; exact (O.cel o ho c hc).2⟩, O.rfs, fun c hc => by rw [k c hc]; exact O.dom c hc⟩⟩
theorem HRep.keep {h h' : AHeap} {b : Nat} {B : Int} {l : List Ob} {ρ : Nat → Nat} (R : HRep h b B l ρ) (k : ∀ c, ρ c ≠ 0 → h' c = h c) : HRep h' b B l ρ := by
  obtain ⟨M, u, le, os, e, H, g, O⟩ := R
  obtain ⟨H', O'⟩ := H.keep O k
  exact ⟨M, u, le, os, e, H', g, O'⟩

def putObs (l : List Ob) (o j n : Nat) : List Ob := l.map fun x => if x.name = o then x.put j n else x
theorem put_name (x : Ob) (o j n : Nat) : (if x.name = o then x.put j n else x).name = x.name := by split <;> rfl
theorem put_refs (x : Ob) (o j n : Nat) : (if x.name = o then x.put j n else x).refs = x.refs := by split <;> rfl
theorem put_len (x : Ob) (o j n : Nat) : (if x.name = o then x.put j n else x).cells.length = x.cells.length := by
  split
  · simp [Ob.put]
  · rfl
theorem putObs_names (l : List Ob) (o j n : Nat) : (putObs l o j n).map (·.name) = l.map (·.name) := by
  simp only [putObs, List.map_map]
  exact List.map_congr_left fun x _ => put_name x o j n
theorem putObs_tot (l : List Ob) (o j n : Nat) : totOb (putObs l o j n) = totOb l := by
  simp only [totOb, putObs, List.map_map]
  congr 1
  refine List.map_congr_left fun x _ => ?_
  simp only [Function.comp, sizeOb, put_len]
theorem putObs_has {l : List Ob} {o j n m : Nat} (h : ∃ x ∈ l, x.name = m) : ∃ x ∈ putObs l o j n, x.name = m := by
  obtain ⟨x, hx, rfl⟩ := h
  exact ⟨_, List.mem_map.2 ⟨x, hx, rfl⟩, put_name x o j n⟩
theorem HGood.put {B used least : Int} {l : List Ob} (g : HGood B used least l) {x : Ob} (hx : x ∈ l) {j n : Nat} {q : Bool} (hq : x.refs[j]? = some q) (hn : q = true → n ≠ 0 → ∃ y ∈ l, y.name = n) : HGood B used least (putObs l x.name j n) := by
  refine ⟨fun y hy => ?_, by rw [putObs_names]; exact g.names, fun y hy => ?_, fun y hy => ?_, by rw [putObs_tot]; exact g.used_, g.fits, g.budget, ⟨g.low.1, fun m h1 h2 => putObs_has (g.low.2 m h1 h2)⟩, fun y hy k c hr hc => ?_⟩
  · obtain ⟨z, hz, rfl⟩ := List.mem_map.1 hy
    rw [put_refs, put_len]; exact g.same z hz
  · obtain ⟨z, hz, rfl⟩ := List.mem_map.1 hy
    rw [put_name]; exact g.pos z hz
  · obtain ⟨z, hz, rfl⟩ := List.mem_map.1 hy
    rw [put_name]; exact g.few z hz
  · obtain ⟨z, hz, rfl⟩ := List.mem_map.1 hy
    rw [put_refs] at hr
    by_cases e : z.name = x.name
    · have := g.inj hz hx e
      subst this
      simp only [if_true, Ob.put, List.getElem?_set] at hc
      by_cases ej : j = k
      · subst ej
        rw [hq] at hr; cases hr
        simp only [if_true] at hc
        split at hc
        · cases hc
          by_cases h0 : n = 0
          · exact .inl h0
          · exact .inr (putObs_has (hn rfl h0))
        · cases hc
      · rw [if_neg ej] at hc
        rcases g.closed z hz k c hr hc with h | h
        · exact .inl h
        · exact .inr (putObs_has h)
    · rw [if_neg e] at hc
      rcases g.closed z hz k c hr hc with h | h
      · exact .inl h
      · exact .inr (putObs_has h)

def putOs (os : List HO) (o j n : Nat) : List HO := os.map fun y => { y with ob := if y.ob.name = o then y.ob.put j n else y.ob }
theorem putOs_obs (os : List HO) (o j n : Nat) : obsOf (putOs os o j n) = putObs (obsOf os) o j n := by
  simp only [obsOf, putOs, putObs, List.map_map]; rfl
theorem putOs_kv (os : List HO) (o j n : Nat) : kvOf (putOs os o j n) = kvOf os := by
  simp only [kvOf, putOs, List.map_map]
  exact List.map_congr_left fun x _ => by simp only [Function.comp, put_name]

theorem HRep.setCell {h : AHeap} {b M : Nat} {B used least : Int} {os : List HO} {ρ : Nat → Nat} (H : HIn h b M B used least os) (g : HGood B used least (obsOf os)) (O : HOwn h b M os ρ) {x : HO} (hx : x ∈ os) {j n c : Nat} {q : Bool}
    (hq : x.ob.refs[j]? = some q) (hn : q = true → n ≠ 0 → ∃ y ∈ obsOf os, y.name = n) (hc : blkOf x.cv = some c) {ds : List AV}
    (hs : SliceAt (h.upd c (.cells ds false)) 1 x.cv ((x.ob.cells.map fun n : Nat => AV.int .u64 (n : Int)).set j (.int .u64 n))) : HRep (h.upd c (.cells ds false)) b B (putObs (obsOf os) x.ob.name j n) ρ ∧ Off ρ h (h.upd c (.cells ds false)) := by
  have hρ := (O.cel x hx c hc).1
  have keep : ∀ d, ρ d ≠ 4 + 3 * x.ob.name → (h.upd c (.cells ds false)) d = h d := fun d hd => AHeap.upd_other _ _ fun e => hd (e ▸ hρ)
  have one : ∀ y ∈ os, y.ob.name = x.ob.name → y = x := fun y hy e => by
    have hnd : (os.map fun o => o.ob.name).Nodup := by have := g.names; rw [obsOf, List.map_map] at this; exact this
    exact nodup_inj hnd hy hx e
  refine ⟨⟨M, used, least, putOs os x.ob.name j n, putOs_obs _ _ _ _, ⟨?_, ?_, fun y hy => ?_, fun y hy => ?_, fun y hy => ?_⟩, g.put (mem_obs hx) hq hn, ⟨O.top, O.map, fun y hy => ?_, fun y hy d hd => ?_, fun y hy d hd => ?_, fun d hd => ?_⟩⟩, fun d h0 _ => keep d (by omega)⟩
  · rw [keep b (by have := O.top; omega)]; exact H.top
  · rw [putOs_kv]; exact H.map.keep (keep M (by have := O.map; omega))
  · obtain ⟨z, hz, rfl⟩ := List.mem_map.1 hy
    exact (keep z.blk (by have := O.obj z hz; omega)).trans (H.obj z hz)
  · obtain ⟨z, hz, rfl⟩ := List.mem_map.1 hy
    by_cases e : z.ob.name = x.ob.name
    · have := one z hz e
      subst this
      simp only [if_true, Ob.put, List.map_set]
      exact hs
    · simp only [if_neg e]
      exact (H.cells z hz).keep fun d hd => keep d (by have := (O.cel z hz d hd).1; omega)
  · obtain ⟨z, hz, rfl⟩ := List.mem_map.1 hy
    simp only [put_refs]
    exact (H.refs z hz).keep fun d hd => keep d (by have := O.rfs z hz d hd; omega)
  · obtain ⟨z, hz, rfl⟩ := List.mem_map.1 hy
    simp only [put_name]; exact O.obj z hz
  · obtain ⟨z, hz, rfl⟩ := List.mem_map.1 hy
    simp only [put_name]
    refine ⟨(O.cel z hz d hd).1, ?_⟩
    by_cases e : d = c
    · subst e; exact ⟨ds, AHeap.upd_same _ _ _⟩
    · rw [AHeap.upd_other _ _ e]; exact (O.cel z hz d hd).2
  · obtain ⟨z, hz, rfl⟩ := List.mem_map.1 hy
    simp only [put_name]; exact O.rfs z hz d hd
  · by_cases e : d = c
    · subst e; rw [AHeap.upd_same]; simp
    · rw [AHeap.upd_other _ _ e]; exact O.dom d hd

def SetSaid (l : List Ob) (o i : Int) (n : Nat) (e : Int) (l' : List Ob) : Prop :=
  (e ≠ 0 ∧ l' = l ∧ ∃ m r, GetSaid l o i m r e) ∨
  ∃ m r, GetSaid l o i m r 0 ∧ ((e = 15 ∧ l' = l ∧ r = true ∧ n ≠ 0 ∧ ∀ x ∈ l, x.name ≠ n) ∨
    (e = 0 ∧ (r = true → n ≠ 0 → ∃ x ∈ l, x.name = n) ∧ ∃ (j k : Nat), i = j ∧ o = k ∧ l' = putObs l k j n))

theorem set29_c {h : AHeap} {b : Nat} {B : Int} {l : List Ob} {ρ : Nat → Nat} (R : HRep h b B l ρ) (o i : Int) (n : Nat) (hn64 : n < 18446744073709551616) :
    ARets Try.prog N 29 [.ptr (some (b, 0)), .int .i64 o, .int .i64 i, .int .u64 n] h fun r h' => ∃ e l', r = .int .i64 e ∧ SetSaid l o i n e l' ∧ HRep h' b B l' ρ ∧ Off ρ h h' := by
  obtain ⟨M, used, least, os, rfl, H, g, O⟩ := id R
  refine acalls_of_wp c29_ok mixed (by show 4 ≤ 53; decide) (wk_start ?_)
  unfold c29
  simp only [wk_skip, wk_region, wk_seq, wk_block, wk_cond, wk_exit, wk_ret, wk_draw, cnd_true, cnd_false, fin_nil, fin_seq, fin_seq_exit, fin_seq_ret, fin_seq_panic, fin_block, fin_block_exit, fin_block_ret, fin_block_panic, fin_loop, fin_loop_exit, fin_loop_ret, fin_loop_panic, ops_nil, ops_cons, ops_guard, res_val, res_new, main_nil, main_cons, main_guard, mres_val, mres_new, AOp.ev, AOpd.ev, evAll, evParts, evOpt, put_get, put_none, wantA, ARes.ofOpt, tmOf, List.getD_cons_zero, List.getD_cons_succ, Nat.reduceEqDiff, if_true, if_false, reduceIte, Nat.reduceAdd, Nat.reduceMul, binA, intOp, eqOp, nilOf, lenA_slice, callA, AV.cells, undefA, Option.map_some, Option.map_none, Bool.false_eq_true, reduceCtorEq, beq_false, beq_true, g_true, g_false, mg_true, mg_false, Bool.not_true, Bool.not_false, decide_true, decide_false, not_true_eq_false, not_false_eq_true, List.nil_append, List.cons_append, List.append_nil, Option.isNone_some, Option.isNone_none, List.getElem?_cons_zero, List.getElem?_cons_succ]
  refine res_ret (cell33_c H g o i) ?_
  rintro r h' d ⟨rfl, p, e, rfl, hc⟩
  rcases hc with ⟨hno, rfl, rfl⟩ | ⟨x, hx, hn, ⟨h0, rfl, rfl⟩ | ⟨j, rfl, hj', rfl, rfl⟩⟩
  · simp only [wk_skip, wk_region, wk_seq, wk_block, wk_cond, wk_exit, wk_ret, wk_draw, cnd_true, cnd_false, fin_nil, fin_seq, fin_seq_exit, fin_seq_ret, fin_seq_panic, fin_block, fin_block_exit, fin_block_ret, fin_block_panic, fin_loop, fin_loop_exit, fin_loop_ret, fin_loop_panic, ops_nil, ops_cons, ops_guard, res_val, res_new, main_nil, main_cons, main_guard, mres_val, mres_new, AOp.ev, AOpd.ev, evAll, evParts, evOpt, put_get, put_none, wantA, ARes.ofOpt, tmOf, List.getD_cons_zero, List.getD_cons_succ, Nat.reduceEqDiff, if_true, if_false, reduceIte, Nat.reduceAdd, Nat.reduceMul, binA, intOp, eqOp, nilOf, lenA_slice, callA, AV.cells, undefA, Option.map_some, Option.map_none, Bool.false_eq_true, reduceCtorEq, beq_false, beq_true, g_true, g_false, mg_true, mg_false, Bool.not_true, Bool.not_false, decide_true, decide_false, not_true_eq_false, not_false_eq_true, List.nil_append, List.cons_append, List.append_nil, Option.isNone_some, Option.isNone_none, List.getElem?_cons_zero, List.getElem?_cons_succ, Int.reduceEq]
    refine fnEnd_ret1 ⟨15, _, rfl, .inl ⟨by omega, rfl, 0, false, .inl ⟨fun x hx => ?_, rfl, rfl, rfl⟩⟩, R, .refl _ _⟩
    obtain ⟨y, hy, rfl⟩ := of_obs hx
    exact hno y hy
  · simp only [wk_skip, wk_region, wk_seq, wk_block, wk_cond, wk_exit, wk_ret, wk_draw, cnd_true, cnd_false, fin_nil, fin_seq, fin_seq_exit, fin_seq_ret, fin_seq_panic, fin_block, fin_block_exit, fin_block_ret, fin_block_panic, fin_loop, fin_loop_exit, fin_loop_ret, fin_loop_panic, ops_nil, ops_cons, ops_guard, res_val, res_new, main_nil, main_cons, main_guard, mres_val, mres_new, AOp.ev, AOpd.ev, evAll, evParts, evOpt, put_get, put_none, wantA, ARes.ofOpt, tmOf, List.getD_cons_zero, List.getD_cons_succ, Nat.reduceEqDiff, if_true, if_false, reduceIte, Nat.reduceAdd, Nat.reduceMul, binA, intOp, eqOp, nilOf, lenA_slice, callA, AV.cells, undefA, Option.map_some, Option.map_none, Bool.false_eq_true, reduceCtorEq, beq_false, beq_true, g_true, g_false, mg_true, mg_false, Bool.not_true, Bool.not_false, decide_true, decide_false, not_true_eq_false, not_false_eq_true, List.nil_append, List.cons_append, List.append_nil, Option.isNone_some, Option.isNone_none, List.getElem?_cons_zero, List.getElem?_cons_succ, Int.reduceEq]
    exact fnEnd_ret1 ⟨16, _, rfl, .inl ⟨by omega, rfl, 0, false, .inr ⟨x.ob, mem_obs hx, hn, .inl ⟨h0, rfl, rfl, rfl⟩⟩⟩, R, .refl _ _⟩
  · subst hn
    have hsame := g.same _ (mem_obs hx)
    have hjr : j < x.ob.refs.length := by rw [hsame]; exact hj'
    obtain ⟨c3, q3, j1, _, j2⟩ := (H.refs x hx).get j (by simpa using hjr) .i64
    simp only [List.getElem_map] at j2
    have got : GetSaid (obsOf os) x.ob.name j x.ob.cells[j] x.ob.refs[j] 0 := .inr ⟨x.ob, mem_obs hx, rfl, .inr ⟨j, rfl, by simp [hj'], by simp [hjr], rfl⟩⟩
    have bad : x.ob.refs[j] = true → n ≠ 0 → (∀ y ∈ obsOf os, y.name ≠ n) → SetSaid (obsOf os) x.ob.name j n 15 (obsOf os) := fun h1 h2 h3 => .inr ⟨_, _, got, .inl ⟨rfl, rfl, h1, h2, h3⟩⟩
    simp only [wk_skip, wk_region, wk_seq, wk_block, wk_cond, wk_exit, wk_ret, wk_draw, cnd_true, cnd_false, fin_nil, fin_seq, fin_seq_exit, fin_seq_ret, fin_seq_panic, fin_block, fin_block_exit, fin_block_ret, fin_block_panic, fin_loop, fin_loop_exit, fin_loop_ret, fin_loop_panic, ops_nil, ops_cons, ops_guard, res_val, res_new, main_nil, main_cons, main_guard, mres_val, mres_new, AOp.ev, AOpd.ev, evAll, evParts, evOpt, put_get, put_none, wantA, ARes.ofOpt, tmOf, List.getD_cons_zero, List.getD_cons_succ, Nat.reduceEqDiff, if_true, if_false, reduceIte, Nat.reduceAdd, Nat.reduceMul, binA, intOp, eqOp, nilOf, lenA_slice, callA, AV.cells, undefA, Option.map_some, Option.map_none, Bool.false_eq_true, reduceCtorEq, beq_false, beq_true, g_true, g_false, mg_true, mg_false, Bool.not_true, Bool.not_false, decide_true, decide_false, not_true_eq_false, not_false_eq_true, List.nil_append, List.cons_append, List.append_nil, Option.isNone_some, Option.isNone_none, List.getElem?_cons_zero, List.getElem?_cons_succ, Int.reduceEq, nilCheck_ptr, (H.ob hx).2, j1, j2]
    -- what stands behind
    have fin : (x.ob.refs[j] = true → n ≠ 0 → ∃ y ∈ obsOf os, y.name = n) → ∃ (c2 p2 : Nat) (ds : List AV), indexSliceA 1 x.cv (.int .i64 j) = some (.ptr (some (c2, p2))) ∧ storeA h' 1 (.ptr (some (c2, p2))) (.int .u64 n) = .val undefA (h'.upd c2 (.cells ds false)) ∧
        HRep (h'.upd c2 (.cells ds false)) b B (putObs (obsOf os) x.ob.name j n) ρ ∧ Off ρ h' (h'.upd c2 (.cells ds false)) := fun hok => by
      obtain ⟨c2, p2, ds2, i1, i2, i3, i4, i5⟩ := (H.cells x hx).set (fun d hd => (O.cel x hx d hd).2) j (by simpa using hj') .i64 (.int .u64 n) rfl
      obtain ⟨f1, f2⟩ := HRep.setCell H g O hx (q := x.ob.refs[j]) (by simp [hjr]) hok i2 i5
      exact ⟨c2, p2, _, i1, i4, f1, f2⟩
    have good : ∀ (h2 : AHeap) (hok : x.ob.refs[j] = true → n ≠ 0 → ∃ y ∈ obsOf os, y.name = n), HRep h2 b B (putObs (obsOf os) x.ob.name j n) ρ → Off ρ h' h2 → ∃ e l', AV.int .i64 0 = .int .i64 e ∧ SetSaid (obsOf os) x.ob.name j n e l' ∧ HRep h2 b B l' ρ ∧ Off ρ h' h2 :=
      fun h2 hok f1 f2 => ⟨0, _, rfl, .inr ⟨_, _, got, .inr ⟨rfl, hok, j, x.ob.name, rfl, rfl, rfl⟩⟩, f1, f2⟩
    cases hr : x.ob.refs[j] with
    | false =>
      have hok : x.ob.refs[j] = true → n ≠ 0 → ∃ y ∈ obsOf os, y.name = n := fun e => by rw [hr] at e; cases e
      obtain ⟨c2, p2, ds, i1, i4, f1, f2⟩ := fin hok
      simp only [wk_skip, wk_region, wk_seq, wk_block, wk_cond, wk_exit, wk_ret, wk_draw, cnd_true, cnd_false, fin_nil, fin_seq, fin_seq_exit, fin_seq_ret, fin_seq_panic, fin_block, fin_block_exit, fin_block_ret, fin_block_panic, fin_loop, fin_loop_exit, fin_loop_ret, fin_loop_panic, ops_nil, ops_cons, ops_guard, res_val, res_new, main_nil, main_cons, main_guard, mres_val, mres_new, AOp.ev, AOpd.ev, evAll, evParts, evOpt, put_get, put_none, wantA, ARes.ofOpt, tmOf, List.getD_cons_zero, List.getD_cons_succ, Nat.reduceEqDiff, if_true, if_false, reduceIte, Nat.reduceAdd, Nat.reduceMul, binA, intOp, eqOp, nilOf, lenA_slice, callA, AV.cells, undefA, Option.map_some, Option.map_none, Bool.false_eq_true, reduceCtorEq, beq_false, beq_true, g_true, g_false, mg_true, mg_false, Bool.not_true, Bool.not_false, decide_true, decide_false, not_true_eq_false, not_false_eq_true, List.nil_append, List.cons_append, List.append_nil, Option.isNone_some, Option.isNone_none, List.getElem?_cons_zero, List.getElem?_cons_succ, Int.reduceEq, nilCheck_ptr, (H.ob hx).1, i1, i4]
      exact fnEnd_ret1 (good _ hok f1 f2)
    | true =>
      by_cases hn0 : n = 0
      · have hok : x.ob.refs[j] = true → n ≠ 0 → ∃ y ∈ obsOf os, y.name = n := fun _ e => absurd hn0 e
        have hz : ((n : Int) = 0) = True := eq_true (by omega)
        obtain ⟨c2, p2, ds, i1, i4, f1, f2⟩ := fin hok
        simp only [wk_skip, wk_region, wk_seq, wk_block, wk_cond, wk_exit, wk_ret, wk_draw, cnd_true, cnd_false, fin_nil, fin_seq, fin_seq_exit, fin_seq_ret, fin_seq_panic, fin_block, fin_block_exit, fin_block_ret, fin_block_panic, fin_loop, fin_loop_exit, fin_loop_ret, fin_loop_panic, ops_nil, ops_cons, ops_guard, res_val, res_new, main_nil, main_cons, main_guard, mres_val, mres_new, AOp.ev, AOpd.ev, evAll, evParts, evOpt, put_get, put_none, wantA, ARes.ofOpt, tmOf, List.getD_cons_zero, List.getD_cons_succ, Nat.reduceEqDiff, if_true, if_false, reduceIte, Nat.reduceAdd, Nat.reduceMul, binA, intOp, eqOp, nilOf, lenA_slice, callA, AV.cells, undefA, Option.map_some, Option.map_none, Bool.false_eq_true, reduceCtorEq, beq_false, beq_true, g_true, g_false, mg_true, mg_false, Bool.not_true, Bool.not_false, decide_true, decide_false, not_true_eq_false, not_false_eq_true, List.nil_append, List.cons_append, List.append_nil, Option.isNone_some, Option.isNone_none, List.getElem?_cons_zero, List.getElem?_cons_succ, Int.reduceEq, nilCheck_ptr, (H.ob hx).1, hz, i1, i4]
        exact fnEnd_ret1 (good _ hok f1 f2)
      · have hn0' : ¬ ((n : Int) = 0) := by omega
        by_cases hbig : (4294967296 : Int) < n
        · simp only [wk_skip, wk_region, wk_seq, wk_block, wk_cond, wk_exit, wk_ret, wk_draw, cnd_true, cnd_false, fin_nil, fin_seq, fin_seq_exit, fin_seq_ret, fin_seq_panic, fin_block, fin_block_exit, fin_block_ret, fin_block_panic, fin_loop, fin_loop_exit, fin_loop_ret, fin_loop_panic, ops_nil, ops_cons, ops_guard, res_val, res_new, main_nil, main_cons, main_guard, mres_val, mres_new, AOp.ev, AOpd.ev, evAll, evParts, evOpt, put_get, put_none, wantA, ARes.ofOpt, tmOf, List.getD_cons_zero, List.getD_cons_succ, Nat.reduceEqDiff, if_true, if_false, reduceIte, Nat.reduceAdd, Nat.reduceMul, binA, intOp, eqOp, nilOf, lenA_slice, callA, AV.cells, undefA, Option.map_some, Option.map_none, Bool.false_eq_true, reduceCtorEq, beq_false, beq_true, g_true, g_false, mg_true, mg_false, Bool.not_true, Bool.not_false, decide_true, decide_false, not_true_eq_false, not_false_eq_true, List.nil_append, List.cons_append, List.append_nil, Option.isNone_some, Option.isNone_none, List.getElem?_cons_zero, List.getElem?_cons_succ, hn0', hbig]
          refine fnEnd_ret1 ⟨15, _, rfl, bad hr hn0 fun y hy e => ?_, R, .refl _ _⟩
          have := g.few y hy; omega
        · have wr : IntKind.i64.wrap (n : Int) = n := wrap64 (by omega) (by omega)
          by_cases hex : ∃ y ∈ os, y.ob.name = n
          · obtain ⟨y, hy, rfl⟩ := hex
            have hok : x.ob.refs[j] = true → y.ob.name ≠ 0 → ∃ z ∈ obsOf os, z.name = y.ob.name := fun _ _ => ⟨_, mem_obs hy, rfl⟩
            obtain ⟨c2, p2, ds, i1, i4, f1, f2⟩ := fin hok
            simp only [wk_skip, wk_region, wk_seq, wk_block, wk_cond, wk_exit, wk_ret, wk_draw, cnd_true, cnd_false, fin_nil, fin_seq, fin_seq_exit, fin_seq_ret, fin_seq_panic, fin_block, fin_block_exit, fin_block_ret, fin_block_panic, fin_loop, fin_loop_exit, fin_loop_ret, fin_loop_panic, ops_nil, ops_cons, ops_guard, res_val, res_new, main_nil, main_cons, main_guard, mres_val, mres_new, AOp.ev, AOpd.ev, evAll, evParts, evOpt, put_get, put_none, wantA, ARes.ofOpt, tmOf, List.getD_cons_zero, List.getD_cons_succ, Nat.reduceEqDiff, if_true, if_false, reduceIte, Nat.reduceAdd, Nat.reduceMul, binA, intOp, eqOp, nilOf, lenA_slice, callA, AV.cells, undefA, Option.map_some, Option.map_none, Bool.false_eq_true, reduceCtorEq, beq_false, beq_true, g_true, g_false, mg_true, mg_false, Bool.not_true, Bool.not_false, decide_true, decide_false, not_true_eq_false, not_false_eq_true, List.nil_append, List.cons_append, List.append_nil, Option.isNone_some, Option.isNone_none, List.getElem?_cons_zero, List.getElem?_cons_succ, hn0', hbig, nilCheck_ptr, H.ld.1, wr, keyOk_int, H.hit hy, outA, (H.ob hx).1, i1, i4]
            exact fnEnd_ret1 (good _ hok f1 f2)
          · have hno : ∀ y ∈ os, (y.ob.name : Int) ≠ n := fun y hy e => hex ⟨y, hy, by omega⟩
            simp only [wk_skip, wk_region, wk_seq, wk_block, wk_cond, wk_exit, wk_ret, wk_draw, cnd_true, cnd_false, fin_nil, fin_seq, fin_seq_exit, fin_seq_ret, fin_seq_panic, fin_block, fin_block_exit, fin_block_ret, fin_block_panic, fin_loop, fin_loop_exit, fin_loop_ret, fin_loop_panic, ops_nil, ops_cons, ops_guard, res_val, res_new, main_nil, main_cons, main_guard, mres_val, mres_new, AOp.ev, AOpd.ev, evAll, evParts, evOpt, put_get, put_none, wantA, ARes.ofOpt, tmOf, List.getD_cons_zero, List.getD_cons_succ, Nat.reduceEqDiff, if_true, if_false, reduceIte, Nat.reduceAdd, Nat.reduceMul, binA, intOp, eqOp, nilOf, lenA_slice, callA, AV.cells, undefA, Option.map_some, Option.map_none, Bool.false_eq_true, reduceCtorEq, beq_false, beq_true, g_true, g_false, mg_true, mg_false, Bool.not_true, Bool.not_false, decide_true, decide_false, not_true_eq_false, not_false_eq_true, List.nil_append, List.cons_append, List.append_nil, Option.isNone_some, Option.isNone_none, List.getElem?_cons_zero, List.getElem?_cons_succ, hn0', hbig, nilCheck_ptr, H.ld.1, wr, keyOk_int, H.miss hno, outA]
            refine fnEnd_ret1 ⟨15, _, rfl, bad hr hn0 fun y hy e => ?_, R, .refl _ _⟩
            obtain ⟨z, hz, rfl⟩ := of_obs hy
            exact hex ⟨z, hz, e⟩

theorem new24_c {h : AHeap} (n : Int) : ARets Try.prog N 24 [.int .i64 n] h fun r h' =>
    ((n < 0 ∨ 65536 < n) ∧ h' = h ∧ r = .tuple [.ptr none, .int .i64 2]) ∨
    (0 ≤ n ∧ n ≤ 65536 ∧ ∃ b ρ, h b = none ∧ r = .tuple [.ptr (some (b, 0)), .int .i64 0] ∧ More h h' ∧ HRep h' b n [] ρ ∧ ∀ c, ρ c ≠ 0 → h c = none) := by
  refine acalls_of_wp c24_ok mixed (by show 1 ≤ 14; decide) (wk_start ?_)
  unfold c24
  simp only [wk_skip, wk_region, wk_seq, wk_block, wk_cond, wk_exit, wk_ret, wk_draw, cnd_true, cnd_false, fin_nil, fin_seq, fin_seq_exit, fin_seq_ret, fin_seq_panic, fin_block, fin_block_exit, fin_block_ret, fin_block_panic, fin_loop, fin_loop_exit, fin_loop_ret, fin_loop_panic, ops_nil, ops_cons, ops_guard, res_val, res_new, main_nil, main_cons, main_guard, mres_val, mres_new, AOp.ev, AOpd.ev, evAll, evParts, evOpt, put_get, put_none, wantA, ARes.ofOpt, tmOf, List.getD_cons_zero, List.getD_cons_succ, Nat.reduceEqDiff, if_true, if_false, reduceIte, Nat.reduceAdd, Nat.reduceMul, binA, intOp, eqOp, nilOf, lenA_slice, callA, AV.cells, undefA, Option.map_some, Option.map_none, Bool.false_eq_true, reduceCtorEq, beq_false, beq_true, g_true, g_false, mg_true, mg_false, Bool.not_true, Bool.not_false, decide_true, decide_false, not_true_eq_false, not_false_eq_true, List.nil_append, List.cons_append, List.append_nil, Option.isNone_some, Option.isNone_none, List.getElem?_cons_zero, List.getElem?_cons_succ]
  refine g_ndec (fun h1 => ?_) (fun h1 => ?_)
  · simp only [wk_skip, wk_region, wk_seq, wk_block, wk_cond, wk_exit, wk_ret, wk_draw, cnd_true, cnd_false, fin_nil, fin_seq, fin_seq_exit, fin_seq_ret, fin_seq_panic, fin_block, fin_block_exit, fin_block_ret, fin_block_panic, fin_loop, fin_loop_exit, fin_loop_ret, fin_loop_panic, ops_nil, ops_cons, ops_guard, res_val, res_new, main_nil, main_cons, main_guard, mres_val, mres_new, AOp.ev, AOpd.ev, evAll, evParts, evOpt, put_get, put_none, wantA, ARes.ofOpt, tmOf, List.getD_cons_zero, List.getD_cons_succ, Nat.reduceEqDiff, if_true, if_false, reduceIte, Nat.reduceAdd, Nat.reduceMul, binA, intOp, eqOp, nilOf, lenA_slice, callA, AV.cells, undefA, Option.map_some, Option.map_none, Bool.false_eq_true, reduceCtorEq, beq_false, beq_true, g_true, g_false, mg_true, mg_false, Bool.not_true, Bool.not_false, decide_true, decide_false, not_true_eq_false, not_false_eq_true, List.nil_append, List.cons_append, List.append_nil, Option.isNone_some, Option.isNone_none, List.getElem?_cons_zero, List.getElem?_cons_succ, h1]
    refine cond_dec (fun h2 => ?_) (fun h2 => ?_)
    · simp only [wk_skip, wk_region, wk_seq, wk_block, wk_cond, wk_exit, wk_ret, wk_draw, cnd_true, cnd_false, fin_nil, fin_seq, fin_seq_exit, fin_seq_ret, fin_seq_panic, fin_block, fin_block_exit, fin_block_ret, fin_block_panic, fin_loop, fin_loop_exit, fin_loop_ret, fin_loop_panic, ops_nil, ops_cons, ops_guard, res_val, res_new, main_nil, main_cons, main_guard, mres_val, mres_new, AOp.ev, AOpd.ev, evAll, evParts, evOpt, put_get, put_none, wantA, ARes.ofOpt, tmOf, List.getD_cons_zero, List.getD_cons_succ, Nat.reduceEqDiff, if_true, if_false, reduceIte, Nat.reduceAdd, Nat.reduceMul, binA, intOp, eqOp, nilOf, lenA_slice, callA, AV.cells, undefA, Option.map_some, Option.map_none, Bool.false_eq_true, reduceCtorEq, beq_false, beq_true, g_true, g_false, mg_true, mg_false, Bool.not_true, Bool.not_false, decide_true, decide_false, not_true_eq_false, not_false_eq_true, List.nil_append, List.cons_append, List.append_nil, Option.isNone_some, Option.isNone_none, List.getElem?_cons_zero, List.getElem?_cons_succ]
      exact fnEnd_ret2 (.inl ⟨.inr h2, rfl, rfl⟩)
    · have hfill : ∀ M : Nat, fillA [.map none, .int .i64 0, .int .i64 0, .int .i64 0] [(0, 1, .map (some M)), (1, 1, .int .i64 n), (2, 1, .int .i64 0), (3, 1, .int .i64 1)] = some [.map (some M), .int .i64 n, .int .i64 0, .int .i64 1] := fun M => rfl
      simp only [wk_skip, wk_region, wk_seq, wk_block, wk_cond, wk_exit, wk_ret, wk_draw, cnd_true, cnd_false, fin_nil, fin_seq, fin_seq_exit, fin_seq_ret, fin_seq_panic, fin_block, fin_block_exit, fin_block_ret, fin_block_panic, fin_loop, fin_loop_exit, fin_loop_ret, fin_loop_panic, ops_nil, ops_cons, ops_guard, res_val, res_new, main_nil, main_cons, main_guard, mres_val, mres_new, AOp.ev, AOpd.ev, evAll, evParts, evOpt, put_get, put_none, wantA, ARes.ofOpt, tmOf, List.getD_cons_zero, List.getD_cons_succ, Nat.reduceEqDiff, if_true, if_false, reduceIte, Nat.reduceAdd, Nat.reduceMul, binA, intOp, eqOp, nilOf, lenA_slice, callA, AV.cells, undefA, Option.map_some, Option.map_none, Bool.false_eq_true, reduceCtorEq, beq_false, beq_true, g_true, g_false, mg_true, mg_false, Bool.not_true, Bool.not_false, decide_true, decide_false, not_true_eq_false, not_false_eq_true, List.nil_append, List.cons_append, List.append_nil, Option.isNone_some, Option.isNone_none, List.getElem?_cons_zero, List.getElem?_cons_succ]
      intro M hM
      simp only [hfill, wk_skip, wk_region, wk_seq, wk_block, wk_cond, wk_exit, wk_ret, wk_draw, cnd_true, cnd_false, fin_nil, fin_seq, fin_seq_exit, fin_seq_ret, fin_seq_panic, fin_block, fin_block_exit, fin_block_ret, fin_block_panic, fin_loop, fin_loop_exit, fin_loop_ret, fin_loop_panic, ops_nil, ops_cons, ops_guard, res_val, res_new, main_nil, main_cons, main_guard, mres_val, mres_new, AOp.ev, AOpd.ev, evAll, evParts, evOpt, put_get, put_none, wantA, ARes.ofOpt, tmOf, List.getD_cons_zero, List.getD_cons_succ, Nat.reduceEqDiff, if_true, if_false, reduceIte, Nat.reduceAdd, Nat.reduceMul, binA, intOp, eqOp, nilOf, lenA_slice, callA, AV.cells, undefA, Option.map_some, Option.map_none, Bool.false_eq_true, reduceCtorEq, beq_false, beq_true, g_true, g_false, mg_true, mg_false, Bool.not_true, Bool.not_false, decide_true, decide_false, not_true_eq_false, not_false_eq_true, List.nil_append, List.cons_append, List.append_nil, Option.isNone_some, Option.isNone_none, List.getElem?_cons_zero, List.getElem?_cons_succ]
      intro b hb
      obtain ⟨nb, hb'⟩ := upd_none hb
      refine fnEnd_ret2 (.inr ⟨by omega, by omega, b, fun c => if c = b then 1 else if c = M then 2 else 0, hb', rfl, (More.upd hM _).trans (More.upd hb _), ⟨M, 0, 1, [], rfl, ⟨AHeap.upd_same _ _ _, ?_, fun o ho => (by cases ho), fun o ho => (by cases ho), fun o ho => (by cases ho)⟩,
        ⟨fun o ho => (by cases ho), by simp, fun o ho => (by cases ho), fun o ho => (by cases ho), rfl, by omega, ⟨by omega, by omega⟩, ⟨by omega, fun n h1 h2 => by omega⟩, fun o ho => (by cases ho)⟩, ⟨by simp, by rw [if_neg fun e => nb e.symm]; simp, fun o ho => (by cases ho), fun o ho => (by cases ho), fun o ho => (by cases ho), fun c hc => ?_⟩⟩, fun c hc => ?_⟩)
      · exact (IMap.new (h := h)).keep (AHeap.upd_other _ _ fun e => nb e.symm)
      · by_cases e : c = b
        · subst e; rw [AHeap.upd_same]; simp
        · rw [AHeap.upd_other _ _ e]
          by_cases e2 : c = M
          · subst e2; rw [AHeap.upd_same]; simp
          · simp [e, e2] at hc
      · by_cases e : c = b
        · subst e; exact hb'
        · by_cases e2 : c = M
          · subst e2; exact hM
          · simp [e, e2] at hc
  · simp only [wk_skip, wk_region, wk_seq, wk_block, wk_cond, wk_exit, wk_ret, wk_draw, cnd_true, cnd_false, fin_nil, fin_seq, fin_seq_exit, fin_seq_ret, fin_seq_panic, fin_block, fin_block_exit, fin_block_ret, fin_block_panic, fin_loop, fin_loop_exit, fin_loop_ret, fin_loop_panic, ops_nil, ops_cons, ops_guard, res_val, res_new, main_nil, main_cons, main_guard, mres_val, mres_new, AOp.ev, AOpd.ev, evAll, evParts, evOpt, put_get, put_none, wantA, ARes.ofOpt, tmOf, List.getD_cons_zero, List.getD_cons_succ, Nat.reduceEqDiff, if_true, if_false, reduceIte, Nat.reduceAdd, Nat.reduceMul, binA, intOp, eqOp, nilOf, lenA_slice, callA, AV.cells, undefA, Option.map_some, Option.map_none, Bool.false_eq_true, reduceCtorEq, beq_false, beq_true, g_true, g_false, mg_true, mg_false, Bool.not_true, Bool.not_false, decide_true, decide_false, not_true_eq_false, not_false_eq_true, List.nil_append, List.cons_append, List.append_nil, Option.isNone_some, Option.isNone_none, List.getElem?_cons_zero, List.getElem?_cons_succ, h1]
    exact fnEnd_ret2 (.inl ⟨.inl trivial, rfl, rfl⟩)
end Go.Proofs.Ytnkdjfmidiffdaa
namespace Go.Proofs.Ytnkdjfmidiffdaa
open Go Go.Proofs Go.Am
variable {N : Nat}

theorem HIn.more {h h' : AHeap} {b M : Nat} {B used least : Int} {os : List HO} (H : HIn h b M B used least os) (m : More h h') : HIn h' b M B used least os :=
  ⟨m.at_ H.top, H.map.keep (m M H.map.some_), fun o ho => m.at_ (H.obj o ho), fun o ho => slice_more (H.cells o ho) m, fun o ho => slice_more (H.refs o ho) m⟩
def unseen : List Ob → List Int → Nat
  | [], _ => 0
  | x :: l, s => (if (x.name : Int) ∈ s then 0 else sizeOb x) + unseen l s
theorem unseen_irrel {n : Int} {s : List Int} : ∀ {l : List Ob}, (∀ x ∈ l, (x.name : Int) ≠ n) → unseen l (s ++ [n]) = unseen l s
  | [], _ => rfl
  | x :: l, h => by
    have h1 := h x (List.mem_cons_self ..)
    have ih := unseen_irrel (s := s) (l := l) fun y hy => h y (List.mem_cons_of_mem _ hy)
    simp only [unseen, ih, List.mem_append, List.mem_singleton, h1, or_false]
theorem unseen_add {s : List Int} : ∀ {l : List Ob} {o : Ob}, (l.map (·.name)).Nodup → o ∈ l → (o.name : Int) ∉ s → unseen l (s ++ [(o.name : Int)]) + sizeOb o = unseen l s
  | x :: l, o, hn, ho, hs => by
    simp only [List.map_cons, List.nodup_cons] at hn
    by_cases e : x.name = o.name
    · have hx : x = o := by
        rcases List.mem_cons.1 ho with h | h
        · exact h.symm
        · exact absurd (List.mem_map.2 ⟨o, h, e.symm⟩) hn.1
      subst hx
      have := unseen_irrel (n := (x.name : Int)) (s := s) (l := l) fun y hy ey => hn.1 (List.mem_map.2 ⟨y, hy, by omega⟩)
      simp only [unseen, this, hs, if_false, List.mem_append, List.mem_singleton, or_true, if_true]
      omega
    · have ho' : o ∈ l := by
        rcases List.mem_cons.1 ho with h | h
        · exact absurd (by rw [h]) e
        · exact h
      have ih := unseen_add hn.2 ho' hs
      have hne : (x.name : Int) ≠ o.name := by omega
      simp only [unseen, List.mem_append, List.mem_singleton, hne, or_false]
      omega
theorem unseen_le (s : List Int) : ∀ l : List Ob, unseen l s ≤ totOb l
  | [] => Nat.le_refl 0
  | x :: l => by
    have := unseen_le s l
    simp only [unseen, totOb, List.map_cons, List.sum_cons] at this ⊢
    split <;> omega

theorem RchN.mem {l : List Ob} {roots : List Int} {n : Nat} (h : RchN l roots n) : ∃ o ∈ l, o.name = n := by
  cases h with
  | root o ho _ => exact ⟨o, ho, rfl⟩
  | step o o' j _ _ ho' _ _ => exact ⟨o', ho', rfl⟩

/-- What an object's first cells name. -/
def pushed (o : Ob) (i : Nat) : List Int := (((o.cells.zip o.refs).take i).filter (·.2)).map fun p => (p.1 : Int)
theorem pushed_len (o : Ob) (i : Nat) : (pushed o i).length ≤ i := by
  unfold pushed
  rw [List.length_map]
  refine Nat.le_trans (List.length_filter_le _ _) ?_
  simp; omega
theorem pushed_succ (o : Ob) (i : Nat) (h1 : i < o.cells.length) (h2 : i < o.refs.length) : pushed o (i + 1) = pushed o i ++ (if o.refs[i] = true then [(o.cells[i] : Int)] else []) := by
  unfold pushed
  rw [zip_take_succ _ _ _ h1 h2, List.filter_append, List.map_append]
  cases h : o.refs[i] <;> simp [h]
theorem pushed_mem {o : Ob} {r : Int} {i : Nat} (h : r ∈ pushed o i) : ∃ (j c : Nat), o.refs[j]? = some true ∧ o.cells[j]? = some c ∧ r = c := by
  unfold pushed at h
  obtain ⟨p, hp, rfl⟩ := List.mem_map.1 h
  obtain ⟨h1, h2⟩ := List.mem_filter.1 hp
  obtain ⟨j, hj, e⟩ := List.mem_iff_getElem.1 (List.mem_of_mem_take h1)
  simp only [List.length_zip] at hj
  rw [List.getElem_zip] at e
  refine ⟨j, p.1, ?_, ?_, rfl⟩
  · rw [List.getElem?_eq_getElem (by omega)]
    have := congrArg Prod.snd e
    simp only [] at this
    rw [this, h2]
  · rw [List.getElem?_eq_getElem (by omega)]
    have := congrArg Prod.fst e
    simp only [] at this
    rw [this]
theorem mem_pushed {o : Ob} {j c : Nat} (hs : o.refs.length = o.cells.length) (hr : o.refs[j]? = some true) (hc : o.cells[j]? = some c) {i : Nat} (hi : o.cells.length ≤ i) : (c : Int) ∈ pushed o i := by
  unfold pushed
  obtain ⟨h1, e1⟩ := List.getElem?_eq_some_iff.1 hr
  obtain ⟨h2, e2⟩ := List.getElem?_eq_some_iff.1 hc
  refine List.mem_map.2 ⟨(o.cells[j], o.refs[j]), List.mem_filter.2 ⟨?_, by simp [e1]⟩, by rw [e2]⟩
  rw [List.take_of_length_le (by simp; omega)]
  exact List.mem_iff_getElem.2 ⟨j, by simp; omega, by rw [List.getElem_zip]⟩

/-- How the marking stands: what was seen, what is to be looked at. -/
structure MarkI (l : List Ob) (roots seen list : List Int) : Prop where
  s1 : ∀ r ∈ list, r = 0 ∨ ∃ m : Nat, r = m ∧ RchN l roots m
  s2 : ∀ r ∈ seen, ∃ m : Nat, r = m ∧ RchN l roots m
  c1 : ∀ r ∈ roots, r ≠ 0 → r ∈ seen ∨ r ∈ list
  c2 : ∀ o ∈ l, (o.name : Int) ∈ seen → ∀ (j c : Nat), o.refs[j]? = some true → o.cells[j]? = some c → c = 0 ∨ (c : Int) ∈ seen ∨ (c : Int) ∈ list
  nd : seen.Nodup

theorem MarkI.end_ {l : List Ob} {roots seen : List Int} (hp : ∀ o ∈ l, 1 ≤ o.name) (m : MarkI l roots seen []) : ∀ n : Int, n ∈ seen ↔ ∃ k : Nat, n = k ∧ RchN l roots k := by
  intro n
  refine ⟨m.s2 n, ?_⟩
  rintro ⟨k, rfl, h⟩
  induction h with
  | root o ho hr =>
    rcases m.c1 _ hr (by have := hp o ho; omega) with h | h
    · exact h
    · cases h
  | step o o' j _ ho ho' hr hc ih =>
    rcases m.c2 o ho ih j _ hr hc with h | h | h
    · have := hp o' ho'; omega
    · exact h
    · cases h

theorem mark34_c {h : AHeap} {b M : Nat} {B used least : Int} {os : List HO} (H : HIn h b M B used least os) (g : HGood B used least (obsOf os)) {rv : AV} {roots : List Int} (Hr : Ints h rv roots) (hl : roots.length ≤ 4000000000) :
    ARets Try.prog N 34 [.ptr (some (b, 0)), rv] h fun r h' => More h h' ∧
      ((¬ KnownN (obsOf os) roots ∧ r = .tuple [.map none, .int .i64 15]) ∨
       (KnownN (obsOf os) roots ∧ ∃ (M' : Nat) (seen : List Int), r = .tuple [.map (some M'), .int .i64 0] ∧ h M' = none ∧ IMap h' M' (seen.map fun n => (n, .bool true)) ∧ ∀ n : Int, n ∈ seen ↔ ∃ k : Nat, n = k ∧ RchN (obsOf os) roots k)) := by
  refine acalls_of_wp c34_ok mixed (by show 2 ≤ 94; decide) (wk_start ?_)
  unfold c34
  simp only [wk_skip, wk_region, wk_seq, wk_block, wk_cond, wk_exit, wk_ret, wk_draw, cnd_true, cnd_false, fin_nil, fin_seq, fin_seq_exit, fin_seq_ret, fin_seq_panic, fin_block, fin_block_exit, fin_block_ret, fin_block_panic, fin_loop, fin_loop_exit, fin_loop_ret, fin_loop_panic, ops_nil, ops_cons, ops_guard, res_val, res_new, main_nil, main_cons, main_guard, mres_val, mres_new, AOp.ev, AOpd.ev, evAll, evParts, evOpt, put_get, put_none, wantA, ARes.ofOpt, tmOf, List.getD_cons_zero, List.getD_cons_succ, Nat.reduceEqDiff, if_true, if_false, reduceIte, Nat.reduceAdd, Nat.reduceMul, binA, intOp, eqOp, nilOf, lenA_slice, callA, AV.cells, undefA, Option.map_some, Option.map_none, Bool.false_eq_true, reduceCtorEq, beq_false, beq_true, g_true, g_false, mg_true, mg_false, Bool.not_true, Bool.not_false, decide_true, decide_false, not_true_eq_false, not_false_eq_true, List.nil_append, List.cons_append, List.append_nil, Option.isNone_some, Option.isNone_none, List.getElem?_cons_zero, List.getElem?_cons_succ]
  intro M' hM'
  have mM := More.upd hM' (.map [] 0)
  refine res_ret (clone44_c (slice_more Hr mM) (by simp; omega) (by simp [AV.oneCell])) ?_
  intro lv h1 _ G0
  have im0 : IMap h1 M' [] := (IMap.new (h := h)).keep (G0.more M' (by rw [AHeap.upd_same]; simp))
  have G1 : Grown h h1 1 lv (roots.map (.int .i64)) := G0.base mM
  have H1 := H.more G1.more
  have hlenr := (slice_more Hr G1.more).len roots.length (by simp) (by omega)
  simp only [wk_skip, wk_region, wk_seq, wk_block, wk_cond, wk_exit, wk_ret, wk_draw, cnd_true, cnd_false, fin_nil, fin_seq, fin_seq_exit, fin_seq_ret, fin_seq_panic, fin_block, fin_block_exit, fin_block_ret, fin_block_panic, fin_loop, fin_loop_exit, fin_loop_ret, fin_loop_panic, ops_nil, ops_cons, ops_guard, res_val, res_new, main_nil, main_cons, main_guard, mres_val, mres_new, AOp.ev, AOpd.ev, evAll, evParts, evOpt, put_get, put_none, wantA, ARes.ofOpt, tmOf, List.getD_cons_zero, List.getD_cons_succ, Nat.reduceEqDiff, if_true, if_false, reduceIte, Nat.reduceAdd, Nat.reduceMul, binA, intOp, eqOp, nilOf, lenA_slice, callA, AV.cells, undefA, Option.map_some, Option.map_none, Bool.false_eq_true, reduceCtorEq, beq_false, beq_true, g_true, g_false, mg_true, mg_false, Bool.not_true, Bool.not_false, decide_true, decide_false, not_true_eq_false, not_false_eq_true, List.nil_append, List.cons_append, List.append_nil, Option.isNone_some, Option.isNone_none, List.getElem?_cons_zero, List.getElem?_cons_succ, hlenr]
  refine wk_cutb (fun tm ds h' => ds = [] ∧ h' = h1 ∧ tm 0 = .ptr (some (b, 0)) ∧ tm 6 = .map (some M') ∧ tm 7 = lv ∧ KnownN (obsOf os) roots) ?_ ?_
  · refine wk_loop (fun k tm ds h' => ds = [] ∧ h' = h1 ∧ tm 0 = .ptr (some (b, 0)) ∧ tm 6 = .map (some M') ∧ tm 7 = lv ∧ tm 19 = rv ∧ tm 20 = .int .i64 roots.length ∧ ∃ i : Nat, tm 21 = .int .i64 i ∧ i + k = roots.length ∧ KnownN (obsOf os) (roots.take i)) roots.length
      ⟨rfl, rfl, rfl, rfl, rfl, rfl, rfl, 0, rfl, by simp, fun r hr => by simp at hr⟩ ?_
    rintro k tm ds h' ⟨rfl, rfl, t0, t6, t7, t19, t20, i, t21, hk, hkn⟩
    simp only [wk_skip, wk_region, wk_seq, wk_block, wk_cond, wk_exit, wk_ret, wk_draw, cnd_true, cnd_false, fin_nil, fin_seq, fin_seq_exit, fin_seq_ret, fin_seq_panic, fin_block, fin_block_exit, fin_block_ret, fin_block_panic, fin_loop, fin_loop_exit, fin_loop_ret, fin_loop_panic, ops_nil, ops_cons, ops_guard, res_val, res_new, main_nil, main_cons, main_guard, mres_val, mres_new, AOp.ev, AOpd.ev, evAll, evParts, evOpt, put_get, put_none, wantA, ARes.ofOpt, tmOf, List.getD_cons_zero, List.getD_cons_succ, Nat.reduceEqDiff, if_true, if_false, reduceIte, Nat.reduceAdd, Nat.reduceMul, binA, intOp, eqOp, nilOf, lenA_slice, callA, AV.cells, undefA, Option.map_some, Option.map_none, Bool.false_eq_true, reduceCtorEq, beq_false, beq_true, g_true, g_false, mg_true, mg_false, Bool.not_true, Bool.not_false, decide_true, decide_false, not_true_eq_false, not_false_eq_true, List.nil_append, List.cons_append, List.append_nil, Option.isNone_some, Option.isNone_none, List.getElem?_cons_zero, List.getElem?_cons_succ, t20, t21]
    refine cond_dec (fun hi => ?_) (fun hi => ?_)
    · have hi' : i < roots.length := by omega
      have wri : IntKind.i64.wrap ((i : Int) + 1) = ((i + 1 : Nat) : Int) := by rw [wrap64 (by omega) (by omega)]; rfl
      obtain ⟨c, o, g1, _, g2⟩ := (slice_more Hr G1.more).get i (by simpa using hi') .i64
      simp only [List.getElem_map] at g2
      have next : ∀ tm' : TM, tm' 0 = .ptr (some (b, 0)) → tm' 6 = .map (some M') → tm' 7 = lv → tm' 19 = rv → tm' 20 = .int .i64 roots.length → tm' 21 = .int .i64 ((i + 1 : Nat) : Int) → (roots[i] = 0 ∨ ∃ o ∈ obsOf os, (o.name : Int) = roots[i]) →
          ∃ k', k' < k ∧ ([] : List ADef) = [] ∧ h' = h' ∧ tm' 0 = .ptr (some (b, 0)) ∧ tm' 6 = .map (some M') ∧ tm' 7 = lv ∧ tm' 19 = rv ∧ tm' 20 = .int .i64 roots.length ∧ ∃ i : Nat, tm' 21 = .int .i64 i ∧ i + k' = roots.length ∧ KnownN (obsOf os) (roots.take i) := fun tm' u0 u6 u7 u19 u20 u21 hr => by
        refine ⟨k - 1, by omega, rfl, rfl, u0, u6, u7, u19, u20, i + 1, u21, by omega, fun r hr' => ?_⟩
        rw [List.take_add_one, List.mem_append] at hr'
        rcases hr' with h | h
        · exact hkn r h
        · simp [hi'] at h; subst h; exact hr
      have bad : ¬ (roots[i] = 0 ∨ ∃ o ∈ obsOf os, (o.name : Int) = roots[i]) → ¬ KnownN (obsOf os) roots := fun hn hk => hn (hk _ (List.getElem_mem hi'))
      by_cases hx : ∃ x ∈ os, (x.ob.name : Int) = roots[i]
      · obtain ⟨x, hx, hxe⟩ := hx
        have hlk := H1.hit hx (.ptr none) true
        rw [hxe] at hlk
        simp only [wk_skip, wk_region, wk_seq, wk_block, wk_cond, wk_exit, wk_ret, wk_draw, cnd_true, cnd_false, fin_nil, fin_seq, fin_seq_exit, fin_seq_ret, fin_seq_panic, fin_block, fin_block_exit, fin_block_ret, fin_block_panic, fin_loop, fin_loop_exit, fin_loop_ret, fin_loop_panic, ops_nil, ops_cons, ops_guard, res_val, res_new, main_nil, main_cons, main_guard, mres_val, mres_new, AOp.ev, AOpd.ev, evAll, evParts, evOpt, put_get, put_none, wantA, ARes.ofOpt, tmOf, List.getD_cons_zero, List.getD_cons_succ, Nat.reduceEqDiff, if_true, if_false, reduceIte, Nat.reduceAdd, Nat.reduceMul, binA, intOp, eqOp, nilOf, lenA_slice, callA, AV.cells, undefA, Option.map_some, Option.map_none, Bool.false_eq_true, reduceCtorEq, beq_false, beq_true, g_true, g_false, mg_true, mg_false, Bool.not_true, Bool.not_false, decide_true, decide_false, not_true_eq_false, not_false_eq_true, List.nil_append, List.cons_append, List.append_nil, Option.isNone_some, Option.isNone_none, List.getElem?_cons_zero, List.getElem?_cons_succ, t0, t19, t21, g1, g2, nilCheck_ptr, H1.ld.1, keyOk_int, hlk, outA]
        have ok : roots[i] = 0 ∨ ∃ o ∈ obsOf os, (o.name : Int) = roots[i] := .inr ⟨_, mem_obs hx, hxe⟩
        refine g_ndec (fun h0 => ?_) (fun h0 => ?_)
        · simp only [wk_skip, wk_region, wk_seq, wk_block, wk_cond, wk_exit, wk_ret, wk_draw, cnd_true, cnd_false, fin_nil, fin_seq, fin_seq_exit, fin_seq_ret, fin_seq_panic, fin_block, fin_block_exit, fin_block_ret, fin_block_panic, fin_loop, fin_loop_exit, fin_loop_ret, fin_loop_panic, ops_nil, ops_cons, ops_guard, res_val, res_new, main_nil, main_cons, main_guard, mres_val, mres_new, AOp.ev, AOpd.ev, evAll, evParts, evOpt, put_get, put_none, wantA, ARes.ofOpt, tmOf, List.getD_cons_zero, List.getD_cons_succ, Nat.reduceEqDiff, if_true, if_false, reduceIte, Nat.reduceAdd, Nat.reduceMul, binA, intOp, eqOp, nilOf, lenA_slice, callA, AV.cells, undefA, Option.map_some, Option.map_none, Bool.false_eq_true, reduceCtorEq, beq_false, beq_true, g_true, g_false, mg_true, mg_false, Bool.not_true, Bool.not_false, decide_true, decide_false, not_true_eq_false, not_false_eq_true, List.nil_append, List.cons_append, List.append_nil, Option.isNone_some, Option.isNone_none, List.getElem?_cons_zero, List.getElem?_cons_succ, h0, wri, t21]
          refine meet (next _ ?_ ?_ ?_ ?_ ?_ ?_ ok)
          all_goals simp [TM.put, t0, t6, t7, t19, t20]
        · simp only [wk_skip, wk_region, wk_seq, wk_block, wk_cond, wk_exit, wk_ret, wk_draw, cnd_true, cnd_false, fin_nil, fin_seq, fin_seq_exit, fin_seq_ret, fin_seq_panic, fin_block, fin_block_exit, fin_block_ret, fin_block_panic, fin_loop, fin_loop_exit, fin_loop_ret, fin_loop_panic, ops_nil, ops_cons, ops_guard, res_val, res_new, main_nil, main_cons, main_guard, mres_val, mres_new, AOp.ev, AOpd.ev, evAll, evParts, evOpt, put_get, put_none, wantA, ARes.ofOpt, tmOf, List.getD_cons_zero, List.getD_cons_succ, Nat.reduceEqDiff, if_true, if_false, reduceIte, Nat.reduceAdd, Nat.reduceMul, binA, intOp, eqOp, nilOf, lenA_slice, callA, AV.cells, undefA, Option.map_some, Option.map_none, Bool.false_eq_true, reduceCtorEq, beq_false, beq_true, g_true, g_false, mg_true, mg_false, Bool.not_true, Bool.not_false, decide_true, decide_false, not_true_eq_false, not_false_eq_true, List.nil_append, List.cons_append, List.append_nil, Option.isNone_some, Option.isNone_none, List.getElem?_cons_zero, List.getElem?_cons_succ, h0, wri, t21]
          refine meet (next _ ?_ ?_ ?_ ?_ ?_ ?_ ok)
          all_goals simp [TM.put, t0, t6, t7, t19, t20]
      · have hno : ∀ o ∈ os, (o.ob.name : Int) ≠ roots[i] := fun o ho e => hx ⟨o, ho, e⟩
        have hlk := H1.miss hno (.ptr none) true
        simp only [wk_skip, wk_region, wk_seq, wk_block, wk_cond, wk_exit, wk_ret, wk_draw, cnd_true, cnd_false, fin_nil, fin_seq, fin_seq_exit, fin_seq_ret, fin_seq_panic, fin_block, fin_block_exit, fin_block_ret, fin_block_panic, fin_loop, fin_loop_exit, fin_loop_ret, fin_loop_panic, ops_nil, ops_cons, ops_guard, res_val, res_new, main_nil, main_cons, main_guard, mres_val, mres_new, AOp.ev, AOpd.ev, evAll, evParts, evOpt, put_get, put_none, wantA, ARes.ofOpt, tmOf, List.getD_cons_zero, List.getD_cons_succ, Nat.reduceEqDiff, if_true, if_false, reduceIte, Nat.reduceAdd, Nat.reduceMul, binA, intOp, eqOp, nilOf, lenA_slice, callA, AV.cells, undefA, Option.map_some, Option.map_none, Bool.false_eq_true, reduceCtorEq, beq_false, beq_true, g_true, g_false, mg_true, mg_false, Bool.not_true, Bool.not_false, decide_true, decide_false, not_true_eq_false, not_false_eq_true, List.nil_append, List.cons_append, List.append_nil, Option.isNone_some, Option.isNone_none, List.getElem?_cons_zero, List.getElem?_cons_succ, t0, t19, t21, g1, g2, nilCheck_ptr, H1.ld.1, keyOk_int, hlk, outA]
        refine g_ndec (fun h0 => ?_) (fun h0 => ?_)
        · simp only [wk_skip, wk_region, wk_seq, wk_block, wk_cond, wk_exit, wk_ret, wk_draw, cnd_true, cnd_false, fin_nil, fin_seq, fin_seq_exit, fin_seq_ret, fin_seq_panic, fin_block, fin_block_exit, fin_block_ret, fin_block_panic, fin_loop, fin_loop_exit, fin_loop_ret, fin_loop_panic, ops_nil, ops_cons, ops_guard, res_val, res_new, main_nil, main_cons, main_guard, mres_val, mres_new, AOp.ev, AOpd.ev, evAll, evParts, evOpt, put_get, put_none, wantA, ARes.ofOpt, tmOf, List.getD_cons_zero, List.getD_cons_succ, Nat.reduceEqDiff, if_true, if_false, reduceIte, Nat.reduceAdd, Nat.reduceMul, binA, intOp, eqOp, nilOf, lenA_slice, callA, AV.cells, undefA, Option.map_some, Option.map_none, Bool.false_eq_true, reduceCtorEq, beq_false, beq_true, g_true, g_false, mg_true, mg_false, Bool.not_true, Bool.not_false, decide_true, decide_false, not_true_eq_false, not_false_eq_true, List.nil_append, List.cons_append, List.append_nil, Option.isNone_some, Option.isNone_none, List.getElem?_cons_zero, List.getElem?_cons_succ, h0]
          refine fnEnd_ret2 ⟨G1.more, .inl ⟨bad ?_, rfl⟩⟩
          rintro (h | ⟨o, ho, e⟩)
          · exact h0 h
          · obtain ⟨y, hy, rfl⟩ := of_obs ho
            exact hno y hy e
        · simp only [wk_skip, wk_region, wk_seq, wk_block, wk_cond, wk_exit, wk_ret, wk_draw, cnd_true, cnd_false, fin_nil, fin_seq, fin_seq_exit, fin_seq_ret, fin_seq_panic, fin_block, fin_block_exit, fin_block_ret, fin_block_panic, fin_loop, fin_loop_exit, fin_loop_ret, fin_loop_panic, ops_nil, ops_cons, ops_guard, res_val, res_new, main_nil, main_cons, main_guard, mres_val, mres_new, AOp.ev, AOpd.ev, evAll, evParts, evOpt, put_get, put_none, wantA, ARes.ofOpt, tmOf, List.getD_cons_zero, List.getD_cons_succ, Nat.reduceEqDiff, if_true, if_false, reduceIte, Nat.reduceAdd, Nat.reduceMul, binA, intOp, eqOp, nilOf, lenA_slice, callA, AV.cells, undefA, Option.map_some, Option.map_none, Bool.false_eq_true, reduceCtorEq, beq_false, beq_true, g_true, g_false, mg_true, mg_false, Bool.not_true, Bool.not_false, decide_true, decide_false, not_true_eq_false, not_false_eq_true, List.nil_append, List.cons_append, List.append_nil, Option.isNone_some, Option.isNone_none, List.getElem?_cons_zero, List.getElem?_cons_succ, h0, wri, t21]
          refine meet (next _ ?_ ?_ ?_ ?_ ?_ ?_ (.inl h0))
          all_goals simp [TM.put, t0, t6, t7, t19, t20]
    · simp only [wk_skip, wk_region, wk_seq, wk_block, wk_cond, wk_exit, wk_ret, wk_draw, cnd_true, cnd_false, fin_nil, fin_seq, fin_seq_exit, fin_seq_ret, fin_seq_panic, fin_block, fin_block_exit, fin_block_ret, fin_block_panic, fin_loop, fin_loop_exit, fin_loop_ret, fin_loop_panic, ops_nil, ops_cons, ops_guard, res_val, res_new, main_nil, main_cons, main_guard, mres_val, mres_new, AOp.ev, AOpd.ev, evAll, evParts, evOpt, put_get, put_none, wantA, ARes.ofOpt, tmOf, List.getD_cons_zero, List.getD_cons_succ, Nat.reduceEqDiff, if_true, if_false, reduceIte, Nat.reduceAdd, Nat.reduceMul, binA, intOp, eqOp, nilOf, lenA_slice, callA, AV.cells, undefA, Option.map_some, Option.map_none, Bool.false_eq_true, reduceCtorEq, beq_false, beq_true, g_true, g_false, mg_true, mg_false, Bool.not_true, Bool.not_false, decide_true, decide_false, not_true_eq_false, not_false_eq_true, List.nil_append, List.cons_append, List.append_nil, Option.isNone_some, Option.isNone_none, List.getElem?_cons_zero, List.getElem?_cons_succ]
      rw [List.take_of_length_le (by omega)] at hkn
      exact meet ⟨rfl, rfl, t0, t6, t7, hkn⟩
  · rintro tm ds h' ⟨rfl, rfl, t0, t6, t7, hkn⟩
    simp only [wk_skip, wk_region, wk_seq, wk_block, wk_cond, wk_exit, wk_ret, wk_draw, cnd_true, cnd_false, fin_nil, fin_seq, fin_seq_exit, fin_seq_ret, fin_seq_panic, fin_block, fin_block_exit, fin_block_ret, fin_block_panic, fin_loop, fin_loop_exit, fin_loop_ret, fin_loop_panic, ops_nil, ops_cons, ops_guard, res_val, res_new, main_nil, main_cons, main_guard, mres_val, mres_new, AOp.ev, AOpd.ev, evAll, evParts, evOpt, put_get, put_none, wantA, ARes.ofOpt, tmOf, List.getD_cons_zero, List.getD_cons_succ, Nat.reduceEqDiff, if_true, if_false, reduceIte, Nat.reduceAdd, Nat.reduceMul, binA, intOp, eqOp, nilOf, lenA_slice, callA, AV.cells, undefA, Option.map_some, Option.map_none, Bool.false_eq_true, reduceCtorEq, beq_false, beq_true, g_true, g_false, mg_true, mg_false, Bool.not_true, Bool.not_false, decide_true, decide_false, not_true_eq_false, not_false_eq_true, List.nil_append, List.cons_append, List.append_nil, Option.isNone_some, Option.isNone_none, List.getElem?_cons_zero, List.getElem?_cons_succ]
    have htot := g.tot
    refine wk_loop (fun k tm ds h' => ds = [] ∧ tm 0 = .ptr (some (b, 0)) ∧ tm 6 = .map (some M') ∧ ∃ (lv : AV) (seen list : List Int), tm 7 = lv ∧ Grown h h' 1 lv (list.map (.int .i64)) ∧ IMap h' M' (seen.map fun n => (n, .bool true)) ∧
      MarkI (obsOf os) roots seen list ∧ k = 2 * unseen (obsOf os) seen + list.length ∧ k ≤ 2 * totOb (obsOf os) + roots.length) (2 * unseen (obsOf os) [] + roots.length)
      ⟨rfl, t0, t6, lv, [], roots, t7, G1, im0, ⟨fun r hr => ?_, fun r hr => (by cases hr), fun r hr _ => .inr hr, fun o ho hs => (by cases hs), List.nodup_nil⟩, rfl, by have := unseen_le [] (obsOf os); omega⟩ ?_
    · rcases hkn r hr with h | ⟨o, ho, e⟩
      · exact .inl h
      · exact .inr ⟨o.name, e.symm, .root o ho (by rw [e]; exact hr)⟩
    clear t0 t6 t7 tm
    rintro k tm ds h2 ⟨rfl, t0, t6, lv, seen, list, t7, G, im, mi, hk, hkb⟩
    have hM2 : blkOf lv ≠ some M' := fun e => by
      obtain ⟨_, ds, e2⟩ := G.own M' e
      obtain ⟨es, ck, e3, _⟩ := im.out
      rw [e2] at e3; cases e3
    have hlen := G.at_.len list.length (by simp) (by omega)
    have H2 := H.more G.more
    simp only [wk_skip, wk_region, wk_seq, wk_block, wk_cond, wk_exit, wk_ret, wk_draw, cnd_true, cnd_false, fin_nil, fin_seq, fin_seq_exit, fin_seq_ret, fin_seq_panic, fin_block, fin_block_exit, fin_block_ret, fin_block_panic, fin_loop, fin_loop_exit, fin_loop_ret, fin_loop_panic, ops_nil, ops_cons, ops_guard, res_val, res_new, main_nil, main_cons, main_guard, mres_val, mres_new, AOp.ev, AOpd.ev, evAll, evParts, evOpt, put_get, put_none, wantA, ARes.ofOpt, tmOf, List.getD_cons_zero, List.getD_cons_succ, Nat.reduceEqDiff, if_true, if_false, reduceIte, Nat.reduceAdd, Nat.reduceMul, binA, intOp, eqOp, nilOf, lenA_slice, callA, AV.cells, undefA, Option.map_some, Option.map_none, Bool.false_eq_true, reduceCtorEq, beq_false, beq_true, g_true, g_false, mg_true, mg_false, Bool.not_true, Bool.not_false, decide_true, decide_false, not_true_eq_false, not_false_eq_true, List.nil_append, List.cons_append, List.append_nil, Option.isNone_some, Option.isNone_none, List.getElem?_cons_zero, List.getElem?_cons_succ, t7, hlen]
    refine cond_dec (fun hi => ?_) (fun hi => ?_)
    · have hpos : 0 < list.length := by omega
      obtain ⟨pre, last, rfl⟩ : ∃ pre last, list = pre ++ [last] := ⟨list.dropLast, list.getLast (List.length_pos_iff.1 hpos), (List.dropLast_concat_getLast _).symm⟩
      have hll : (pre ++ [last]).length = pre.length + 1 := by simp
      have wrl : IntKind.i64.wrap (((pre ++ [last]).length : Int) - 1) = (pre.length : Int) := by rw [wrap64 (by omega) (by omega), hll]; omega
      obtain ⟨c, o, g1, _, g2⟩ := G.at_.get pre.length (by simp) .i64
      have g2' : loadA h2 none (.ptr (some (c, o))) = .val (.int .i64 last) h2 := by rw [g2]; simp
      obtain ⟨v', s1, G'⟩ := G.upto pre.length (n := pre.length + 1) (by simp) (by omega) (by omega) .i64
      have hpre : (List.map (AV.int IntKind.i64) (pre ++ [last])).take (pre.length * 1) = pre.map (.int .i64) := by rw [Nat.mul_one]; simp
      rw [hpre] at G'
      have hM3 : blkOf v' ≠ some M' := fun e => by
        obtain ⟨_, ds, e2⟩ := G'.own M' e
        obtain ⟨es, ck, e3, _⟩ := im.out
        rw [e2] at e3; cases e3
      -- it is passed over
      have pass : (last = 0 ∨ last ∈ seen) → ∀ tm' : TM, tm' 0 = .ptr (some (b, 0)) → tm' 6 = .map (some M') → tm' 7 = v' →
          ∃ k', k' < k ∧ ([] : List ADef) = [] ∧ tm' 0 = .ptr (some (b, 0)) ∧ tm' 6 = .map (some M') ∧ ∃ (lv : AV) (seen list : List Int), tm' 7 = lv ∧ Grown h h2 1 lv (list.map (.int .i64)) ∧ IMap h2 M' (seen.map fun n => (n, .bool true)) ∧
            MarkI (obsOf os) roots seen list ∧ k' = 2 * unseen (obsOf os) seen + list.length ∧ k' ≤ 2 * totOb (obsOf os) + roots.length := fun hz tm' u0 u6 u7 => by
        refine ⟨k - 1, by omega, rfl, u0, u6, v', seen, pre, u7, G', im, ⟨fun r hr => mi.s1 r (by simp [hr]), mi.s2, fun r hr h0 => ?_, fun o ho hs j c hr hc => ?_, mi.nd⟩, by simp at hk; omega, by omega⟩
        · rcases mi.c1 r hr h0 with h | h
          · exact .inl h
          · rcases List.mem_append.1 h with h | h
            · exact .inr h
            · simp at h; subst h
              rcases hz with hz | hz
              · exact absurd hz h0
              · exact .inl hz
        · rcases mi.c2 o ho hs j c hr hc with h | h | h
          · exact .inl h
          · exact .inr (.inl h)
          · rcases List.mem_append.1 h with h | h
            · exact .inr (.inr h)
            · simp at h
              rcases hz with hz | hz
              · exact .inl (by omega)
              · exact .inr (.inl (h ▸ hz))
      simp only [wk_skip, wk_region, wk_seq, wk_block, wk_cond, wk_exit, wk_ret, wk_draw, cnd_true, cnd_false, fin_nil, fin_seq, fin_seq_exit, fin_seq_ret, fin_seq_panic, fin_block, fin_block_exit, fin_block_ret, fin_block_panic, fin_loop, fin_loop_exit, fin_loop_ret, fin_loop_panic, ops_nil, ops_cons, ops_guard, res_val, res_new, main_nil, main_cons, main_guard, mres_val, mres_new, AOp.ev, AOpd.ev, evAll, evParts, evOpt, put_get, put_none, wantA, ARes.ofOpt, tmOf, List.getD_cons_zero, List.getD_cons_succ, Nat.reduceEqDiff, if_true, if_false, reduceIte, Nat.reduceAdd, Nat.reduceMul, binA, intOp, eqOp, nilOf, lenA_slice, callA, AV.cells, undefA, Option.map_some, Option.map_none, Bool.false_eq_true, reduceCtorEq, beq_false, beq_true, g_true, g_false, mg_true, mg_false, Bool.not_true, Bool.not_false, decide_true, decide_false, not_true_eq_false, not_false_eq_true, List.nil_append, List.cons_append, List.append_nil, Option.isNone_some, Option.isNone_none, List.getElem?_cons_zero, List.getElem?_cons_succ, t7, hlen, wrl, g1, g2', s1]
      refine g_ndec (fun h0 => ?_) (fun h0 => ?_)
      · by_cases hseen : last ∈ seen
        · have hlk := im.hit (n := last) (v := .bool true) (List.mem_map.2 ⟨last, hseen, rfl⟩) (.bool false) false
          simp only [wk_skip, wk_region, wk_seq, wk_block, wk_cond, wk_exit, wk_ret, wk_draw, cnd_true, cnd_false, fin_nil, fin_seq, fin_seq_exit, fin_seq_ret, fin_seq_panic, fin_block, fin_block_exit, fin_block_ret, fin_block_panic, fin_loop, fin_loop_exit, fin_loop_ret, fin_loop_panic, ops_nil, ops_cons, ops_guard, res_val, res_new, main_nil, main_cons, main_guard, mres_val, mres_new, AOp.ev, AOpd.ev, evAll, evParts, evOpt, put_get, put_none, wantA, ARes.ofOpt, tmOf, List.getD_cons_zero, List.getD_cons_succ, Nat.reduceEqDiff, if_true, if_false, reduceIte, Nat.reduceAdd, Nat.reduceMul, binA, intOp, eqOp, nilOf, lenA_slice, callA, AV.cells, undefA, Option.map_some, Option.map_none, Bool.false_eq_true, reduceCtorEq, beq_false, beq_true, g_true, g_false, mg_true, mg_false, Bool.not_true, Bool.not_false, decide_true, decide_false, not_true_eq_false, not_false_eq_true, List.nil_append, List.cons_append, List.append_nil, Option.isNone_some, Option.isNone_none, List.getElem?_cons_zero, List.getElem?_cons_succ, h0, t6, keyOk_int, hlk, outA]
          refine meet (pass (.inr hseen) _ ?_ ?_ ?_)
          all_goals simp [TM.put, t0, t6]
        · have hno : ∀ p ∈ (seen.map fun n => (n, AV.bool true)), p.1 ≠ last := fun p hp => by
            obtain ⟨n, hn, rfl⟩ := List.mem_map.1 hp
            exact fun e => hseen (e ▸ hn)
          have hlk := im.miss hno (.bool false) false
          obtain ⟨m, rfl, hrch⟩ : ∃ m : Nat, last = m ∧ RchN (obsOf os) roots m := by
            rcases mi.s1 last (by simp) with h | h
            · exact absurd h h0
            · exact h
          obtain ⟨ob, hob, rfl⟩ := hrch.mem
          obtain ⟨x, hx, rfl⟩ := of_obs hob
          obtain ⟨mx, p1, im2⟩ := im.put hno (.bool true)
          have hsn : (seen.map fun n => (n, AV.bool true)) ++ [((x.ob.name : Int), AV.bool true)] = (seen ++ [(x.ob.name : Int)]).map fun n => (n, AV.bool true) := by simp
          rw [hsn] at im2
          have G2 : Grown h (h2.upd M' mx) 1 v' (pre.map (.int .i64)) := G'.other hM' hM3 mx
          have H3 := H.more G2.more
          have hsame := g.same _ hob
          have hlr := (H3.refs x hx).len x.ob.refs.length (by simp) (by omega)
          have hsm := g.small hob
          have hua := unseen_add g.names hob hseen
          simp only [wk_skip, wk_region, wk_seq, wk_block, wk_cond, wk_exit, wk_ret, wk_draw, cnd_true, cnd_false, fin_nil, fin_seq, fin_seq_exit, fin_seq_ret, fin_seq_panic, fin_block, fin_block_exit, fin_block_ret, fin_block_panic, fin_loop, fin_loop_exit, fin_loop_ret, fin_loop_panic, ops_nil, ops_cons, ops_guard, res_val, res_new, main_nil, main_cons, main_guard, mres_val, mres_new, AOp.ev, AOpd.ev, evAll, evParts, evOpt, put_get, put_none, wantA, ARes.ofOpt, tmOf, List.getD_cons_zero, List.getD_cons_succ, Nat.reduceEqDiff, if_true, if_false, reduceIte, Nat.reduceAdd, Nat.reduceMul, binA, intOp, eqOp, nilOf, lenA_slice, callA, AV.cells, undefA, Option.map_some, Option.map_none, Bool.false_eq_true, reduceCtorEq, beq_false, beq_true, g_true, g_false, mg_true, mg_false, Bool.not_true, Bool.not_false, decide_true, decide_false, not_true_eq_false, not_false_eq_true, List.nil_append, List.cons_append, List.append_nil, Option.isNone_some, Option.isNone_none, List.getElem?_cons_zero, List.getElem?_cons_succ, h0, t0, t6, keyOk_int, hlk, outA, p1, nilCheck_ptr, H3.ld.1, H3.hit hx, (H3.ob hx).2, hlr]
          · refine wk_loop (fun k2 tm ds h4 => ds = [] ∧ tm 0 = .ptr (some (b, 0)) ∧ tm 6 = .map (some M') ∧ tm 13 = .ptr (some (x.blk, 0)) ∧ tm 73 = x.rv ∧ tm 74 = .int .i64 x.ob.refs.length ∧ ∃ (i : Nat) (lv : AV), tm 75 = .int .i64 i ∧ i + k2 = x.ob.refs.length ∧ tm 7 = lv ∧
              Grown h h4 1 lv ((pre ++ pushed x.ob i).map (.int .i64)) ∧ IMap h4 M' ((seen ++ [(x.ob.name : Int)]).map fun n => (n, .bool true))) x.ob.refs.length
              ⟨rfl, by simp [TM.put, t0], by simp [TM.put, t6], by simp [TM.put], by simp [TM.put], by simp [TM.put], 0, v', by simp [TM.put], by simp, by simp [TM.put], by simpa [pushed] using G2, im2⟩ ?_
            clear t0 t6 t7 tm
            rintro k2 tm ds h4 ⟨rfl, t0, t6, t13, t73, t74, i, lv2, t75, hk2, t7, G4, im4⟩
            simp only [wk_skip, wk_region, wk_seq, wk_block, wk_cond, wk_exit, wk_ret, wk_draw, cnd_true, cnd_false, fin_nil, fin_seq, fin_seq_exit, fin_seq_ret, fin_seq_panic, fin_block, fin_block_exit, fin_block_ret, fin_block_panic, fin_loop, fin_loop_exit, fin_loop_ret, fin_loop_panic, ops_nil, ops_cons, ops_guard, res_val, res_new, main_nil, main_cons, main_guard, mres_val, mres_new, AOp.ev, AOpd.ev, evAll, evParts, evOpt, put_get, put_none, wantA, ARes.ofOpt, tmOf, List.getD_cons_zero, List.getD_cons_succ, Nat.reduceEqDiff, if_true, if_false, reduceIte, Nat.reduceAdd, Nat.reduceMul, binA, intOp, eqOp, nilOf, lenA_slice, callA, AV.cells, undefA, Option.map_some, Option.map_none, Bool.false_eq_true, reduceCtorEq, beq_false, beq_true, g_true, g_false, mg_true, mg_false, Bool.not_true, Bool.not_false, decide_true, decide_false, not_true_eq_false, not_false_eq_true, List.nil_append, List.cons_append, List.append_nil, Option.isNone_some, Option.isNone_none, List.getElem?_cons_zero, List.getElem?_cons_succ, t74, t75]
            refine cond_dec (fun hi2 => ?_) (fun hi2 => ?_)
            · have hi' : i < x.ob.refs.length := by omega
              have hic : i < x.ob.cells.length := by omega
              have H4 := H.more G4.more
              have wri : IntKind.i64.wrap ((i : Int) + 1) = ((i + 1 : Nat) : Int) := by rw [wrap64 (by omega) (by omega)]; rfl
              obtain ⟨c1, o1, j1, _, j2⟩ := (H4.refs x hx).get i (by simpa using hi') .i64
              simp only [List.getElem_map] at j2
              have hps := pushed_succ x.ob i hic hi'
              have hpl := pushed_len x.ob i
              simp only [wk_skip, wk_region, wk_seq, wk_block, wk_cond, wk_exit, wk_ret, wk_draw, cnd_true, cnd_false, fin_nil, fin_seq, fin_seq_exit, fin_seq_ret, fin_seq_panic, fin_block, fin_block_exit, fin_block_ret, fin_block_panic, fin_loop, fin_loop_exit, fin_loop_ret, fin_loop_panic, ops_nil, ops_cons, ops_guard, res_val, res_new, main_nil, main_cons, main_guard, mres_val, mres_new, AOp.ev, AOpd.ev, evAll, evParts, evOpt, put_get, put_none, wantA, ARes.ofOpt, tmOf, List.getD_cons_zero, List.getD_cons_succ, Nat.reduceEqDiff, if_true, if_false, reduceIte, Nat.reduceAdd, Nat.reduceMul, binA, intOp, eqOp, nilOf, lenA_slice, callA, AV.cells, undefA, Option.map_some, Option.map_none, Bool.false_eq_true, reduceCtorEq, beq_false, beq_true, g_true, g_false, mg_true, mg_false, Bool.not_true, Bool.not_false, decide_true, decide_false, not_true_eq_false, not_false_eq_true, List.nil_append, List.cons_append, List.append_nil, Option.isNone_some, Option.isNone_none, List.getElem?_cons_zero, List.getElem?_cons_succ, t73, t75, j1, j2]
              cases hr : x.ob.refs[i] with
              | false =>
                simp only [wk_skip, wk_region, wk_seq, wk_block, wk_cond, wk_exit, wk_ret, wk_draw, cnd_true, cnd_false, fin_nil, fin_seq, fin_seq_exit, fin_seq_ret, fin_seq_panic, fin_block, fin_block_exit, fin_block_ret, fin_block_panic, fin_loop, fin_loop_exit, fin_loop_ret, fin_loop_panic, ops_nil, ops_cons, ops_guard, res_val, res_new, main_nil, main_cons, main_guard, mres_val, mres_new, AOp.ev, AOpd.ev, evAll, evParts, evOpt, put_get, put_none, wantA, ARes.ofOpt, tmOf, List.getD_cons_zero, List.getD_cons_succ, Nat.reduceEqDiff, if_true, if_false, reduceIte, Nat.reduceAdd, Nat.reduceMul, binA, intOp, eqOp, nilOf, lenA_slice, callA, AV.cells, undefA, Option.map_some, Option.map_none, Bool.false_eq_true, reduceCtorEq, beq_false, beq_true, g_true, g_false, mg_true, mg_false, Bool.not_true, Bool.not_false, decide_true, decide_false, not_true_eq_false, not_false_eq_true, List.nil_append, List.cons_append, List.append_nil, Option.isNone_some, Option.isNone_none, List.getElem?_cons_zero, List.getElem?_cons_succ, t75, wri]
                refine meet ⟨k2 - 1, by omega, rfl, by simp [TM.put, t0], by simp [TM.put, t6], by simp [TM.put, t13], by simp [TM.put, t73], by simp [TM.put, t74], i + 1, lv2, by simp [TM.put], by omega, by simp [TM.put, t7], ?_, im4⟩
                rw [hps, hr]; simpa using G4
              | true =>
                obtain ⟨c2, o2, l1, _, l2⟩ := (H4.cells x hx).get i (by simpa using hic) .i64
                simp only [List.getElem_map] at l2
                have hcl := g.closed _ hob i x.ob.cells[i] (by simp [hr, hi']) (by simp [hic])
                have hcb : x.ob.cells[i] ≤ 65536 := by
                  rcases hcl with h | ⟨y, hy, e⟩
                  · omega
                  · have := g.few y hy; omega
                have wrc : IntKind.i64.wrap (x.ob.cells[i] : Int) = x.ob.cells[i] := wrap64 (by omega) (by omega)
                have hM4 : blkOf lv2 ≠ some M' := fun e => by
                  obtain ⟨_, ds, e2⟩ := G4.own M' e
                  obtain ⟨es, ck, e3, _⟩ := im4.out
                  rw [e2] at e3; cases e3
                simp only [wk_skip, wk_region, wk_seq, wk_block, wk_cond, wk_exit, wk_ret, wk_draw, cnd_true, cnd_false, fin_nil, fin_seq, fin_seq_exit, fin_seq_ret, fin_seq_panic, fin_block, fin_block_exit, fin_block_ret, fin_block_panic, fin_loop, fin_loop_exit, fin_loop_ret, fin_loop_panic, ops_nil, ops_cons, ops_guard, res_val, res_new, main_nil, main_cons, main_guard, mres_val, mres_new, AOp.ev, AOpd.ev, evAll, evParts, evOpt, put_get, put_none, wantA, ARes.ofOpt, tmOf, List.getD_cons_zero, List.getD_cons_succ, Nat.reduceEqDiff, if_true, if_false, reduceIte, Nat.reduceAdd, Nat.reduceMul, binA, intOp, eqOp, nilOf, lenA_slice, callA, AV.cells, undefA, Option.map_some, Option.map_none, Bool.false_eq_true, reduceCtorEq, beq_false, beq_true, g_true, g_false, mg_true, mg_false, Bool.not_true, Bool.not_false, decide_true, decide_false, not_true_eq_false, not_false_eq_true, List.nil_append, List.cons_append, List.append_nil, Option.isNone_some, Option.isNone_none, List.getElem?_cons_zero, List.getElem?_cons_succ, t7, t13, nilCheck_ptr, (H4.ob hx).1, l1, l2, wrc, fill_int]
                intro nb hnb
                refine res_append (bytes := 8) (G4.grow (More.upd hnb _)) (slice_one rfl) (by omega) (by simp at hk ⊢; omega) (by omega) (by simp [AV.oneCell]) rfl ?_
                intro lv3 h5 G5 d5 k5 o5
                simp only [wk_skip, wk_region, wk_seq, wk_block, wk_cond, wk_exit, wk_ret, wk_draw, cnd_true, cnd_false, fin_nil, fin_seq, fin_seq_exit, fin_seq_ret, fin_seq_panic, fin_block, fin_block_exit, fin_block_ret, fin_block_panic, fin_loop, fin_loop_exit, fin_loop_ret, fin_loop_panic, ops_nil, ops_cons, ops_guard, res_val, res_new, main_nil, main_cons, main_guard, mres_val, mres_new, AOp.ev, AOpd.ev, evAll, evParts, evOpt, put_get, put_none, wantA, ARes.ofOpt, tmOf, List.getD_cons_zero, List.getD_cons_succ, Nat.reduceEqDiff, if_true, if_false, reduceIte, Nat.reduceAdd, Nat.reduceMul, binA, intOp, eqOp, nilOf, lenA_slice, callA, AV.cells, undefA, Option.map_some, Option.map_none, Bool.false_eq_true, reduceCtorEq, beq_false, beq_true, g_true, g_false, mg_true, mg_false, Bool.not_true, Bool.not_false, decide_true, decide_false, not_true_eq_false, not_false_eq_true, List.nil_append, List.cons_append, List.append_nil, Option.isNone_some, Option.isNone_none, List.getElem?_cons_zero, List.getElem?_cons_succ, t75, wri]
                have hMnb : M' ≠ nb := fun e => im4.some_ (e ▸ hnb)
                refine meet ⟨k2 - 1, by omega, rfl, by simp [TM.put, t0], by simp [TM.put, t6], by simp [TM.put, t13], by simp [TM.put, t73], by simp [TM.put, t74], i + 1, lv3, by simp [TM.put], by omega, by simp [TM.put], ?_, ?_⟩
                · rw [hps, hr]; simpa using G5
                · refine im4.keep ?_
                  rw [k5 M' (by rw [AHeap.upd_other _ _ hMnb]; exact im4.some_) hM4, AHeap.upd_other _ _ hMnb]
            · have : i = x.ob.cells.length := by omega
              subst this
              have hpl := pushed_len x.ob x.ob.cells.length
              have hsz : sizeOb x.ob = 1 + x.ob.cells.length := rfl
              simp only [wk_skip, wk_region, wk_seq, wk_block, wk_cond, wk_exit, wk_ret, wk_draw, cnd_true, cnd_false, fin_nil, fin_seq, fin_seq_exit, fin_seq_ret, fin_seq_panic, fin_block, fin_block_exit, fin_block_ret, fin_block_panic, fin_loop, fin_loop_exit, fin_loop_ret, fin_loop_panic, ops_nil, ops_cons, ops_guard, res_val, res_new, main_nil, main_cons, main_guard, mres_val, mres_new, AOp.ev, AOpd.ev, evAll, evParts, evOpt, put_get, put_none, wantA, ARes.ofOpt, tmOf, List.getD_cons_zero, List.getD_cons_succ, Nat.reduceEqDiff, if_true, if_false, reduceIte, Nat.reduceAdd, Nat.reduceMul, binA, intOp, eqOp, nilOf, lenA_slice, callA, AV.cells, undefA, Option.map_some, Option.map_none, Bool.false_eq_true, reduceCtorEq, beq_false, beq_true, g_true, g_false, mg_true, mg_false, Bool.not_true, Bool.not_false, decide_true, decide_false, not_true_eq_false, not_false_eq_true, List.nil_append, List.cons_append, List.append_nil, Option.isNone_some, Option.isNone_none, List.getElem?_cons_zero, List.getElem?_cons_succ]
              simp only [List.length_append, List.length_cons, List.length_nil] at hk
              refine meet ⟨_, ?_, rfl, t0, t6, lv2, seen ++ [(x.ob.name : Int)], pre ++ pushed x.ob x.ob.cells.length, t7, G4, im4, ⟨fun r hr => ?_, fun r hr => ?_, fun r hr hr0 => ?_, fun o ho hs j c hr hc => ?_, ?_⟩, rfl, ?_⟩
              · simp only [List.length_append]; omega
              · rcases List.mem_append.1 hr with hr | hr
                · exact mi.s1 r (by simp [hr])
                · obtain ⟨j, c, q1, q2, rfl⟩ := pushed_mem hr
                  rcases g.closed _ hob j c q1 q2 with h | ⟨y, hy, rfl⟩
                  · exact .inl (by omega)
                  · exact .inr ⟨_, rfl, .step x.ob y j hrch hob hy q1 q2⟩
              · rcases List.mem_append.1 hr with hr | hr
                · exact mi.s2 r hr
                · simp at hr; exact ⟨_, hr, hrch⟩
              · rcases mi.c1 r hr hr0 with h | h
                · exact .inl (by simp [h])
                · rcases List.mem_append.1 h with h | h
                  · exact .inr (by simp [h])
                  · exact .inl (by simp at h; simp [h])
              · by_cases e : o = x.ob
                · subst e
                  exact .inr (.inr (List.mem_append.2 (.inr (mem_pushed hsame hr hc (Nat.le_refl _)))))
                · have hs' : (o.name : Int) ∈ seen := by
                    rcases List.mem_append.1 hs with h | h
                    · exact h
                    · simp at h
                      exact absurd (g.inj ho hob (by omega)) e
                  rcases mi.c2 o ho hs' j c hr hc with h | h | h
                  · exact .inl h
                  · exact .inr (.inl (by simp [h]))
                  · rcases List.mem_append.1 h with h | h
                    · exact .inr (.inr (by simp [h]))
                    · exact .inr (.inl (by simp at h; simp [h]))
              · rw [List.nodup_append]
                exact ⟨mi.nd, by simp, fun a ha b hb => by simp at hb; subst hb; exact fun e => hseen (e ▸ ha)⟩
              · simp only [List.length_append]; omega
      · subst h0
        simp only [wk_skip, wk_region, wk_seq, wk_block, wk_cond, wk_exit, wk_ret, wk_draw, cnd_true, cnd_false, fin_nil, fin_seq, fin_seq_exit, fin_seq_ret, fin_seq_panic, fin_block, fin_block_exit, fin_block_ret, fin_block_panic, fin_loop, fin_loop_exit, fin_loop_ret, fin_loop_panic, ops_nil, ops_cons, ops_guard, res_val, res_new, main_nil, main_cons, main_guard, mres_val, mres_new, AOp.ev, AOpd.ev, evAll, evParts, evOpt, put_get, put_none, wantA, ARes.ofOpt, tmOf, List.getD_cons_zero, List.getD_cons_succ, Nat.reduceEqDiff, if_true, if_false, reduceIte, Nat.reduceAdd, Nat.reduceMul, binA, intOp, eqOp, nilOf, lenA_slice, callA, AV.cells, undefA, Option.map_some, Option.map_none, Bool.false_eq_true, reduceCtorEq, beq_false, beq_true, g_true, g_false, mg_true, mg_false, Bool.not_true, Bool.not_false, decide_true, decide_false, not_true_eq_false, not_false_eq_true, List.nil_append, List.cons_append, List.append_nil, Option.isNone_some, Option.isNone_none, List.getElem?_cons_zero, List.getElem?_cons_succ]
        refine meet (pass (.inl rfl) _ ?_ ?_ ?_)
        all_goals simp [TM.put, t0, t6]
    · have hnil : list = [] := List.eq_nil_of_length_eq_zero (by omega)
      subst hnil
      simp only [wk_skip, wk_region, wk_seq, wk_block, wk_cond, wk_exit, wk_ret, wk_draw, cnd_true, cnd_false, fin_nil, fin_seq, fin_seq_exit, fin_seq_ret, fin_seq_panic, fin_block, fin_block_exit, fin_block_ret, fin_block_panic, fin_loop, fin_loop_exit, fin_loop_ret, fin_loop_panic, ops_nil, ops_cons, ops_guard, res_val, res_new, main_nil, main_cons, main_guard, mres_val, mres_new, AOp.ev, AOpd.ev, evAll, evParts, evOpt, put_get, put_none, wantA, ARes.ofOpt, tmOf, List.getD_cons_zero, List.getD_cons_succ, Nat.reduceEqDiff, if_true, if_false, reduceIte, Nat.reduceAdd, Nat.reduceMul, binA, intOp, eqOp, nilOf, lenA_slice, callA, AV.cells, undefA, Option.map_some, Option.map_none, Bool.false_eq_true, reduceCtorEq, beq_false, beq_true, g_true, g_false, mg_true, mg_false, Bool.not_true, Bool.not_false, decide_true, decide_false, not_true_eq_false, not_false_eq_true, List.nil_append, List.cons_append, List.append_nil, Option.isNone_some, Option.isNone_none, List.getElem?_cons_zero, List.getElem?_cons_succ, t6]
      exact fnEnd_ret2 ⟨G.more, .inr ⟨hkn, M', seen, by simp [TM.put], hM', im, mi.end_ g.pos⟩⟩
end Go.Proofs.Ytnkdjfmidiffdaa
