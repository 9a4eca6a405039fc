/-
  Part of the proofs about the heap: an abstract memory, its compiled code, and the contracts of the functions over it.
  Conditions: each theorem names its own.
-/
import Derived.Test.YtnkdjfmidiffdaaH1
set_option linter.unusedSimpArgs false
set_option linter.unusedVariables false
namespace Go.Proofs.Ytnkdjfmidiffdaa
open Go Go.Proofs Go.Am
variable {N : Nat}

/-- A new list's role. -/
def roleL (ρ : Nat → Nat) (v : AV) : Nat → Nat := fun c => if blkOf v = some c then 2 else ρ c

/-- Another list of objects is hung in. -/
theorem WRep.swap {h h1 : AHeap} {b : Nat} {L : AV} {B : Int} {xs ys : List Row} {ρ : Nat → Nat} (W : WIn h b L B xs) (O : WOwn h b L xs ρ) {lv : AV} (G : Grown h h1 3 lv (rowsOf ys)) (hsub : ∀ x ∈ ys, x ∈ xs)
    (hs : (ys.map fun x => x.1.name).Pairwise (· < ·)) (hf : ys.length ≤ 65536) :
    WRep (h1.upd b (.cells [lv, .int .i64 B] false)) b B ys (roleL ρ lv) ∧ Off ρ h (h1.upd b (.cells [lv, .int .i64 B] false)) ∧ ∀ c, roleL ρ lv c ≠ 0 → ρ c ≠ 0 ∨ h c = none := by
  have hb : h b ≠ none := by rw [W.top]; simp
  have lvb : ∀ c, blkOf lv = some c → c ≠ b := fun c hc e => hb (e ▸ (G.own c hc).1)
  have old : ∀ c, ρ c ≠ 0 → ρ c ≠ 1 → (h1.upd b (.cells [lv, .int .i64 B] false)) c = h c ∧ blkOf lv ≠ some c := fun c h0 h1' => by
    refine ⟨?_, fun e => O.dom c h0 (G.own c e).1⟩
    rw [AHeap.upd_other _ _ fun e => h1' (by rw [e]; exact O.top)]
    exact G.more c (O.dom c h0)
  have celR : ∀ x ∈ xs, ∀ c, blkOf x.2.1 = some c → (h1.upd b (.cells [lv, .int .i64 B] false)) c = h c ∧ blkOf lv ≠ some c := fun x hx c hc => by
    have := (O.cel x hx c hc).1
    exact old c (by omega) (by omega)
  have rfsR : ∀ x ∈ xs, ∀ c, blkOf x.2.2 = some c → (h1.upd b (.cells [lv, .int .i64 B] false)) c = h c ∧ blkOf lv ≠ some c := fun x hx c hc => by
    have := O.rfs x hx c hc
    exact old c (by omega) (by omega)
  refine ⟨⟨lv, ⟨AHeap.upd_same _ _ _, ?_, fun x hx => ?_, fun x hx => ?_, fun x hx => W.same x (hsub x hx), hf, fun x hx => W.small x (hsub x hx)⟩, ⟨?_, fun c hc => ?_, fun x hx c hc => ?_, fun x hx c hc => ?_, fun c hc => ?_, hs, fun x hx => O.pos x (hsub x hx)⟩⟩, fun c h0 hc => ?_, fun c hc => ?_⟩
  · exact G.at_.keep fun c hc => AHeap.upd_other _ _ (lvb c hc)
  · exact (W.cells x (hsub x hx)).keep fun c hc => (celR x (hsub x hx) c hc).1
  · exact (W.refs x (hsub x hx)).keep fun c hc => (rfsR x (hsub x hx) c hc).1
  · unfold roleL; rw [if_neg fun e => lvb b e rfl]; exact O.top
  · refine ⟨by unfold roleL; rw [if_pos hc], ?_⟩
    rw [AHeap.upd_other _ _ (lvb c hc)]; exact (G.own c hc).2
  · obtain ⟨e1, e2⟩ := celR x (hsub x hx) c hc
    obtain ⟨h1', h2⟩ := O.cel x (hsub x hx) c hc
    exact ⟨by unfold roleL; rw [if_neg e2]; exact h1', by rw [e1]; exact h2⟩
  · obtain ⟨e1, e2⟩ := rfsR x (hsub x hx) c hc
    unfold roleL; rw [if_neg e2]; exact O.rfs x (hsub x hx) c hc
  · by_cases e : c = b
    · subst e; rw [AHeap.upd_same]; simp
    · rw [AHeap.upd_other _ _ e]
      unfold roleL at hc
      split at hc
      · rename_i e'
        obtain ⟨_, ds, h2⟩ := G.own c e'
        rw [h2]; simp
      · rw [G.more c (O.dom c hc)]; exact O.dom c hc
  · rw [AHeap.upd_other _ _ fun e => by rw [e, O.top] at h0; cases h0]
    exact G.more c hc
  · unfold roleL at hc
    split at hc
    · rename_i e'; exact .inr (G.own c e').1
    · exact .inl hc

/-- The objects that are marked. -/
def kept (xs : List Row) (on : List Bool) : List Row := ((xs.zip on).filter (·.2)).map (·.1)
theorem kept_sub {xs : List Row} {on : List Bool} : ∀ x ∈ kept xs on, x ∈ xs := by
  intro x hx
  obtain ⟨p, hp, rfl⟩ := List.mem_map.1 hx
  exact (List.of_mem_zip (List.mem_filter.1 hp).1).1
theorem kept_sublist {xs : List Row} {on : List Bool} (h : on.length = xs.length) : (kept xs on).Sublist xs := by
  have h1 : (kept xs on).Sublist ((xs.zip on).map (·.1)) := (List.filter_sublist).map _
  rw [List.map_fst_zip (by omega)] at h1
  exact h1

def CollectSaid (h0 h' : AHeap) (b : Nat) (B : Int) (xs : List Row) (ρ : Nat → Nat) (roots : List Int) (n : Int) (e : Int) : Prop :=
  (¬ Known xs roots ∧ n = 0 ∧ e = 15 ∧ h' = h0) ∨
  (Known xs roots ∧ e = 0 ∧ ∃ on : List Bool, on.length = xs.length ∧ (∀ k, on[k]? = some true ↔ Rch xs roots k) ∧ n = (xs.length : Int) - (kept xs on).length ∧
    ∃ ρ', WRep h' b B (kept xs on) ρ' ∧ Off ρ h0 h' ∧ ∀ c, ρ' c ≠ 0 → ρ c ≠ 0 ∨ h0 c = none)

theorem rowsOf_append (xs ys : List Row) : rowsOf (xs ++ ys) = rowsOf xs ++ rowsOf ys := by simp [rowsOf]
theorem rows_one {h : AHeap} {b : Nat} {L : AV} {B : Int} {xs : List Row} (W : WIn h b L B xs) {ys : List Row} (hs : ∀ x ∈ ys, x ∈ xs) : (rowsOf ys).all AV.oneCell = true := by
  simp only [rowsOf, List.all_flatMap, List.all_eq_true]
  intro x hx v hv
  simp only [List.mem_cons, List.not_mem_nil, or_false] at hv
  rcases hv with rfl | rfl | rfl
  · rfl
  · exact SliceAt_cell (W.cells x (hs x hx))
  · exact SliceAt_cell (W.refs x (hs x hx))

theorem collect_c {h : AHeap} {b : Nat} {B : Int} {xs : List Row} {ρ : Nat → Nat} (R : WRep h b B xs ρ) {v : AV} {roots : List Int} (H : Ints h v roots) (hl : roots.length ≤ 4294967296) :
    ACalls Try.prog N 42 [.ptr (some (b, 0)), v] h (fun e h' => ∃ (n er : Int), e = .ret (.tuple [.int .i64 n, .int .i64 er]) ∧ CollectSaid h h' b B xs ρ roots n er) := by
  obtain ⟨L, W, O⟩ := R
  refine acalls_of_wp c42_ok mixed (by show 2 ≤ 53; decide) (wk_start ?_)
  unfold c42
  have few := W.few
  simp only [wk_skip, wk_region, wk_seq, wk_block, wk_cond, wk_exit, wk_ret, wk_draw, cnd_true, cnd_false, fin_nil, fin_seq, fin_seq_exit, fin_seq_ret, fin_seq_panic, fin_block, fin_block_exit, fin_block_ret, fin_block_panic, fin_loop, fin_loop_exit, fin_loop_ret, fin_loop_panic, ops_nil, ops_cons, ops_guard, res_val, res_new, main_nil, main_cons, main_guard, mres_val, mres_new, AOp.ev, AOpd.ev, evAll, evParts, evOpt, put_get, put_none, wantA, ARes.ofOpt, tmOf, List.getD_cons_zero, List.getD_cons_succ, Nat.reduceEqDiff, if_true, if_false, reduceIte, Nat.reduceAdd, Nat.reduceMul, binA, intOp, eqOp, nilOf, lenA_slice, callA, AV.cells, undefA, Option.map_some, Option.map_none, Bool.false_eq_true, reduceCtorEq, beq_false, beq_true, g_true, g_false, mg_true, mg_false, Bool.not_true, Bool.not_false, decide_true, decide_false, not_true_eq_false, not_false_eq_true, List.nil_append, List.cons_append, List.append_nil, Option.isNone_some, Option.isNone_none, List.getElem?_cons_zero, List.getElem?_cons_succ]
  refine res_call (known_c W H hl) ?_ ?_
  · rintro u h2 ⟨rfl, q, e, hq⟩
    cases e
    simp only [wk_skip, wk_region, wk_seq, wk_block, wk_cond, wk_exit, wk_ret, wk_draw, cnd_true, cnd_false, fin_nil, fin_seq, fin_seq_exit, fin_seq_ret, fin_seq_panic, fin_block, fin_block_exit, fin_block_ret, fin_block_panic, fin_loop, fin_loop_exit, fin_loop_ret, fin_loop_panic, ops_nil, ops_cons, ops_guard, res_val, res_new, main_nil, main_cons, main_guard, mres_val, mres_new, AOp.ev, AOpd.ev, evAll, evParts, evOpt, put_get, put_none, wantA, ARes.ofOpt, tmOf, List.getD_cons_zero, List.getD_cons_succ, Nat.reduceEqDiff, if_true, if_false, reduceIte, Nat.reduceAdd, Nat.reduceMul, binA, intOp, eqOp, nilOf, lenA_slice, callA, AV.cells, undefA, Option.map_some, Option.map_none, Bool.false_eq_true, reduceCtorEq, beq_false, beq_true, g_true, g_false, mg_true, mg_false, Bool.not_true, Bool.not_false, decide_true, decide_false, not_true_eq_false, not_false_eq_true, List.nil_append, List.cons_append, List.append_nil, Option.isNone_some, Option.isNone_none, List.getElem?_cons_zero, List.getElem?_cons_succ]
    cases q with
    | false =>
      simp only [wk_skip, wk_region, wk_seq, wk_block, wk_cond, wk_exit, wk_ret, wk_draw, cnd_true, cnd_false, fin_nil, fin_seq, fin_seq_exit, fin_seq_ret, fin_seq_panic, fin_block, fin_block_exit, fin_block_ret, fin_block_panic, fin_loop, fin_loop_exit, fin_loop_ret, fin_loop_panic, ops_nil, ops_cons, ops_guard, res_val, res_new, main_nil, main_cons, main_guard, mres_val, mres_new, AOp.ev, AOpd.ev, evAll, evParts, evOpt, put_get, put_none, wantA, ARes.ofOpt, tmOf, List.getD_cons_zero, List.getD_cons_succ, Nat.reduceEqDiff, if_true, if_false, reduceIte, Nat.reduceAdd, Nat.reduceMul, binA, intOp, eqOp, nilOf, lenA_slice, callA, AV.cells, undefA, Option.map_some, Option.map_none, Bool.false_eq_true, reduceCtorEq, beq_false, beq_true, g_true, g_false, mg_true, mg_false, Bool.not_true, Bool.not_false, decide_true, decide_false, not_true_eq_false, not_false_eq_true, List.nil_append, List.cons_append, List.append_nil, Option.isNone_some, Option.isNone_none, List.getElem?_cons_zero, List.getElem?_cons_succ]
      refine fnEnd_ret2 ⟨_, _, rfl, .inl ⟨fun hk => by simpa using hq.2 hk, by simp [TM.put], by simp [TM.put], rfl⟩⟩
    | true =>
      have hkn := hq.1 rfl
      simp only [wk_skip, wk_region, wk_seq, wk_block, wk_cond, wk_exit, wk_ret, wk_draw, cnd_true, cnd_false, fin_nil, fin_seq, fin_seq_exit, fin_seq_ret, fin_seq_panic, fin_block, fin_block_exit, fin_block_ret, fin_block_panic, fin_loop, fin_loop_exit, fin_loop_ret, fin_loop_panic, ops_nil, ops_cons, ops_guard, res_val, res_new, main_nil, main_cons, main_guard, mres_val, mres_new, AOp.ev, AOpd.ev, evAll, evParts, evOpt, put_get, put_none, wantA, ARes.ofOpt, tmOf, List.getD_cons_zero, List.getD_cons_succ, Nat.reduceEqDiff, if_true, if_false, reduceIte, Nat.reduceAdd, Nat.reduceMul, binA, intOp, eqOp, nilOf, lenA_slice, callA, AV.cells, undefA, Option.map_some, Option.map_none, Bool.false_eq_true, reduceCtorEq, beq_false, beq_true, g_true, g_false, mg_true, mg_false, Bool.not_true, Bool.not_false, decide_true, decide_false, not_true_eq_false, not_false_eq_true, List.nil_append, List.cons_append, List.append_nil, Option.isNone_some, Option.isNone_none, List.getElem?_cons_zero, List.getElem?_cons_succ]
      refine res_call (reached_c W H hl O.sorted) ?_ ?_
      · rintro u h3 ⟨cb, on, e, M, hon⟩
        cases e
        simp only [wk_skip, wk_region, wk_seq, wk_block, wk_cond, wk_exit, wk_ret, wk_draw, cnd_true, cnd_false, fin_nil, fin_seq, fin_seq_exit, fin_seq_ret, fin_seq_panic, fin_block, fin_block_exit, fin_block_ret, fin_block_panic, fin_loop, fin_loop_exit, fin_loop_ret, fin_loop_panic, ops_nil, ops_cons, ops_guard, res_val, res_new, main_nil, main_cons, main_guard, mres_val, mres_new, AOp.ev, AOpd.ev, evAll, evParts, evOpt, put_get, put_none, wantA, ARes.ofOpt, tmOf, List.getD_cons_zero, List.getD_cons_succ, Nat.reduceEqDiff, if_true, if_false, reduceIte, Nat.reduceAdd, Nat.reduceMul, binA, intOp, eqOp, nilOf, lenA_slice, callA, AV.cells, undefA, Option.map_some, Option.map_none, Bool.false_eq_true, reduceCtorEq, beq_false, beq_true, g_true, g_false, mg_true, mg_false, Bool.not_true, Bool.not_false, decide_true, decide_false, not_true_eq_false, not_false_eq_true, List.nil_append, List.cons_append, List.append_nil, Option.isNone_some, Option.isNone_none, List.getElem?_cons_zero, List.getElem?_cons_succ]
        refine wk_loop (fun k tm ds h' => ds = [] ∧ tm 0 = .ptr (some (b, 0)) ∧ tm 6 = .slice (some (cb, 0)) 1 xs.length xs.length true ∧ ∃ (i : Nat) (lv : AV), tm 8 = .int .i64 i ∧ i + k = xs.length ∧ tm 7 = lv ∧
          Grown h3 h' 3 lv (rowsOf ((((xs.zip on).take i).filter (·.2)).map (·.1)))) xs.length ⟨rfl, rfl, rfl, 0, _, rfl, by simp, rfl, Grown.nil (More.refl _) 3 0 true⟩ ?_
        rintro k tm ds h' ⟨rfl, t0, t6, i, lv, t8, hk, t7, G⟩
        have W' := W.more (M.more.trans G.more)
        simp only [wk_skip, wk_region, wk_seq, wk_block, wk_cond, wk_exit, wk_ret, wk_draw, cnd_true, cnd_false, fin_nil, fin_seq, fin_seq_exit, fin_seq_ret, fin_seq_panic, fin_block, fin_block_exit, fin_block_ret, fin_block_panic, fin_loop, fin_loop_exit, fin_loop_ret, fin_loop_panic, ops_nil, ops_cons, ops_guard, res_val, res_new, main_nil, main_cons, main_guard, mres_val, mres_new, AOp.ev, AOpd.ev, evAll, evParts, evOpt, put_get, put_none, wantA, ARes.ofOpt, tmOf, List.getD_cons_zero, List.getD_cons_succ, Nat.reduceEqDiff, if_true, if_false, reduceIte, Nat.reduceAdd, Nat.reduceMul, binA, intOp, eqOp, nilOf, lenA_slice, callA, AV.cells, undefA, Option.map_some, Option.map_none, Bool.false_eq_true, reduceCtorEq, beq_false, beq_true, g_true, g_false, mg_true, mg_false, Bool.not_true, Bool.not_false, decide_true, decide_false, not_true_eq_false, not_false_eq_true, List.nil_append, List.cons_append, List.append_nil, Option.isNone_some, Option.isNone_none, List.getElem?_cons_zero, List.getElem?_cons_succ, t0, t6, t7, t8, nilCheck_ptr, W'.ld0, W'.len]
        refine cond_dec (fun hi => ?_) (fun hi => ?_)
        · have hi' : i < xs.length := by omega
          have wri : IntKind.i64.wrap ((i : Int) + 1) = ((i + 1 : Nat) : Int) := by rw [wrap64 (by omega) (by omega)]; rfl
          have hon' : i < on.length := by rw [M.len]; exact hi'
          have at' := slice_more M.at_ G.more
          obtain ⟨a1, a2, m1, _, m2⟩ := at'.get i (by simpa using hon') .i64
          simp only [List.getElem_map] at m2
          obtain ⟨r1, r2, g1, _, _, _, g5⟩ := W'.row i hi'
          simp only [wk_skip, wk_region, wk_seq, wk_block, wk_cond, wk_exit, wk_ret, wk_draw, cnd_true, cnd_false, fin_nil, fin_seq, fin_seq_exit, fin_seq_ret, fin_seq_panic, fin_block, fin_block_exit, fin_block_ret, fin_block_panic, fin_loop, fin_loop_exit, fin_loop_ret, fin_loop_panic, ops_nil, ops_cons, ops_guard, res_val, res_new, main_nil, main_cons, main_guard, mres_val, mres_new, AOp.ev, AOpd.ev, evAll, evParts, evOpt, put_get, put_none, wantA, ARes.ofOpt, tmOf, List.getD_cons_zero, List.getD_cons_succ, Nat.reduceEqDiff, if_true, if_false, reduceIte, Nat.reduceAdd, Nat.reduceMul, binA, intOp, eqOp, nilOf, lenA_slice, callA, AV.cells, undefA, Option.map_some, Option.map_none, Bool.false_eq_true, reduceCtorEq, beq_false, beq_true, g_true, g_false, mg_true, mg_false, Bool.not_true, Bool.not_false, decide_true, decide_false, not_true_eq_false, not_false_eq_true, List.nil_append, List.cons_append, List.append_nil, Option.isNone_some, Option.isNone_none, List.getElem?_cons_zero, List.getElem?_cons_succ, t0, t6, t7, t8, m1, m2]
          have zt := zip_take_succ xs on i hi' hon'
          cases ho : on[i] with
          | false =>
            simp only [wk_skip, wk_region, wk_seq, wk_block, wk_cond, wk_exit, wk_ret, wk_draw, cnd_true, cnd_false, fin_nil, fin_seq, fin_seq_exit, fin_seq_ret, fin_seq_panic, fin_block, fin_block_exit, fin_block_ret, fin_block_panic, fin_loop, fin_loop_exit, fin_loop_ret, fin_loop_panic, ops_nil, ops_cons, ops_guard, res_val, res_new, main_nil, main_cons, main_guard, mres_val, mres_new, AOp.ev, AOpd.ev, evAll, evParts, evOpt, put_get, put_none, wantA, ARes.ofOpt, tmOf, List.getD_cons_zero, List.getD_cons_succ, Nat.reduceEqDiff, if_true, if_false, reduceIte, Nat.reduceAdd, Nat.reduceMul, binA, intOp, eqOp, nilOf, lenA_slice, callA, AV.cells, undefA, Option.map_some, Option.map_none, Bool.false_eq_true, reduceCtorEq, beq_false, beq_true, g_true, g_false, mg_true, mg_false, Bool.not_true, Bool.not_false, decide_true, decide_false, not_true_eq_false, not_false_eq_true, List.nil_append, List.cons_append, List.append_nil, Option.isNone_some, Option.isNone_none, List.getElem?_cons_zero, List.getElem?_cons_succ, t0, t6, t7, t8]
            refine meet ⟨k - 1, by omega, rfl, by simp [TM.put, t0], by simp [TM.put, t6], i + 1, lv, by simp [TM.put, wri], by omega, by simp [TM.put, t7], ?_⟩
            rw [zt, ho]; simpa using G
          | true =>
            simp only [wk_skip, wk_region, wk_seq, wk_block, wk_cond, wk_exit, wk_ret, wk_draw, cnd_true, cnd_false, fin_nil, fin_seq, fin_seq_exit, fin_seq_ret, fin_seq_panic, fin_block, fin_block_exit, fin_block_ret, fin_block_panic, fin_loop, fin_loop_exit, fin_loop_ret, fin_loop_panic, ops_nil, ops_cons, ops_guard, res_val, res_new, main_nil, main_cons, main_guard, mres_val, mres_new, AOp.ev, AOpd.ev, evAll, evParts, evOpt, put_get, put_none, wantA, ARes.ofOpt, tmOf, List.getD_cons_zero, List.getD_cons_succ, Nat.reduceEqDiff, if_true, if_false, reduceIte, Nat.reduceAdd, Nat.reduceMul, binA, intOp, eqOp, nilOf, lenA_slice, callA, AV.cells, undefA, Option.map_some, Option.map_none, Bool.false_eq_true, reduceCtorEq, beq_false, beq_true, g_true, g_false, mg_true, mg_false, Bool.not_true, Bool.not_false, decide_true, decide_false, not_true_eq_false, not_false_eq_true, List.nil_append, List.cons_append, List.append_nil, Option.isNone_some, Option.isNone_none, List.getElem?_cons_zero, List.getElem?_cons_succ, t0, t6, t7, t8, nilCheck_ptr, W'.ld0, g1, g5, fill_row]
            intro c hc
            have hsub : ∀ x ∈ (((xs.zip on).take i).filter (·.2)).map (·.1), x ∈ xs := fun x hx => by
              obtain ⟨p, hp, rfl⟩ := List.mem_map.1 hx
              exact (List.of_mem_zip (List.mem_of_mem_take (List.mem_filter.1 hp).1)).1
            have hlen : (rowsOf ((((xs.zip on).take i).filter (·.2)).map (·.1))).length ≤ 200000 := by
              rw [rowsOf_len, List.length_map]
              have := List.length_filter_le (fun p : Row × Bool => p.2) ((xs.zip on).take i)
              have h2 : ((xs.zip on).take i).length ≤ 65536 := by simp; omega
              omega
            have hone := rows_one W (ys := [xs[i]]) (fun x hx => by simp at hx; subst hx; exact List.getElem_mem hi')
            obtain ⟨kk, h4, e4, g4⟩ := G.push (bytes := 56) hc (x := [.int .i64 (xs[i].1.name : Int), xs[i].2.1, xs[i].2.2]) rfl (by omega) (by omega) (by omega) (rows_one W hsub) (by simpa [rowsOf] using hone)
            simp only [wk_skip, wk_region, wk_seq, wk_block, wk_cond, wk_exit, wk_ret, wk_draw, cnd_true, cnd_false, fin_nil, fin_seq, fin_seq_exit, fin_seq_ret, fin_seq_panic, fin_block, fin_block_exit, fin_block_ret, fin_block_panic, fin_loop, fin_loop_exit, fin_loop_ret, fin_loop_panic, ops_nil, ops_cons, ops_guard, res_val, res_new, main_nil, main_cons, main_guard, mres_val, mres_new, AOp.ev, AOpd.ev, evAll, evParts, evOpt, put_get, put_none, wantA, ARes.ofOpt, tmOf, List.getD_cons_zero, List.getD_cons_succ, Nat.reduceEqDiff, if_true, if_false, reduceIte, Nat.reduceAdd, Nat.reduceMul, binA, intOp, eqOp, nilOf, lenA_slice, callA, AV.cells, undefA, Option.map_some, Option.map_none, Bool.false_eq_true, reduceCtorEq, beq_false, beq_true, g_true, g_false, mg_true, mg_false, Bool.not_true, Bool.not_false, decide_true, decide_false, not_true_eq_false, not_false_eq_true, List.nil_append, List.cons_append, List.append_nil, Option.isNone_some, Option.isNone_none, List.getElem?_cons_zero, List.getElem?_cons_succ, e4]
            intro c2 hc2
            have G2 := g4 c2 hc2
            simp only [wk_skip, wk_region, wk_seq, wk_block, wk_cond, wk_exit, wk_ret, wk_draw, cnd_true, cnd_false, fin_nil, fin_seq, fin_seq_exit, fin_seq_ret, fin_seq_panic, fin_block, fin_block_exit, fin_block_ret, fin_block_panic, fin_loop, fin_loop_exit, fin_loop_ret, fin_loop_panic, ops_nil, ops_cons, ops_guard, res_val, res_new, main_nil, main_cons, main_guard, mres_val, mres_new, AOp.ev, AOpd.ev, evAll, evParts, evOpt, put_get, put_none, wantA, ARes.ofOpt, tmOf, List.getD_cons_zero, List.getD_cons_succ, Nat.reduceEqDiff, if_true, if_false, reduceIte, Nat.reduceAdd, Nat.reduceMul, binA, intOp, eqOp, nilOf, lenA_slice, callA, AV.cells, undefA, Option.map_some, Option.map_none, Bool.false_eq_true, reduceCtorEq, beq_false, beq_true, g_true, g_false, mg_true, mg_false, Bool.not_true, Bool.not_false, decide_true, decide_false, not_true_eq_false, not_false_eq_true, List.nil_append, List.cons_append, List.append_nil, Option.isNone_some, Option.isNone_none, List.getElem?_cons_zero, List.getElem?_cons_succ, t8]
            refine meet ⟨k - 1, by omega, rfl, by simp [TM.put, t0], by simp [TM.put, t6], i + 1, kk c2, by simp [TM.put, wri], by omega, by simp [TM.put], ?_⟩
            rw [zt, ho]
            simp only [List.filter_append, List.map_append, rowsOf_append]
            exact G2
        · have hall : (xs.zip on).take i = xs.zip on := List.take_of_length_le (by simp; omega)
          rw [hall] at G
          have GL := (G.at_.len (kept xs on).length (by rw [rowsOf_len]; rfl) (by omega))
          have hsl := kept_sublist (xs := xs) M.len
          have hkl : (kept xs on).length ≤ xs.length := hsl.length_le
          have wrs : IntKind.i64.wrap ((xs.length : Int) - (kept xs on).length) = (xs.length : Int) - (kept xs on).length := wrap64 (by omega) (by omega)
          have hst : storeA h' 1 (.ptr (some (b, 0 + 0))) lv = .val undefA (h'.upd b (.cells [lv, .int .i64 B] false)) := by
            have := SliceAt_cell G.at_
            have hc : lv.cells = [lv] := by cases lv <;> first | rfl | (simp [AV.oneCell] at this)
            simp only [storeA, W'.top, hc]
            rw [if_pos ⟨rfl, by simp, by simp [this]⟩]
            rfl
          simp only [wk_skip, wk_region, wk_seq, wk_block, wk_cond, wk_exit, wk_ret, wk_draw, cnd_true, cnd_false, fin_nil, fin_seq, fin_seq_exit, fin_seq_ret, fin_seq_panic, fin_block, fin_block_exit, fin_block_ret, fin_block_panic, fin_loop, fin_loop_exit, fin_loop_ret, fin_loop_panic, ops_nil, ops_cons, ops_guard, res_val, res_new, main_nil, main_cons, main_guard, mres_val, mres_new, AOp.ev, AOpd.ev, evAll, evParts, evOpt, put_get, put_none, wantA, ARes.ofOpt, tmOf, List.getD_cons_zero, List.getD_cons_succ, Nat.reduceEqDiff, if_true, if_false, reduceIte, Nat.reduceAdd, Nat.reduceMul, binA, intOp, eqOp, nilOf, lenA_slice, callA, AV.cells, undefA, Option.map_some, Option.map_none, Bool.false_eq_true, reduceCtorEq, beq_false, beq_true, g_true, g_false, mg_true, mg_false, Bool.not_true, Bool.not_false, decide_true, decide_false, not_true_eq_false, not_false_eq_true, List.nil_append, List.cons_append, List.append_nil, Option.isNone_some, Option.isNone_none, List.getElem?_cons_zero, List.getElem?_cons_succ, t0, t7, nilCheck_ptr, W'.ld0, W'.len, GL, wrs, hst]
          have fin := WRep.swap W O (G.base M.more) (ys := kept xs on) kept_sub (List.Pairwise.sublist (hsl.map _) O.sorted) (by omega)
          refine fnEnd_ret2 ⟨_, 0, by simp [TM.put], .inr ⟨hkn, rfl, on, M.len, hon, rfl, _, fin⟩⟩
      · rintro u h3 ⟨_, _, e, _⟩; cases e
  · rintro u h2 ⟨_, q, e, _⟩; cases e
end Go.Proofs.Ytnkdjfmidiffdaa
namespace Go.Proofs.Ytnkdjfmidiffdaa
open Go Go.Proofs Go.Am
variable {N : Nat}

theorem fill_top {z : AV} {n : Int} : fillA [z, .int .i64 0] [(1, 1, .int .i64 n)] = some [z, .int .i64 n] := _root_.id rfl

theorem make_c {h : AHeap} (n : Int) : ACalls Try.prog N 25 [.int .i64 n] h (fun e h' =>
    ((n < 0 ∨ 65536 < n) ∧ h' = h ∧ e = .ret (.tuple [.ptr none, .int .i64 2])) ∨
    (0 ≤ n ∧ n ≤ 65536 ∧ ∃ b, h b = none ∧ e = .ret (.tuple [.ptr (some (b, 0)), .int .i64 0]) ∧ More h h' ∧ WRep h' b n [] (fun c => if c = b then 1 else 0))) := by
  suffices H : ∀ R : AEnd → AHeap → Prop, ((n < 0 ∨ 65536 < n) → R (.ret (.tuple [.ptr none, .int .i64 2])) h) → (0 ≤ n → n ≤ 65536 → ∀ b, h b = none → R (.ret (.tuple [.ptr (some (b, 0)), .int .i64 0])) (h.upd b (.cells [.slice none 0 0 0 true, .int .i64 n] false))) →
      ACalls Try.prog N 25 [.int .i64 n] h R by
    refine H _ (fun h1 => .inl ⟨h1, rfl, rfl⟩) fun h1 h2 b hb => .inr ⟨h1, h2, b, hb, rfl, More.upd hb _, .slice none 0 0 0 true, ⟨AHeap.upd_same _ _ _, SliceAt.nil _ _ _ _, fun x hx => (by cases hx), fun x hx => (by cases hx), fun x hx => (by cases hx), by simp, fun x hx => (by cases hx)⟩,
      ⟨by simp, fun c hc => (by cases hc), fun x hx => (by cases hx), fun x hx => (by cases hx), fun c hc => ?_, by simp, fun x hx => (by cases hx)⟩⟩
    by_cases e : c = b
    · subst e; rw [AHeap.upd_same]; simp
    · simp [e] at hc
  intro R bad good
  refine acalls_of_wp c25_ok mixed (by show 1 ≤ 13; decide) (wk_start ?_)
  unfold c25
  simp only [wk_skip, wk_region, wk_seq, wk_block, wk_cond, wk_exit, wk_ret, wk_draw, cnd_true, cnd_false, fin_nil, fin_seq, fin_seq_exit, fin_seq_ret, fin_seq_panic, fin_block, fin_block_exit, fin_block_ret, fin_block_panic, fin_loop, fin_loop_exit, fin_loop_ret, fin_loop_panic, ops_nil, ops_cons, ops_guard, res_val, res_new, main_nil, main_cons, main_guard, mres_val, mres_new, AOp.ev, AOpd.ev, evAll, evParts, evOpt, put_get, put_none, wantA, ARes.ofOpt, tmOf, List.getD_cons_zero, List.getD_cons_succ, Nat.reduceEqDiff, if_true, if_false, reduceIte, Nat.reduceAdd, Nat.reduceMul, binA, intOp, eqOp, nilOf, lenA_slice, callA, AV.cells, undefA, Option.map_some, Option.map_none, Bool.false_eq_true, reduceCtorEq, beq_false, beq_true, g_true, g_false, mg_true, mg_false, Bool.not_true, Bool.not_false, decide_true, decide_false, not_true_eq_false, not_false_eq_true, List.nil_append, List.cons_append, List.append_nil, Option.isNone_some, Option.isNone_none, List.getElem?_cons_zero, List.getElem?_cons_succ]
  refine g_ndec (fun h1 => ?_) (fun h1 => ?_)
  · simp only [wk_skip, wk_region, wk_seq, wk_block, wk_cond, wk_exit, wk_ret, wk_draw, cnd_true, cnd_false, fin_nil, fin_seq, fin_seq_exit, fin_seq_ret, fin_seq_panic, fin_block, fin_block_exit, fin_block_ret, fin_block_panic, fin_loop, fin_loop_exit, fin_loop_ret, fin_loop_panic, ops_nil, ops_cons, ops_guard, res_val, res_new, main_nil, main_cons, main_guard, mres_val, mres_new, AOp.ev, AOpd.ev, evAll, evParts, evOpt, put_get, put_none, wantA, ARes.ofOpt, tmOf, List.getD_cons_zero, List.getD_cons_succ, Nat.reduceEqDiff, if_true, if_false, reduceIte, Nat.reduceAdd, Nat.reduceMul, binA, intOp, eqOp, nilOf, lenA_slice, callA, AV.cells, undefA, Option.map_some, Option.map_none, Bool.false_eq_true, reduceCtorEq, beq_false, beq_true, g_true, g_false, mg_true, mg_false, Bool.not_true, Bool.not_false, decide_true, decide_false, not_true_eq_false, not_false_eq_true, List.nil_append, List.cons_append, List.append_nil, Option.isNone_some, Option.isNone_none, List.getElem?_cons_zero, List.getElem?_cons_succ, h1]
    refine cond_dec (fun h2 => ?_) (fun h2 => ?_)
    · simp only [wk_skip, wk_region, wk_seq, wk_block, wk_cond, wk_exit, wk_ret, wk_draw, cnd_true, cnd_false, fin_nil, fin_seq, fin_seq_exit, fin_seq_ret, fin_seq_panic, fin_block, fin_block_exit, fin_block_ret, fin_block_panic, fin_loop, fin_loop_exit, fin_loop_ret, fin_loop_panic, ops_nil, ops_cons, ops_guard, res_val, res_new, main_nil, main_cons, main_guard, mres_val, mres_new, AOp.ev, AOpd.ev, evAll, evParts, evOpt, put_get, put_none, wantA, ARes.ofOpt, tmOf, List.getD_cons_zero, List.getD_cons_succ, Nat.reduceEqDiff, if_true, if_false, reduceIte, Nat.reduceAdd, Nat.reduceMul, binA, intOp, eqOp, nilOf, lenA_slice, callA, AV.cells, undefA, Option.map_some, Option.map_none, Bool.false_eq_true, reduceCtorEq, beq_false, beq_true, g_true, g_false, mg_true, mg_false, Bool.not_true, Bool.not_false, decide_true, decide_false, not_true_eq_false, not_false_eq_true, List.nil_append, List.cons_append, List.append_nil, Option.isNone_some, Option.isNone_none, List.getElem?_cons_zero, List.getElem?_cons_succ]
      exact fnEnd_ret2 (bad (.inr h2))
    · simp only [wk_skip, wk_region, wk_seq, wk_block, wk_cond, wk_exit, wk_ret, wk_draw, cnd_true, cnd_false, fin_nil, fin_seq, fin_seq_exit, fin_seq_ret, fin_seq_panic, fin_block, fin_block_exit, fin_block_ret, fin_block_panic, fin_loop, fin_loop_exit, fin_loop_ret, fin_loop_panic, ops_nil, ops_cons, ops_guard, res_val, res_new, main_nil, main_cons, main_guard, mres_val, mres_new, AOp.ev, AOpd.ev, evAll, evParts, evOpt, put_get, put_none, wantA, ARes.ofOpt, tmOf, List.getD_cons_zero, List.getD_cons_succ, Nat.reduceEqDiff, if_true, if_false, reduceIte, Nat.reduceAdd, Nat.reduceMul, binA, intOp, eqOp, nilOf, lenA_slice, callA, AV.cells, undefA, Option.map_some, Option.map_none, Bool.false_eq_true, reduceCtorEq, beq_false, beq_true, g_true, g_false, mg_true, mg_false, Bool.not_true, Bool.not_false, decide_true, decide_false, not_true_eq_false, not_false_eq_true, List.nil_append, List.cons_append, List.append_nil, Option.isNone_some, Option.isNone_none, List.getElem?_cons_zero, List.getElem?_cons_succ, fill_top]
      intro b hb
      exact fnEnd_ret2 (good (by omega) (by omega) b hb)
  · simp only [wk_skip, wk_region, wk_seq, wk_block, wk_cond, wk_exit, wk_ret, wk_draw, cnd_true, cnd_false, fin_nil, fin_seq, fin_seq_exit, fin_seq_ret, fin_seq_panic, fin_block, fin_block_exit, fin_block_ret, fin_block_panic, fin_loop, fin_loop_exit, fin_loop_ret, fin_loop_panic, ops_nil, ops_cons, ops_guard, res_val, res_new, main_nil, main_cons, main_guard, mres_val, mres_new, AOp.ev, AOpd.ev, evAll, evParts, evOpt, put_get, put_none, wantA, ARes.ofOpt, tmOf, List.getD_cons_zero, List.getD_cons_succ, Nat.reduceEqDiff, if_true, if_false, reduceIte, Nat.reduceAdd, Nat.reduceMul, binA, intOp, eqOp, nilOf, lenA_slice, callA, AV.cells, undefA, Option.map_some, Option.map_none, Bool.false_eq_true, reduceCtorEq, beq_false, beq_true, g_true, g_false, mg_true, mg_false, Bool.not_true, Bool.not_false, decide_true, decide_false, not_true_eq_false, not_false_eq_true, List.nil_append, List.cons_append, List.append_nil, Option.isNone_some, Option.isNone_none, List.getElem?_cons_zero, List.getElem?_cons_succ, h1]
    exact fnEnd_ret2 (bad (.inl h1))

/-- A test whether an object fits. -/
theorem fits {xs : List Row} {n : Nat} (hs : ∀ x ∈ xs, x.1.cells.length ≤ 65536) (hf : xs.length ≤ 65536) (hn : n ≤ 262146) :
    IntKind.i64.wrap ((total xs : Int) + 1) = ((total xs + 1 : Nat) : Int) ∧ IntKind.i64.wrap (((total xs + 1 : Nat) : Int) + n) = ((total xs + 1 + n : Nat) : Int) := by
  have h1 := total_le hs
  have h2 : xs.length * 65537 ≤ 65536 * 65537 := Nat.mul_le_mul_right _ hf
  rw [wrap64 (x := (total xs : Int) + 1) (by omega) (by omega), wrap64 (by omega) (by omega)]
  exact ⟨rfl, rfl⟩
end Go.Proofs.Ytnkdjfmidiffdaa
namespace Go.Proofs.Ytnkdjfmidiffdaa
open Go Go.Proofs Go.Am
variable {N : Nat}

/-- The first place at which the names part. -/
def Gap (ys : List Row) (k : Nat) : Prop := k ≤ ys.length ∧ (∀ (j : Nat) (hj : j < ys.length), j < k → ys[j].1.name = j + 1) ∧ ∀ hk : k < ys.length, ys[k].1.name ≠ k + 1
def insAt (ys : List Row) (k : Nat) (x : Row) : List Row := ys.take k ++ x :: ys.drop k
theorem insAt_mem {ys : List Row} {k : Nat} {x y : Row} (h : y ∈ insAt ys k x) : y = x ∨ y ∈ ys := by
  unfold insAt at h
  rcases List.mem_append.1 h with h | h
  · exact .inr (List.mem_of_mem_take h)
  · rcases List.mem_cons.1 h with h | h
    · exact .inl h
    · exact .inr (List.mem_of_mem_drop h)
theorem total_ge (ys : List Row) : ys.length ≤ total ys := by
  induction ys with
  | nil => simp [total]
  | cons y ys ih => simp only [total, List.map_cons, List.sum_cons, List.length_cons] at ih ⊢; omega

/-- In the gap stands a new name: the names go on rising. -/
theorem gap_sorted {ys : List Row} (hs : (ys.map fun x => x.1.name).Pairwise (· < ·)) (hp : ∀ x ∈ ys, 1 ≤ x.1.name) {k : Nat} (hg : Gap ys k) {x : Row} (hx : x.1.name = k + 1) : ((insAt ys k x).map fun x => x.1.name).Pairwise (· < ·) := by
  have pw := List.pairwise_iff_getElem.1 hs
  have up : ∀ (j : Nat) (hj : j < ys.length), j + 1 ≤ ys[j].1.name := by
    intro j
    induction j with
    | zero => intro hj; exact hp _ (List.getElem_mem hj)
    | succ j ih =>
      intro hj
      have h1 := ih (by omega)
      have h2 := pw j (j + 1) (by simp; omega) (by simpa using hj) (by omega)
      simp at h2; omega
  unfold insAt
  rw [List.map_append, List.map_cons, List.pairwise_append, List.pairwise_cons]
  refine ⟨?_, ⟨fun n hn => ?_, ?_⟩, fun a ha c hc => ?_⟩
  · exact hs.sublist ((List.take_sublist k ys).map _)
  · obtain ⟨y, hy, rfl⟩ := List.mem_map.1 hn
    obtain ⟨i, hi, rfl⟩ := List.mem_iff_getElem.1 hy
    rw [List.getElem_drop, hx]
    have hl : k + i < ys.length := by simp at hi; omega
    have h1 := up (k + i) hl
    by_cases e : i = 0
    · subst e
      have := hg.2.2 (by omega)
      simp only [Nat.add_zero] at h1 ⊢
      omega
    · omega
  · exact hs.sublist ((List.drop_sublist k ys).map _)
  · obtain ⟨y, hy, rfl⟩ := List.mem_map.1 ha
    obtain ⟨i, hi, rfl⟩ := List.mem_iff_getElem.1 hy
    simp only [List.length_take] at hi
    have hik : i < k := by omega
    have hil : i < ys.length := by omega
    have hn : (ys.take k)[i].1.name = i + 1 := by rw [List.getElem_take]; exact hg.2.1 i hil hik
    rcases List.mem_cons.1 hc with rfl | hc
    · omega
    · obtain ⟨z, hz, rfl⟩ := List.mem_map.1 hc
      obtain ⟨m, hm, rfl⟩ := List.mem_iff_getElem.1 hz
      rw [List.getElem_drop]
      have hl : k + m < ys.length := by simp at hm; omega
      have := up (k + m) hl
      omega

/-- The roles, with a new list and a new object. -/
def roleN (ρ : Nat → Nat) (lv cv rv : AV) (n : Nat) : Nat → Nat := fun c => if blkOf lv = some c then 2 else if blkOf cv = some c then 3 + 2 * n else if blkOf rv = some c then 4 + 2 * n else ρ c

theorem WRep.ins {h h1 : AHeap} {b : Nat} {L : AV} {B : Int} {ys : List Row} {ρ : Nat → Nat} (W : WIn h b L B ys) (O : WOwn h b L ys ρ) {k : Nat} (hg : Gap ys k) {x : Row} (hxn : x.1.name = k + 1) {lv : AV} (G : Grown h h1 3 lv (rowsOf (insAt ys k x)))
    (hc : SliceAt h1 1 x.2.1 (x.1.cells.map fun n : Nat => AV.int .u64 (n : Int))) (hr : SliceAt h1 1 x.2.2 (x.1.refs.map .bool)) (hs : x.1.refs.length = x.1.cells.length) (hfew : ys.length + 1 ≤ 65536) (hsm : x.1.cells.length ≤ 65536)
    (oc : ∀ c, blkOf x.2.1 = some c → h c = none ∧ blkOf lv ≠ some c ∧ ∃ ds, h1 c = some (.cells ds false)) (or' : ∀ c, blkOf x.2.2 = some c → h c = none ∧ blkOf lv ≠ some c ∧ blkOf x.2.1 ≠ some c) :
    WRep (h1.upd b (.cells [lv, .int .i64 B] false)) b B (insAt ys k x) (roleN ρ lv x.2.1 x.2.2 (k + 1)) ∧ Off ρ h (h1.upd b (.cells [lv, .int .i64 B] false)) ∧ ∀ c, roleN ρ lv x.2.1 x.2.2 (k + 1) c ≠ 0 → ρ c ≠ 0 ∨ h c = none := by
  have hb : h b ≠ none := by rw [W.top]; simp
  have nb : ∀ c, h c = none → c ≠ b := fun c hc e => hb (e ▸ hc)
  have old : ∀ c, ρ c ≠ 0 → roleN ρ lv x.2.1 x.2.2 (k + 1) c = ρ c := fun c h0 => by
    have hd := O.dom c h0
    unfold roleN
    rw [if_neg fun e => hd (G.own c e).1, if_neg fun e => hd (oc c e).1, if_neg fun e => hd (or' c e).1]
  have oldh : ∀ c, ρ c ≠ 0 → ρ c ≠ 1 → (h1.upd b (.cells [lv, .int .i64 B] false)) c = h c := fun c h0 h1' => by
    rw [AHeap.upd_other _ _ fun e => h1' (by rw [e]; exact O.top)]
    exact G.more c (O.dom c h0)
  have len : (insAt ys k x).length = ys.length + 1 := by
    have := hg.1
    simp [insAt]; omega
  refine ⟨⟨lv, ⟨AHeap.upd_same _ _ _, ?_, fun y hy => ?_, fun y hy => ?_, fun y hy => ?_, by omega, fun y hy => ?_⟩, ⟨?_, fun c hc => ?_, fun y hy c hc' => ?_, fun y hy c hc' => ?_, fun c hc' => ?_, gap_sorted O.sorted O.pos hg hxn, fun y hy => ?_⟩⟩, fun c h0 hc' => ?_, fun c hc' => ?_⟩
  · exact G.at_.keep fun c hc => AHeap.upd_other _ _ (nb c (G.own c hc).1)
  · rcases insAt_mem hy with rfl | hy
    · exact hc.keep fun c hc => AHeap.upd_other _ _ (nb c (oc c hc).1)
    · exact (W.cells y hy).keep fun c hc => by have := (O.cel y hy c hc).1; exact oldh c (by omega) (by omega)
  · rcases insAt_mem hy with rfl | hy
    · exact hr.keep fun c hc => AHeap.upd_other _ _ (nb c (or' c hc).1)
    · exact (W.refs y hy).keep fun c hc => by have := O.rfs y hy c hc; exact oldh c (by omega) (by omega)
  · rcases insAt_mem hy with rfl | hy
    · exact hs
    · exact W.same y hy
  · rcases insAt_mem hy with rfl | hy
    · exact hsm
    · exact W.small y hy
  · rw [old b (by rw [O.top]; omega)]; exact O.top
  · refine ⟨by unfold roleN; rw [if_pos hc], ?_⟩
    rw [AHeap.upd_other _ _ (nb c (G.own c hc).1)]; exact (G.own c hc).2
  · rcases insAt_mem hy with rfl | hy
    · obtain ⟨h2, h3, h4⟩ := oc c hc'
      refine ⟨by unfold roleN; rw [if_neg h3, if_pos hc', hxn], ?_⟩
      rw [AHeap.upd_other _ _ (nb c h2)]; exact h4
    · obtain ⟨h2, h3⟩ := O.cel y hy c hc'
      exact ⟨by rw [old c (by omega)]; exact h2, by rw [oldh c (by omega) (by omega)]; exact h3⟩
  · rcases insAt_mem hy with rfl | hy
    · obtain ⟨h2, h3, h4⟩ := or' c hc'
      unfold roleN; rw [if_neg h3, if_neg h4, if_pos hc', hxn]
    · have h2 := O.rfs y hy c hc'
      rw [old c (by omega)]; exact h2
  · by_cases e : c = b
    · subst e; rw [AHeap.upd_same]; simp
    · rw [AHeap.upd_other _ _ e]
      unfold roleN at hc'
      split at hc'
      · rename_i e'; obtain ⟨_, ds, h2⟩ := G.own c e'; rw [h2]; simp
      · split at hc'
        · rename_i e'; obtain ⟨_, _, ds, h2⟩ := oc c e'; rw [h2]; simp
        · split at hc'
          · rename_i e'; exact hr.dom e'
          · rw [G.more c (O.dom c hc')]; exact O.dom c hc'
  · rcases insAt_mem hy with rfl | hy
    · omega
    · exact O.pos y hy
  · rw [AHeap.upd_other _ _ fun e => by rw [e, O.top] at h0; cases h0]
    exact G.more c hc'
  · unfold roleN at hc'
    split at hc'
    · rename_i e'; exact .inr (G.own c e').1
    · split at hc'
      · rename_i e'; exact .inr (oc c e').1
      · split at hc'
        · rename_i e'; exact .inr (or' c e').1
        · exact .inl hc'
end Go.Proofs.Ytnkdjfmidiffdaa
namespace Go.Proofs.Ytnkdjfmidiffdaa
open Go Go.Proofs Go.Am
variable {N : Nat}

/-- What collecting, where it is needed, leaves. -/
def Room (xs : List Row) (B : Int) (n : Nat) (roots : List Int) (ys : List Row) : Prop :=
  ((total xs : Int) + 1 + n ≤ B ∧ ys = xs) ∨ (B < (total xs : Int) + 1 + n ∧ ∃ on : List Bool, on.length = xs.length ∧ (∀ k, on[k]? = some true ↔ Rch xs roots k) ∧ ys = kept xs on)
theorem fill_obj {z1 z2 z3 : AV} {p : Option (Nat × Nat)} {s n m : Nat} {ex : Bool} {p' : Option (Nat × Nat)} {s' n' m' : Nat} {ex' : Bool} {i : Int} :
    fillA [z1, z2, z3] [(0, 1, .int .i64 i), (1, 1, .slice p s n m ex), (2, 1, .slice p' s' n' m' ex')] = some [.int .i64 i, .slice p s n m ex, .slice p' s' n' m' ex'] := _root_.id rfl

theorem rowsOf_take : ∀ (xs : List Row) (k : Nat), rowsOf (xs.take k) = (rowsOf xs).take (k * 3)
  | [], k => by simp [rowsOf]
  | x :: xs, 0 => by simp [rowsOf]
  | x :: xs, k + 1 => by
    have := rowsOf_take xs k
    simp only [rowsOf, List.take_succ_cons, List.flatMap_cons] at this ⊢
    rw [this, show (k + 1) * 3 = k * 3 + 3 by omega]
    simp
theorem rowsOf_drop : ∀ (xs : List Row) (k : Nat), rowsOf (xs.drop k) = (rowsOf xs).drop (k * 3)
  | [], k => by simp [rowsOf]
  | x :: xs, 0 => by simp [rowsOf]
  | x :: xs, k + 1 => by
    have := rowsOf_drop xs k
    simp only [rowsOf, List.drop_succ_cons, List.flatMap_cons] at this ⊢
    rw [this, show (k + 1) * 3 = k * 3 + 3 by omega]
    simp

theorem alloc_c {h : AHeap} {b : Nat} {B : Int} (hB : B ≤ 65536) {xs : List Row} {ρ : Nat → Nat} (R0 : WRep h b B xs ρ) {rv v : AV} {refs : List Bool} {roots : List Int} (HR : SliceAt h 1 rv (refs.map .bool)) (H : Ints h v roots) (hl : roots.length ≤ 4294967296) (hr : refs.length ≤ 4294967296)
    (ov : ∀ c, blkOf v = some c → ρ c = 0) (orv : ∀ c, blkOf rv = some c → ρ c = 0)
    (R : AEnd → AHeap → Prop)
    (r1 : 262146 < refs.length → R (.ret (.tuple [.int .i64 0, .int .i64 2])) h)
    (r2 : refs.length ≤ 262146 → ¬ Known xs roots → R (.ret (.tuple [.int .i64 0, .int .i64 15])) h)
    (r3 : refs.length ≤ 262146 → Known xs roots → ∀ ys ρ' h', Room xs B refs.length roots ys → WRep h' b B ys ρ' → Off ρ h h' → Mine ρ ρ' h → B < (total ys : Int) + 1 + refs.length → R (.ret (.tuple [.int .i64 0, .int .i64 20])) h')
    (r4 : refs.length ≤ 262146 → Known xs roots → ∀ ys ρ' h' k cv rv', Room xs B refs.length roots ys → (total ys : Int) + 1 + refs.length ≤ B → Gap ys k → WRep h' b B (insAt ys k (⟨k + 1, List.replicate refs.length 0, refs⟩, cv, rv')) ρ' → Off ρ h h' → Mine ρ ρ' h →
      R (.ret (.tuple [.int .i64 ((k : Int) + 1), .int .i64 0])) h') : ACalls Try.prog N 43 [.ptr (some (b, 0)), rv, v] h R := by
  obtain ⟨L, W, O⟩ := R0
  refine acalls_of_wp c43_ok mixed (by show 3 ≤ 99; decide) (wk_start ?_)
  unfold c43
  have few := W.few
  have hrl := HR.len refs.length (by simp) (by omega)
  simp only [wk_skip, wk_region, wk_seq, wk_block, wk_cond, wk_exit, wk_ret, wk_draw, cnd_true, cnd_false, fin_nil, fin_seq, fin_seq_exit, fin_seq_ret, fin_seq_panic, fin_block, fin_block_exit, fin_block_ret, fin_block_panic, fin_loop, fin_loop_exit, fin_loop_ret, fin_loop_panic, ops_nil, ops_cons, ops_guard, res_val, res_new, main_nil, main_cons, main_guard, mres_val, mres_new, AOp.ev, AOpd.ev, evAll, evParts, evOpt, put_get, put_none, wantA, ARes.ofOpt, tmOf, List.getD_cons_zero, List.getD_cons_succ, Nat.reduceEqDiff, if_true, if_false, reduceIte, Nat.reduceAdd, Nat.reduceMul, binA, intOp, eqOp, nilOf, lenA_slice, callA, AV.cells, undefA, Option.map_some, Option.map_none, Bool.false_eq_true, reduceCtorEq, beq_false, beq_true, g_true, g_false, mg_true, mg_false, Bool.not_true, Bool.not_false, decide_true, decide_false, not_true_eq_false, not_false_eq_true, List.nil_append, List.cons_append, List.append_nil, Option.isNone_some, Option.isNone_none, List.getElem?_cons_zero, List.getElem?_cons_succ, hrl]
  refine cond_dec (fun h1 => ?_) (fun h1 => ?_)
  · simp only [wk_skip, wk_region, wk_seq, wk_block, wk_cond, wk_exit, wk_ret, wk_draw, cnd_true, cnd_false, fin_nil, fin_seq, fin_seq_exit, fin_seq_ret, fin_seq_panic, fin_block, fin_block_exit, fin_block_ret, fin_block_panic, fin_loop, fin_loop_exit, fin_loop_ret, fin_loop_panic, ops_nil, ops_cons, ops_guard, res_val, res_new, main_nil, main_cons, main_guard, mres_val, mres_new, AOp.ev, AOpd.ev, evAll, evParts, evOpt, put_get, put_none, wantA, ARes.ofOpt, tmOf, List.getD_cons_zero, List.getD_cons_succ, Nat.reduceEqDiff, if_true, if_false, reduceIte, Nat.reduceAdd, Nat.reduceMul, binA, intOp, eqOp, nilOf, lenA_slice, callA, AV.cells, undefA, Option.map_some, Option.map_none, Bool.false_eq_true, reduceCtorEq, beq_false, beq_true, g_true, g_false, mg_true, mg_false, Bool.not_true, Bool.not_false, decide_true, decide_false, not_true_eq_false, not_false_eq_true, List.nil_append, List.cons_append, List.append_nil, Option.isNone_some, Option.isNone_none, List.getElem?_cons_zero, List.getElem?_cons_succ]
    exact fnEnd_ret2 (r1 (by omega))
  have hn : refs.length ≤ 262146 := by omega
  simp only [wk_skip, wk_region, wk_seq, wk_block, wk_cond, wk_exit, wk_ret, wk_draw, cnd_true, cnd_false, fin_nil, fin_seq, fin_seq_exit, fin_seq_ret, fin_seq_panic, fin_block, fin_block_exit, fin_block_ret, fin_block_panic, fin_loop, fin_loop_exit, fin_loop_ret, fin_loop_panic, ops_nil, ops_cons, ops_guard, res_val, res_new, main_nil, main_cons, main_guard, mres_val, mres_new, AOp.ev, AOpd.ev, evAll, evParts, evOpt, put_get, put_none, wantA, ARes.ofOpt, tmOf, List.getD_cons_zero, List.getD_cons_succ, Nat.reduceEqDiff, if_true, if_false, reduceIte, Nat.reduceAdd, Nat.reduceMul, binA, intOp, eqOp, nilOf, lenA_slice, callA, AV.cells, undefA, Option.map_some, Option.map_none, Bool.false_eq_true, reduceCtorEq, beq_false, beq_true, g_true, g_false, mg_true, mg_false, Bool.not_true, Bool.not_false, decide_true, decide_false, not_true_eq_false, not_false_eq_true, List.nil_append, List.cons_append, List.append_nil, Option.isNone_some, Option.isNone_none, List.getElem?_cons_zero, List.getElem?_cons_succ]
  refine res_call (known_c W H hl) ?_ ?_
  · rintro u h2 ⟨rfl, q, e, hq⟩
    cases e
    cases q with
    | false =>
      simp only [wk_skip, wk_region, wk_seq, wk_block, wk_cond, wk_exit, wk_ret, wk_draw, cnd_true, cnd_false, fin_nil, fin_seq, fin_seq_exit, fin_seq_ret, fin_seq_panic, fin_block, fin_block_exit, fin_block_ret, fin_block_panic, fin_loop, fin_loop_exit, fin_loop_ret, fin_loop_panic, ops_nil, ops_cons, ops_guard, res_val, res_new, main_nil, main_cons, main_guard, mres_val, mres_new, AOp.ev, AOpd.ev, evAll, evParts, evOpt, put_get, put_none, wantA, ARes.ofOpt, tmOf, List.getD_cons_zero, List.getD_cons_succ, Nat.reduceEqDiff, if_true, if_false, reduceIte, Nat.reduceAdd, Nat.reduceMul, binA, intOp, eqOp, nilOf, lenA_slice, callA, AV.cells, undefA, Option.map_some, Option.map_none, Bool.false_eq_true, reduceCtorEq, beq_false, beq_true, g_true, g_false, mg_true, mg_false, Bool.not_true, Bool.not_false, decide_true, decide_false, not_true_eq_false, not_false_eq_true, List.nil_append, List.cons_append, List.append_nil, Option.isNone_some, Option.isNone_none, List.getElem?_cons_zero, List.getElem?_cons_succ]
      exact fnEnd_ret2 (r2 hn fun hk => by simpa using hq.2 hk)
    | true =>
      have hkn := hq.1 rfl
      obtain ⟨w1, w2⟩ := fits W.small W.few hn
      simp only [wk_skip, wk_region, wk_seq, wk_block, wk_cond, wk_exit, wk_ret, wk_draw, cnd_true, cnd_false, fin_nil, fin_seq, fin_seq_exit, fin_seq_ret, fin_seq_panic, fin_block, fin_block_exit, fin_block_ret, fin_block_panic, fin_loop, fin_loop_exit, fin_loop_ret, fin_loop_panic, ops_nil, ops_cons, ops_guard, res_val, res_new, main_nil, main_cons, main_guard, mres_val, mres_new, AOp.ev, AOpd.ev, evAll, evParts, evOpt, put_get, put_none, wantA, ARes.ofOpt, tmOf, List.getD_cons_zero, List.getD_cons_succ, Nat.reduceEqDiff, if_true, if_false, reduceIte, Nat.reduceAdd, Nat.reduceMul, binA, intOp, eqOp, nilOf, lenA_slice, callA, AV.cells, undefA, Option.map_some, Option.map_none, Bool.false_eq_true, reduceCtorEq, beq_false, beq_true, g_true, g_false, mg_true, mg_false, Bool.not_true, Bool.not_false, decide_true, decide_false, not_true_eq_false, not_false_eq_true, List.nil_append, List.cons_append, List.append_nil, Option.isNone_some, Option.isNone_none, List.getElem?_cons_zero, List.getElem?_cons_succ, hrl, nilCheck_ptr, W.ld1]
      refine mres_call (used_c W) ?_ ?_
      · rintro u h3 ⟨rfl, e⟩
        cases e
        refine ⟨stabs_more (More.refl _) _, ?_⟩
        simp only [wk_skip, wk_region, wk_seq, wk_block, wk_cond, wk_exit, wk_ret, wk_draw, cnd_true, cnd_false, fin_nil, fin_seq, fin_seq_exit, fin_seq_ret, fin_seq_panic, fin_block, fin_block_exit, fin_block_ret, fin_block_panic, fin_loop, fin_loop_exit, fin_loop_ret, fin_loop_panic, ops_nil, ops_cons, ops_guard, res_val, res_new, main_nil, main_cons, main_guard, mres_val, mres_new, AOp.ev, AOpd.ev, evAll, evParts, evOpt, put_get, put_none, wantA, ARes.ofOpt, tmOf, List.getD_cons_zero, List.getD_cons_succ, Nat.reduceEqDiff, if_true, if_false, reduceIte, Nat.reduceAdd, Nat.reduceMul, binA, intOp, eqOp, nilOf, lenA_slice, callA, AV.cells, undefA, Option.map_some, Option.map_none, Bool.false_eq_true, reduceCtorEq, beq_false, beq_true, g_true, g_false, mg_true, mg_false, Bool.not_true, Bool.not_false, decide_true, decide_false, not_true_eq_false, not_false_eq_true, List.nil_append, List.cons_append, List.append_nil, Option.isNone_some, Option.isNone_none, List.getElem?_cons_zero, List.getElem?_cons_succ, w1, w2]
        refine cond_cut (fun tm ds h' => ds = [] ∧ tm 0 = .ptr (some (b, 0)) ∧ tm 1 = rv ∧ tm 2 = v ∧ ∃ ys ρ', Room xs B refs.length roots ys ∧ WRep h' b B ys ρ' ∧ Off ρ h3 h' ∧ Mine ρ ρ' h3) ?_ ?_
        · refine cond_dec (fun h4 => ?_) (fun h4 => ?_)
          · simp only [wk_skip, wk_region, wk_seq, wk_block, wk_cond, wk_exit, wk_ret, wk_draw, cnd_true, cnd_false, fin_nil, fin_seq, fin_seq_exit, fin_seq_ret, fin_seq_panic, fin_block, fin_block_exit, fin_block_ret, fin_block_panic, fin_loop, fin_loop_exit, fin_loop_ret, fin_loop_panic, ops_nil, ops_cons, ops_guard, res_val, res_new, main_nil, main_cons, main_guard, mres_val, mres_new, AOp.ev, AOpd.ev, evAll, evParts, evOpt, put_get, put_none, wantA, ARes.ofOpt, tmOf, List.getD_cons_zero, List.getD_cons_succ, Nat.reduceEqDiff, if_true, if_false, reduceIte, Nat.reduceAdd, Nat.reduceMul, binA, intOp, eqOp, nilOf, lenA_slice, callA, AV.cells, undefA, Option.map_some, Option.map_none, Bool.false_eq_true, reduceCtorEq, beq_false, beq_true, g_true, g_false, mg_true, mg_false, Bool.not_true, Bool.not_false, decide_true, decide_false, not_true_eq_false, not_false_eq_true, List.nil_append, List.cons_append, List.append_nil, Option.isNone_some, Option.isNone_none, List.getElem?_cons_zero, List.getElem?_cons_succ]
            refine res_call (collect_c ⟨L, W, O⟩ H hl) ?_ ?_
            · rintro u h5 ⟨n, er, e, hc⟩
              cases e
              simp only [wk_skip, wk_region, wk_seq, wk_block, wk_cond, wk_exit, wk_ret, wk_draw, cnd_true, cnd_false, fin_nil, fin_seq, fin_seq_exit, fin_seq_ret, fin_seq_panic, fin_block, fin_block_exit, fin_block_ret, fin_block_panic, fin_loop, fin_loop_exit, fin_loop_ret, fin_loop_panic, ops_nil, ops_cons, ops_guard, res_val, res_new, main_nil, main_cons, main_guard, mres_val, mres_new, AOp.ev, AOpd.ev, evAll, evParts, evOpt, put_get, put_none, wantA, ARes.ofOpt, tmOf, List.getD_cons_zero, List.getD_cons_succ, Nat.reduceEqDiff, if_true, if_false, reduceIte, Nat.reduceAdd, Nat.reduceMul, binA, intOp, eqOp, nilOf, lenA_slice, callA, AV.cells, undefA, Option.map_some, Option.map_none, Bool.false_eq_true, reduceCtorEq, beq_false, beq_true, g_true, g_false, mg_true, mg_false, Bool.not_true, Bool.not_false, decide_true, decide_false, not_true_eq_false, not_false_eq_true, List.nil_append, List.cons_append, List.append_nil, Option.isNone_some, Option.isNone_none, List.getElem?_cons_zero, List.getElem?_cons_succ]
              rcases hc with ⟨hk, _⟩ | ⟨_, _, on, ho1, ho2, _, ρ', R', o', m'⟩
              · exact absurd hkn hk
              · exact meet ⟨rfl, rfl, rfl, rfl, _, ρ', .inr ⟨by omega, on, ho1, ho2, rfl⟩, R', o', m'⟩
            · rintro u h5 ⟨n, er, e, _⟩; cases e
          · simp only [wk_skip, wk_region, wk_seq, wk_block, wk_cond, wk_exit, wk_ret, wk_draw, cnd_true, cnd_false, fin_nil, fin_seq, fin_seq_exit, fin_seq_ret, fin_seq_panic, fin_block, fin_block_exit, fin_block_ret, fin_block_panic, fin_loop, fin_loop_exit, fin_loop_ret, fin_loop_panic, ops_nil, ops_cons, ops_guard, res_val, res_new, main_nil, main_cons, main_guard, mres_val, mres_new, AOp.ev, AOpd.ev, evAll, evParts, evOpt, put_get, put_none, wantA, ARes.ofOpt, tmOf, List.getD_cons_zero, List.getD_cons_succ, Nat.reduceEqDiff, if_true, if_false, reduceIte, Nat.reduceAdd, Nat.reduceMul, binA, intOp, eqOp, nilOf, lenA_slice, callA, AV.cells, undefA, Option.map_some, Option.map_none, Bool.false_eq_true, reduceCtorEq, beq_false, beq_true, g_true, g_false, mg_true, mg_false, Bool.not_true, Bool.not_false, decide_true, decide_false, not_true_eq_false, not_false_eq_true, List.nil_append, List.cons_append, List.append_nil, Option.isNone_some, Option.isNone_none, List.getElem?_cons_zero, List.getElem?_cons_succ]
            exact meet ⟨rfl, rfl, rfl, rfl, xs, ρ, .inl ⟨by omega, rfl⟩, ⟨L, W, O⟩, .refl _ _, .refl _ _⟩
        · rintro tm ds h' ⟨rfl, t0, t1, t2, ys, ρ', hroom, ⟨L', W', O'⟩, o', m'⟩
          have HR' := slice_off o' HR orv
          have hrl' := HR'.len refs.length (by simp) (by omega)
          obtain ⟨w1', w2'⟩ := fits W'.small W'.few hn
          simp only [wk_skip, wk_region, wk_seq, wk_block, wk_cond, wk_exit, wk_ret, wk_draw, cnd_true, cnd_false, fin_nil, fin_seq, fin_seq_exit, fin_seq_ret, fin_seq_panic, fin_block, fin_block_exit, fin_block_ret, fin_block_panic, fin_loop, fin_loop_exit, fin_loop_ret, fin_loop_panic, ops_nil, ops_cons, ops_guard, res_val, res_new, main_nil, main_cons, main_guard, mres_val, mres_new, AOp.ev, AOpd.ev, evAll, evParts, evOpt, put_get, put_none, wantA, ARes.ofOpt, tmOf, List.getD_cons_zero, List.getD_cons_succ, Nat.reduceEqDiff, if_true, if_false, reduceIte, Nat.reduceAdd, Nat.reduceMul, binA, intOp, eqOp, nilOf, lenA_slice, callA, AV.cells, undefA, Option.map_some, Option.map_none, Bool.false_eq_true, reduceCtorEq, beq_false, beq_true, g_true, g_false, mg_true, mg_false, Bool.not_true, Bool.not_false, decide_true, decide_false, not_true_eq_false, not_false_eq_true, List.nil_append, List.cons_append, List.append_nil, Option.isNone_some, Option.isNone_none, List.getElem?_cons_zero, List.getElem?_cons_succ, t0, t1, t2, hrl', nilCheck_ptr, W'.ld1]
          refine mres_call (used_c W') ?_ ?_
          · rintro u h5 ⟨rfl, e⟩
            cases e
            refine ⟨stabs_more (More.refl _) _, ?_⟩
            simp only [wk_skip, wk_region, wk_seq, wk_block, wk_cond, wk_exit, wk_ret, wk_draw, cnd_true, cnd_false, fin_nil, fin_seq, fin_seq_exit, fin_seq_ret, fin_seq_panic, fin_block, fin_block_exit, fin_block_ret, fin_block_panic, fin_loop, fin_loop_exit, fin_loop_ret, fin_loop_panic, ops_nil, ops_cons, ops_guard, res_val, res_new, main_nil, main_cons, main_guard, mres_val, mres_new, AOp.ev, AOpd.ev, evAll, evParts, evOpt, put_get, put_none, wantA, ARes.ofOpt, tmOf, List.getD_cons_zero, List.getD_cons_succ, Nat.reduceEqDiff, if_true, if_false, reduceIte, Nat.reduceAdd, Nat.reduceMul, binA, intOp, eqOp, nilOf, lenA_slice, callA, AV.cells, undefA, Option.map_some, Option.map_none, Bool.false_eq_true, reduceCtorEq, beq_false, beq_true, g_true, g_false, mg_true, mg_false, Bool.not_true, Bool.not_false, decide_true, decide_false, not_true_eq_false, not_false_eq_true, List.nil_append, List.cons_append, List.append_nil, Option.isNone_some, Option.isNone_none, List.getElem?_cons_zero, List.getElem?_cons_succ, w1', w2', t0, t1, t2]
            refine cond_dec (fun h4 => ?_) (fun h4 => ?_)
            · simp only [wk_skip, wk_region, wk_seq, wk_block, wk_cond, wk_exit, wk_ret, wk_draw, cnd_true, cnd_false, fin_nil, fin_seq, fin_seq_exit, fin_seq_ret, fin_seq_panic, fin_block, fin_block_exit, fin_block_ret, fin_block_panic, fin_loop, fin_loop_exit, fin_loop_ret, fin_loop_panic, ops_nil, ops_cons, ops_guard, res_val, res_new, main_nil, main_cons, main_guard, mres_val, mres_new, AOp.ev, AOpd.ev, evAll, evParts, evOpt, put_get, put_none, wantA, ARes.ofOpt, tmOf, List.getD_cons_zero, List.getD_cons_succ, Nat.reduceEqDiff, if_true, if_false, reduceIte, Nat.reduceAdd, Nat.reduceMul, binA, intOp, eqOp, nilOf, lenA_slice, callA, AV.cells, undefA, Option.map_some, Option.map_none, Bool.false_eq_true, reduceCtorEq, beq_false, beq_true, g_true, g_false, mg_true, mg_false, Bool.not_true, Bool.not_false, decide_true, decide_false, not_true_eq_false, not_false_eq_true, List.nil_append, List.cons_append, List.append_nil, Option.isNone_some, Option.isNone_none, List.getElem?_cons_zero, List.getElem?_cons_succ]
              exact fnEnd_ret2 (r3 hn hkn ys ρ' h5 hroom ⟨L', W', O'⟩ o' m' (by omega))
            · simp only [wk_skip, wk_region, wk_seq, wk_block, wk_cond, wk_exit, wk_ret, wk_draw, cnd_true, cnd_false, fin_nil, fin_seq, fin_seq_exit, fin_seq_ret, fin_seq_panic, fin_block, fin_block_exit, fin_block_ret, fin_block_panic, fin_loop, fin_loop_exit, fin_loop_ret, fin_loop_panic, ops_nil, ops_cons, ops_guard, res_val, res_new, main_nil, main_cons, main_guard, mres_val, mres_new, AOp.ev, AOpd.ev, evAll, evParts, evOpt, put_get, put_none, wantA, ARes.ofOpt, tmOf, List.getD_cons_zero, List.getD_cons_succ, Nat.reduceEqDiff, if_true, if_false, reduceIte, Nat.reduceAdd, Nat.reduceMul, binA, intOp, eqOp, nilOf, lenA_slice, callA, AV.cells, undefA, Option.map_some, Option.map_none, Bool.false_eq_true, reduceCtorEq, beq_false, beq_true, g_true, g_false, mg_true, mg_false, Bool.not_true, Bool.not_false, decide_true, decide_false, not_true_eq_false, not_false_eq_true, List.nil_append, List.cons_append, List.append_nil, Option.isNone_some, Option.isNone_none, List.getElem?_cons_zero, List.getElem?_cons_succ]
              refine wk_cutb (fun tm ds h' => ds = [] ∧ h' = h5 ∧ tm 0 = .ptr (some (b, 0)) ∧ tm 1 = rv ∧ ∃ k : Nat, tm 8 = .int .i64 k ∧ Gap ys k) ?_ ?_
              · refine wk_loop (fun m tm ds h' => ds = [] ∧ h' = h5 ∧ tm 0 = .ptr (some (b, 0)) ∧ tm 1 = rv ∧ ∃ k : Nat, tm 8 = .int .i64 k ∧ k + m = ys.length ∧ ∀ (j : Nat) (hj : j < ys.length), j < k → ys[j].1.name = j + 1) ys.length
                  ⟨rfl, rfl, by simp [TM.put, t0], by simp [TM.put, t1], 0, by simp [TM.put], by omega, fun j hj h => by omega⟩ ?_
                clear t0 t1 t2 tm
                rintro m tm ds h' ⟨rfl, rfl, t0, t1, k, t8, hk, hg⟩
                have few' := W'.few
                have wrk : IntKind.i64.wrap ((k : Int) + 1) = ((k + 1 : Nat) : Int) := by by_cases e : k ≤ 65536 <;> first | (rw [wrap64 (by omega) (by omega)]; rfl) | omega
                simp only [wk_skip, wk_region, wk_seq, wk_block, wk_cond, wk_exit, wk_ret, wk_draw, cnd_true, cnd_false, fin_nil, fin_seq, fin_seq_exit, fin_seq_ret, fin_seq_panic, fin_block, fin_block_exit, fin_block_ret, fin_block_panic, fin_loop, fin_loop_exit, fin_loop_ret, fin_loop_panic, ops_nil, ops_cons, ops_guard, res_val, res_new, main_nil, main_cons, main_guard, mres_val, mres_new, AOp.ev, AOpd.ev, evAll, evParts, evOpt, put_get, put_none, wantA, ARes.ofOpt, tmOf, List.getD_cons_zero, List.getD_cons_succ, Nat.reduceEqDiff, if_true, if_false, reduceIte, Nat.reduceAdd, Nat.reduceMul, binA, intOp, eqOp, nilOf, lenA_slice, callA, AV.cells, undefA, Option.map_some, Option.map_none, Bool.false_eq_true, reduceCtorEq, beq_false, beq_true, g_true, g_false, mg_true, mg_false, Bool.not_true, Bool.not_false, decide_true, decide_false, not_true_eq_false, not_false_eq_true, List.nil_append, List.cons_append, List.append_nil, Option.isNone_some, Option.isNone_none, List.getElem?_cons_zero, List.getElem?_cons_succ, t0, t1, t8, nilCheck_ptr, W'.ld0, W'.len]
                refine g_dec (fun h6 => ?_) (fun h6 => ?_)
                · have hk' : k < ys.length := by omega
                  obtain ⟨r1, r2, g1, g2, _⟩ := W'.row k hk'
                  simp only [wk_skip, wk_region, wk_seq, wk_block, wk_cond, wk_exit, wk_ret, wk_draw, cnd_true, cnd_false, fin_nil, fin_seq, fin_seq_exit, fin_seq_ret, fin_seq_panic, fin_block, fin_block_exit, fin_block_ret, fin_block_panic, fin_loop, fin_loop_exit, fin_loop_ret, fin_loop_panic, ops_nil, ops_cons, ops_guard, res_val, res_new, main_nil, main_cons, main_guard, mres_val, mres_new, AOp.ev, AOpd.ev, evAll, evParts, evOpt, put_get, put_none, wantA, ARes.ofOpt, tmOf, List.getD_cons_zero, List.getD_cons_succ, Nat.reduceEqDiff, if_true, if_false, reduceIte, Nat.reduceAdd, Nat.reduceMul, binA, intOp, eqOp, nilOf, lenA_slice, callA, AV.cells, undefA, Option.map_some, Option.map_none, Bool.false_eq_true, reduceCtorEq, beq_false, beq_true, g_true, g_false, mg_true, mg_false, Bool.not_true, Bool.not_false, decide_true, decide_false, not_true_eq_false, not_false_eq_true, List.nil_append, List.cons_append, List.append_nil, Option.isNone_some, Option.isNone_none, List.getElem?_cons_zero, List.getElem?_cons_succ, t0, t1, t8, h6, nilCheck_ptr, W'.ld0, g1, g2, wrk]
                  refine cond_dec (fun h7 => ?_) (fun h7 => ?_)
                  · simp only [wk_skip, wk_region, wk_seq, wk_block, wk_cond, wk_exit, wk_ret, wk_draw, cnd_true, cnd_false, fin_nil, fin_seq, fin_seq_exit, fin_seq_ret, fin_seq_panic, fin_block, fin_block_exit, fin_block_ret, fin_block_panic, fin_loop, fin_loop_exit, fin_loop_ret, fin_loop_panic, ops_nil, ops_cons, ops_guard, res_val, res_new, main_nil, main_cons, main_guard, mres_val, mres_new, AOp.ev, AOpd.ev, evAll, evParts, evOpt, put_get, put_none, wantA, ARes.ofOpt, tmOf, List.getD_cons_zero, List.getD_cons_succ, Nat.reduceEqDiff, if_true, if_false, reduceIte, Nat.reduceAdd, Nat.reduceMul, binA, intOp, eqOp, nilOf, lenA_slice, callA, AV.cells, undefA, Option.map_some, Option.map_none, Bool.false_eq_true, reduceCtorEq, beq_false, beq_true, g_true, g_false, mg_true, mg_false, Bool.not_true, Bool.not_false, decide_true, decide_false, not_true_eq_false, not_false_eq_true, List.nil_append, List.cons_append, List.append_nil, Option.isNone_some, Option.isNone_none, List.getElem?_cons_zero, List.getElem?_cons_succ, t0, t1, t8, h6, wrk]
                    refine meet ⟨m - 1, by omega, rfl, rfl, by simp [TM.put, t0], by simp [TM.put, t1], k + 1, by simp [TM.put], by omega, fun j hj h => ?_⟩
                    by_cases e : j < k
                    · exact hg j hj e
                    · have : j = k := by omega
                      subst this; omega
                  · simp only [wk_skip, wk_region, wk_seq, wk_block, wk_cond, wk_exit, wk_ret, wk_draw, cnd_true, cnd_false, fin_nil, fin_seq, fin_seq_exit, fin_seq_ret, fin_seq_panic, fin_block, fin_block_exit, fin_block_ret, fin_block_panic, fin_loop, fin_loop_exit, fin_loop_ret, fin_loop_panic, ops_nil, ops_cons, ops_guard, res_val, res_new, main_nil, main_cons, main_guard, mres_val, mres_new, AOp.ev, AOpd.ev, evAll, evParts, evOpt, put_get, put_none, wantA, ARes.ofOpt, tmOf, List.getD_cons_zero, List.getD_cons_succ, Nat.reduceEqDiff, if_true, if_false, reduceIte, Nat.reduceAdd, Nat.reduceMul, binA, intOp, eqOp, nilOf, lenA_slice, callA, AV.cells, undefA, Option.map_some, Option.map_none, Bool.false_eq_true, reduceCtorEq, beq_false, beq_true, g_true, g_false, mg_true, mg_false, Bool.not_true, Bool.not_false, decide_true, decide_false, not_true_eq_false, not_false_eq_true, List.nil_append, List.cons_append, List.append_nil, Option.isNone_some, Option.isNone_none, List.getElem?_cons_zero, List.getElem?_cons_succ, t0, t1, t8, h6]
                    exact meet ⟨rfl, rfl, by simp [TM.put, t0], by simp [TM.put, t1], k, by simp [TM.put, t8], by omega, hg, fun hk h => h7 (by omega)⟩
                · simp only [wk_skip, wk_region, wk_seq, wk_block, wk_cond, wk_exit, wk_ret, wk_draw, cnd_true, cnd_false, fin_nil, fin_seq, fin_seq_exit, fin_seq_ret, fin_seq_panic, fin_block, fin_block_exit, fin_block_ret, fin_block_panic, fin_loop, fin_loop_exit, fin_loop_ret, fin_loop_panic, ops_nil, ops_cons, ops_guard, res_val, res_new, main_nil, main_cons, main_guard, mres_val, mres_new, AOp.ev, AOpd.ev, evAll, evParts, evOpt, put_get, put_none, wantA, ARes.ofOpt, tmOf, List.getD_cons_zero, List.getD_cons_succ, Nat.reduceEqDiff, if_true, if_false, reduceIte, Nat.reduceAdd, Nat.reduceMul, binA, intOp, eqOp, nilOf, lenA_slice, callA, AV.cells, undefA, Option.map_some, Option.map_none, Bool.false_eq_true, reduceCtorEq, beq_false, beq_true, g_true, g_false, mg_true, mg_false, Bool.not_true, Bool.not_false, decide_true, decide_false, not_true_eq_false, not_false_eq_true, List.nil_append, List.cons_append, List.append_nil, Option.isNone_some, Option.isNone_none, List.getElem?_cons_zero, List.getElem?_cons_succ, t0, t1, t8, h6]
                  exact meet ⟨rfl, rfl, by simp [TM.put, t0], by simp [TM.put, t1], k, by simp [TM.put, t8], by omega, hg, fun hk h => absurd (by omega) h6⟩
              · clear t0 t1 t2 tm
                rintro tm ds h' ⟨rfl, rfl, t0, t1, k, t8, hg⟩
                have few' := W'.few
                have wrk : IntKind.i64.wrap ((k : Int) + 1) = ((k + 1 : Nat) : Int) := by
                  have := hg.1
                  rw [wrap64 (by omega) (by omega)]; rfl
                have hmk := fun (h : AHeap) => make_one (h := h) (bytes := 8) (z := .int .u64 0) (n := refs.length) (by omega) (by omega)
                refine wk_cut (fun tm ds h2 => ds = [] ∧ tm 0 = .ptr (some (b, 0)) ∧ tm 8 = .int .i64 k ∧ ∃ (cb ab : Nat) (rv' : AV), tm 9 = .ptr (some (ab, 0)) ∧ More h' h2 ∧ h' ab = none ∧
                  h2 ab = some (.cells [.int .i64 ((k + 1 : Nat) : Int), .slice (some (cb, 0)) 1 refs.length refs.length true, rv'] false) ∧ h' cb = none ∧
                  h2 cb = some (.cells (List.replicate refs.length (.int .u64 0)) false) ∧ Grown h' h2 1 rv' (refs.map .bool) ∧ blkOf rv' ≠ some cb ∧ blkOf rv' ≠ some ab ∧ ab ≠ cb) ?_ ?_
                · simp only [wk_skip, wk_region, wk_seq, wk_block, wk_cond, wk_exit, wk_ret, wk_draw, cnd_true, cnd_false, fin_nil, fin_seq, fin_seq_exit, fin_seq_ret, fin_seq_panic, fin_block, fin_block_exit, fin_block_ret, fin_block_panic, fin_loop, fin_loop_exit, fin_loop_ret, fin_loop_panic, ops_nil, ops_cons, ops_guard, res_val, res_new, main_nil, main_cons, main_guard, mres_val, mres_new, AOp.ev, AOpd.ev, evAll, evParts, evOpt, put_get, put_none, wantA, ARes.ofOpt, tmOf, List.getD_cons_zero, List.getD_cons_succ, Nat.reduceEqDiff, if_true, if_false, reduceIte, Nat.reduceAdd, Nat.reduceMul, binA, intOp, eqOp, nilOf, lenA_slice, callA, AV.cells, undefA, Option.map_some, Option.map_none, Bool.false_eq_true, reduceCtorEq, beq_false, beq_true, g_true, g_false, mg_true, mg_false, Bool.not_true, Bool.not_false, decide_true, decide_false, not_true_eq_false, not_false_eq_true, List.nil_append, List.cons_append, List.append_nil, Option.isNone_some, Option.isNone_none, List.getElem?_cons_zero, List.getElem?_cons_succ, t0, t1, t8, hrl', wrk, hmk]
                  intro cb hcb
                  simp only [wk_skip, wk_region, wk_seq, wk_block, wk_cond, wk_exit, wk_ret, wk_draw, cnd_true, cnd_false, fin_nil, fin_seq, fin_seq_exit, fin_seq_ret, fin_seq_panic, fin_block, fin_block_exit, fin_block_ret, fin_block_panic, fin_loop, fin_loop_exit, fin_loop_ret, fin_loop_panic, ops_nil, ops_cons, ops_guard, res_val, res_new, main_nil, main_cons, main_guard, mres_val, mres_new, AOp.ev, AOpd.ev, evAll, evParts, evOpt, put_get, put_none, wantA, ARes.ofOpt, tmOf, List.getD_cons_zero, List.getD_cons_succ, Nat.reduceEqDiff, if_true, if_false, reduceIte, Nat.reduceAdd, Nat.reduceMul, binA, intOp, eqOp, nilOf, lenA_slice, callA, AV.cells, undefA, Option.map_some, Option.map_none, Bool.false_eq_true, reduceCtorEq, beq_false, beq_true, g_true, g_false, mg_true, mg_false, Bool.not_true, Bool.not_false, decide_true, decide_false, not_true_eq_false, not_false_eq_true, List.nil_append, List.cons_append, List.append_nil, Option.isNone_some, Option.isNone_none, List.getElem?_cons_zero, List.getElem?_cons_succ, t0, t1, t8, fill_nil]
                  intro eb heb ab hab
                  have m1 := More.upd hcb (.cells (List.replicate refs.length (.int .u64 0)) false)
                  have G0 := Grown.make (sz := 1) (n := 0) (ex := true) heb (x := []) (by simp)
                  have m3 := More.upd hab (.cells [.int .i64 0, .slice none 0 0 0 true, .slice none 0 0 0 true] false)
                  have c1 := (m3.at_ (G0.more.at_ (AHeap.upd_same h' cb (.cells (List.replicate refs.length (.int .u64 0)) false))))
                  have c3 := AHeap.upd_same (((h'.upd cb (.cells (List.replicate refs.length (.int .u64 0)) false)).upd eb (.cells [] false))) ab (.cells [.int .i64 0, .slice none 0 0 0 true, .slice none 0 0 0 true] false)
                  have nae : ab ≠ eb := (upd_none hab).1
                  have nac : ab ≠ cb := (upd_none (upd_none hab).2).1
                  have nec : eb ≠ cb := (upd_none heb).1
                  have hab' : h' ab = none := (upd_none (upd_none hab).2).2
                  have G := (G0.grow m3).base m1
                  have HR3 := slice_more HR' G.more
                  refine mres_append (bytes := 1) G HR3 (by omega) (by simp; omega) (by omega) rfl (by simp [AV.oneCell]) ?_ ?_
                  · intro c hc q hq
                    cases hc
                    simp only [List.mem_cons, List.not_mem_nil, or_false] at hq
                    rcases hq with rfl | rfl
                    · intro d x k' b' hd he hk
                      cases hd
                      obtain ⟨hh, he⟩ := he
                      simp only [wk_skip, wk_region, wk_seq, wk_block, wk_cond, wk_exit, wk_ret, wk_draw, cnd_true, cnd_false, fin_nil, fin_seq, fin_seq_exit, fin_seq_ret, fin_seq_panic, fin_block, fin_block_exit, fin_block_ret, fin_block_panic, fin_loop, fin_loop_exit, fin_loop_ret, fin_loop_panic, ops_nil, ops_cons, ops_guard, res_val, res_new, main_nil, main_cons, main_guard, mres_val, mres_new, AOp.ev, AOpd.ev, evAll, evParts, evOpt, put_get, put_none, wantA, ARes.ofOpt, tmOf, List.getD_cons_zero, List.getD_cons_succ, Nat.reduceEqDiff, if_true, if_false, reduceIte, Nat.reduceAdd, Nat.reduceMul, binA, intOp, eqOp, nilOf, lenA_slice, callA, AV.cells, undefA, Option.map_some, Option.map_none, Bool.false_eq_true, reduceCtorEq, beq_false, beq_true, g_true, g_false, mg_true, mg_false, Bool.not_true, Bool.not_false, decide_true, decide_false, not_true_eq_false, not_false_eq_true, List.nil_append, List.cons_append, List.append_nil, Option.isNone_some, Option.isNone_none, List.getElem?_cons_zero, List.getElem?_cons_succ, hrl', hmk, ARes.new.injEq] at he
                      obtain ⟨_, rfl, _⟩ := he
                      simp only [wk_skip, wk_region, wk_seq, wk_block, wk_cond, wk_exit, wk_ret, wk_draw, cnd_true, cnd_false, fin_nil, fin_seq, fin_seq_exit, fin_seq_ret, fin_seq_panic, fin_block, fin_block_exit, fin_block_ret, fin_block_panic, fin_loop, fin_loop_exit, fin_loop_ret, fin_loop_panic, ops_nil, ops_cons, ops_guard, res_val, res_new, main_nil, main_cons, main_guard, mres_val, mres_new, AOp.ev, AOpd.ev, evAll, evParts, evOpt, put_get, put_none, wantA, ARes.ofOpt, tmOf, List.getD_cons_zero, List.getD_cons_succ, Nat.reduceEqDiff, if_true, if_false, reduceIte, Nat.reduceAdd, Nat.reduceMul, binA, intOp, eqOp, nilOf, lenA_slice, callA, AV.cells, undefA, Option.map_some, Option.map_none, Bool.false_eq_true, reduceCtorEq, beq_false, beq_true, g_true, g_false, mg_true, mg_false, Bool.not_true, Bool.not_false, decide_true, decide_false, not_true_eq_false, not_false_eq_true, List.nil_append, List.cons_append, List.append_nil, Option.isNone_some, Option.isNone_none, List.getElem?_cons_zero, List.getElem?_cons_succ, AV.slice.injEq, Option.some.injEq, Prod.mk.injEq] at hk
                      obtain ⟨⟨rfl, _⟩, _⟩ := hk
                      exact fun e => nec e.symm
                    · intro d x k' b' hd he hk
                      cases hd
                      obtain ⟨hh, he⟩ := he
                      simp only [wk_skip, wk_region, wk_seq, wk_block, wk_cond, wk_exit, wk_ret, wk_draw, cnd_true, cnd_false, fin_nil, fin_seq, fin_seq_exit, fin_seq_ret, fin_seq_panic, fin_block, fin_block_exit, fin_block_ret, fin_block_panic, fin_loop, fin_loop_exit, fin_loop_ret, fin_loop_panic, ops_nil, ops_cons, ops_guard, res_val, res_new, main_nil, main_cons, main_guard, mres_val, mres_new, AOp.ev, AOpd.ev, evAll, evParts, evOpt, put_get, put_none, wantA, ARes.ofOpt, tmOf, List.getD_cons_zero, List.getD_cons_succ, Nat.reduceEqDiff, if_true, if_false, reduceIte, Nat.reduceAdd, Nat.reduceMul, binA, intOp, eqOp, nilOf, lenA_slice, callA, AV.cells, undefA, Option.map_some, Option.map_none, Bool.false_eq_true, reduceCtorEq, beq_false, beq_true, g_true, g_false, mg_true, mg_false, Bool.not_true, Bool.not_false, decide_true, decide_false, not_true_eq_false, not_false_eq_true, List.nil_append, List.cons_append, List.append_nil, Option.isNone_some, Option.isNone_none, List.getElem?_cons_zero, List.getElem?_cons_succ, ARes.new.injEq] at he
                      obtain ⟨_, rfl, _⟩ := he
                      simp only [wk_skip, wk_region, wk_seq, wk_block, wk_cond, wk_exit, wk_ret, wk_draw, cnd_true, cnd_false, fin_nil, fin_seq, fin_seq_exit, fin_seq_ret, fin_seq_panic, fin_block, fin_block_exit, fin_block_ret, fin_block_panic, fin_loop, fin_loop_exit, fin_loop_ret, fin_loop_panic, ops_nil, ops_cons, ops_guard, res_val, res_new, main_nil, main_cons, main_guard, mres_val, mres_new, AOp.ev, AOpd.ev, evAll, evParts, evOpt, put_get, put_none, wantA, ARes.ofOpt, tmOf, List.getD_cons_zero, List.getD_cons_succ, Nat.reduceEqDiff, if_true, if_false, reduceIte, Nat.reduceAdd, Nat.reduceMul, binA, intOp, eqOp, nilOf, lenA_slice, callA, AV.cells, undefA, Option.map_some, Option.map_none, Bool.false_eq_true, reduceCtorEq, beq_false, beq_true, g_true, g_false, mg_true, mg_false, Bool.not_true, Bool.not_false, decide_true, decide_false, not_true_eq_false, not_false_eq_true, List.nil_append, List.cons_append, List.append_nil, Option.isNone_some, Option.isNone_none, List.getElem?_cons_zero, List.getElem?_cons_succ, AV.ptr.injEq, Option.some.injEq, Prod.mk.injEq] at hk
                      obtain ⟨rfl, _⟩ := hk
                      exact nae
                  · intro rv' h4 G4 d4 k4 o4
                    have ha4 := (k4 ab (by rw [c3]; simp) (by simp [blkOf]; exact fun e => nae e.symm)).trans c3
                    have hc4 := (k4 cb (by rw [c1]; simp) (by simp [blkOf]; exact nec)).trans c1
                    have hst : ∀ (i : Int) (u w : AV), u.oneCell = true → w.oneCell = true → storeA h4 3 (.ptr (some (ab, 0))) (.agg [.int .i64 i, u, w]) = .val undefA (h4.upd ab (.cells [.int .i64 i, u, w] false)) := fun i u w hu hw => by
                      have ho : AV.oneCell (.int .i64 i) = true := rfl
                      simp [storeA, ha4, AV.cells, hu, hw, ho, setL]
                    have hfill : fillA [.int .i64 0, .slice none 0 0 0 true, .slice none 0 0 0 true] [(0, 1, .int .i64 ((k + 1 : Nat) : Int)), (1, 1, .slice (some (cb, 0)) 1 refs.length refs.length true), (2, 1, rv')] = some [.int .i64 ((k + 1 : Nat) : Int), .slice (some (cb, 0)) 1 refs.length refs.length true, rv'] := by
                      obtain ⟨p, sz', len, cap, ex, hrv, _⟩ := G4.at_.out
                      rw [hrv]; rfl
                    have hne1 : blkOf rv' ≠ some cb := fun e => by
                      rcases o4 cb e with h | h
                      · cases h; exact nec rfl
                      · rw [c1] at h; cases h
                    have hne2 : blkOf rv' ≠ some ab := fun e => by
                      rcases o4 ab e with h | h
                      · cases h; exact nae rfl
                      · rw [c3] at h; cases h
                    have keep : ∀ c, c ≠ ab → (h4.upd ab (.cells [.int .i64 ((k + 1 : Nat) : Int), .slice (some (cb, 0)) 1 refs.length refs.length true, rv'] false)) c = h4 c := fun c hc => AHeap.upd_other _ _ hc
                    have Gf : Grown h' (h4.upd ab (.cells [.int .i64 ((k + 1 : Nat) : Int), .slice (some (cb, 0)) 1 refs.length refs.length true, rv'] false)) 1 rv' (refs.map .bool) :=
                      ⟨fun c hc => (keep c fun e => hc (e ▸ hab')).trans (G4.more c hc), G4.at_.keep fun c hc => keep c fun e => hne2 (e ▸ hc), fun c hc => ⟨(G4.own c hc).1, by rw [keep c fun e => hne2 (e ▸ hc)]; exact (G4.own c hc).2⟩⟩
                    simp only [wk_skip, wk_region, wk_seq, wk_block, wk_cond, wk_exit, wk_ret, wk_draw, cnd_true, cnd_false, fin_nil, fin_seq, fin_seq_exit, fin_seq_ret, fin_seq_panic, fin_block, fin_block_exit, fin_block_ret, fin_block_panic, fin_loop, fin_loop_exit, fin_loop_ret, fin_loop_panic, ops_nil, ops_cons, ops_guard, res_val, res_new, main_nil, main_cons, main_guard, mres_val, mres_new, AOp.ev, AOpd.ev, evAll, evParts, evOpt, put_get, put_none, wantA, ARes.ofOpt, tmOf, List.getD_cons_zero, List.getD_cons_succ, Nat.reduceEqDiff, if_true, if_false, reduceIte, Nat.reduceAdd, Nat.reduceMul, binA, intOp, eqOp, nilOf, lenA_slice, callA, AV.cells, undefA, Option.map_some, Option.map_none, Bool.false_eq_true, reduceCtorEq, beq_false, beq_true, g_true, g_false, mg_true, mg_false, Bool.not_true, Bool.not_false, decide_true, decide_false, not_true_eq_false, not_false_eq_true, List.nil_append, List.cons_append, List.append_nil, Option.isNone_some, Option.isNone_none, List.getElem?_cons_zero, List.getElem?_cons_succ, hfill, hst ((k + 1 : Nat) : Int) (.slice (some (cb, 0)) 1 refs.length refs.length true) rv' rfl (SliceAt_cell G4.at_), t0, t8]
                    exact meet ⟨rfl, by simp [TM.put, t0], by simp [TM.put, t8], cb, ab, rv', by simp [TM.put], Gf.more, hab', AHeap.upd_same _ _ _, hcb, by rw [keep cb fun e => nac e.symm]; exact hc4, Gf, hne1, hne2, nac⟩
                · clear t0 t1 t8 tm
                  rintro tm ds h2 ⟨rfl, t0, t8, cb, ab, rv', t9, M2, hab, ha2, hcb, hc2, G2, n1, n2, n3⟩
                  have hkl := hg.1
                  have hrow := rows_one W' (ys := ys) (fun x hx => hx)
                  have hlen3 := rowsOf_len ys
                  have hrow1 : ([.int .i64 ((k + 1 : Nat) : Int), .slice (some (cb, 0)) 1 refs.length refs.length true, rv'] : List AV).all AV.oneCell = true := by
                    obtain ⟨p, sz', len, cap, ex, hrv, _⟩ := G2.at_.out
                    rw [hrv]; rfl
                  simp only [wk_skip, wk_region, wk_seq, wk_block, wk_cond, wk_exit, wk_ret, wk_draw, cnd_true, cnd_false, fin_nil, fin_seq, fin_seq_exit, fin_seq_ret, fin_seq_panic, fin_block, fin_block_exit, fin_block_ret, fin_block_panic, fin_loop, fin_loop_exit, fin_loop_ret, fin_loop_panic, ops_nil, ops_cons, ops_guard, res_val, res_new, main_nil, main_cons, main_guard, mres_val, mres_new, AOp.ev, AOpd.ev, evAll, evParts, evOpt, put_get, put_none, wantA, ARes.ofOpt, tmOf, List.getD_cons_zero, List.getD_cons_succ, Nat.reduceEqDiff, if_true, if_false, reduceIte, Nat.reduceAdd, Nat.reduceMul, binA, intOp, eqOp, nilOf, lenA_slice, callA, AV.cells, undefA, Option.map_some, Option.map_none, Bool.false_eq_true, reduceCtorEq, beq_false, beq_true, g_true, g_false, mg_true, mg_false, Bool.not_true, Bool.not_false, decide_true, decide_false, not_true_eq_false, not_false_eq_true, List.nil_append, List.cons_append, List.append_nil, Option.isNone_some, Option.isNone_none, List.getElem?_cons_zero, List.getElem?_cons_succ, t0, t8, t9, fill_nil]
                  intro eb heb
                  have G0 := Grown.make (sz := 3) (n := 0) (ex := true) heb (x := []) (by simp)
                  have W2 := (W'.more M2).more G0.more
                  obtain ⟨v1, e1, S1, _⟩ := W2.list.upto k hlen3 (by omega) hkl .i64
                  simp only [wk_skip, wk_region, wk_seq, wk_block, wk_cond, wk_exit, wk_ret, wk_draw, cnd_true, cnd_false, fin_nil, fin_seq, fin_seq_exit, fin_seq_ret, fin_seq_panic, fin_block, fin_block_exit, fin_block_ret, fin_block_panic, fin_loop, fin_loop_exit, fin_loop_ret, fin_loop_panic, ops_nil, ops_cons, ops_guard, res_val, res_new, main_nil, main_cons, main_guard, mres_val, mres_new, AOp.ev, AOpd.ev, evAll, evParts, evOpt, put_get, put_none, wantA, ARes.ofOpt, tmOf, List.getD_cons_zero, List.getD_cons_succ, Nat.reduceEqDiff, if_true, if_false, reduceIte, Nat.reduceAdd, Nat.reduceMul, binA, intOp, eqOp, nilOf, lenA_slice, callA, AV.cells, undefA, Option.map_some, Option.map_none, Bool.false_eq_true, reduceCtorEq, beq_false, beq_true, g_true, g_false, mg_true, mg_false, Bool.not_true, Bool.not_false, decide_true, decide_false, not_true_eq_false, not_false_eq_true, List.nil_append, List.cons_append, List.append_nil, Option.isNone_some, Option.isNone_none, List.getElem?_cons_zero, List.getElem?_cons_succ, t0, t8, t9, nilCheck_ptr, W2.ld0, e1]
                  refine res_append (bytes := 56) G0 S1 (by omega) (by rw [List.length_take]; simp; omega) (by omega) rfl (List.all_eq_true.2 fun v hv => List.all_eq_true.1 hrow v (List.mem_of_mem_take hv)) ?_
                  intro v2 h3 G1 d1 k1 o1
                  rw [List.nil_append, ← rowsOf_take] at G1
                  have ld3 : loadA h3 (some 3) (.ptr (some (ab, 0))) = .val (.agg [.int .i64 ((k + 1 : Nat) : Int), .slice (some (cb, 0)) 1 refs.length refs.length true, rv']) h3 := by
                    simp [loadA, G1.more.at_ ha2]
                  simp only [wk_skip, wk_region, wk_seq, wk_block, wk_cond, wk_exit, wk_ret, wk_draw, cnd_true, cnd_false, fin_nil, fin_seq, fin_seq_exit, fin_seq_ret, fin_seq_panic, fin_block, fin_block_exit, fin_block_ret, fin_block_panic, fin_loop, fin_loop_exit, fin_loop_ret, fin_loop_panic, ops_nil, ops_cons, ops_guard, res_val, res_new, main_nil, main_cons, main_guard, mres_val, mres_new, AOp.ev, AOpd.ev, evAll, evParts, evOpt, put_get, put_none, wantA, ARes.ofOpt, tmOf, List.getD_cons_zero, List.getD_cons_succ, Nat.reduceEqDiff, if_true, if_false, reduceIte, Nat.reduceAdd, Nat.reduceMul, binA, intOp, eqOp, nilOf, lenA_slice, callA, AV.cells, undefA, Option.map_some, Option.map_none, Bool.false_eq_true, reduceCtorEq, beq_false, beq_true, g_true, g_false, mg_true, mg_false, Bool.not_true, Bool.not_false, decide_true, decide_false, not_true_eq_false, not_false_eq_true, List.nil_append, List.cons_append, List.append_nil, Option.isNone_some, Option.isNone_none, List.getElem?_cons_zero, List.getElem?_cons_succ, t0, t8, t9, ld3, fill_row]
                  intro rb hrb
                  have hl4 : (rowsOf (ys.take k)).length ≤ 200000 := by rw [rowsOf_len, List.length_take]; omega
                  refine res_append (bytes := 56) (G1.grow (More.upd hrb _)) (slice_one rfl) (by omega) (by simp; omega) (by omega) (rows_one W' fun x hx => List.mem_of_mem_take hx) hrow1 ?_
                  intro v3 h4 G3 d3 k3 o3
                  have W4 := (W'.more M2).more G3.more
                  obtain ⟨v4, e4, S4, _⟩ := W4.list.from_ k hlen3 (by omega) hkl .i64
                  simp only [wk_skip, wk_region, wk_seq, wk_block, wk_cond, wk_exit, wk_ret, wk_draw, cnd_true, cnd_false, fin_nil, fin_seq, fin_seq_exit, fin_seq_ret, fin_seq_panic, fin_block, fin_block_exit, fin_block_ret, fin_block_panic, fin_loop, fin_loop_exit, fin_loop_ret, fin_loop_panic, ops_nil, ops_cons, ops_guard, res_val, res_new, main_nil, main_cons, main_guard, mres_val, mres_new, AOp.ev, AOpd.ev, evAll, evParts, evOpt, put_get, put_none, wantA, ARes.ofOpt, tmOf, List.getD_cons_zero, List.getD_cons_succ, Nat.reduceEqDiff, if_true, if_false, reduceIte, Nat.reduceAdd, Nat.reduceMul, binA, intOp, eqOp, nilOf, lenA_slice, callA, AV.cells, undefA, Option.map_some, Option.map_none, Bool.false_eq_true, reduceCtorEq, beq_false, beq_true, g_true, g_false, mg_true, mg_false, Bool.not_true, Bool.not_false, decide_true, decide_false, not_true_eq_false, not_false_eq_true, List.nil_append, List.cons_append, List.append_nil, Option.isNone_some, Option.isNone_none, List.getElem?_cons_zero, List.getElem?_cons_succ, t0, t8, t9, nilCheck_ptr, W4.ld0, e4]
                  rw [← rowsOf_drop] at S4
                  have hl5 : (rowsOf (ys.drop k)).length ≤ 200000 := by rw [rowsOf_len, List.length_drop]; omega
                  refine res_append (bytes := 56) G3 S4 (by omega) (by simp; omega) (by omega) (by rw [List.all_append, hrow1, rows_one W' (fun x hx => List.mem_of_mem_take hx)]; rfl) (rows_one W' fun x hx => List.mem_of_mem_drop hx) ?_
                  intro v5 h5 G5 d5 k5 o5
                  have W5 := (W'.more M2).more G5.more
                  have hst : storeA h5 1 (.ptr (some (b, 0 + 0))) v5 = .val undefA (h5.upd b (.cells [v5, .int .i64 B] false)) := by
                    have := SliceAt_cell G5.at_
                    simp only [storeA, W5.top, oneCell_cells this]
                    rw [if_pos ⟨rfl, by simp, by simp [this]⟩]
                    rfl
                  simp only [wk_skip, wk_region, wk_seq, wk_block, wk_cond, wk_exit, wk_ret, wk_draw, cnd_true, cnd_false, fin_nil, fin_seq, fin_seq_exit, fin_seq_ret, fin_seq_panic, fin_block, fin_block_exit, fin_block_ret, fin_block_panic, fin_loop, fin_loop_exit, fin_loop_ret, fin_loop_panic, ops_nil, ops_cons, ops_guard, res_val, res_new, main_nil, main_cons, main_guard, mres_val, mres_new, AOp.ev, AOpd.ev, evAll, evParts, evOpt, put_get, put_none, wantA, ARes.ofOpt, tmOf, List.getD_cons_zero, List.getD_cons_succ, Nat.reduceEqDiff, if_true, if_false, reduceIte, Nat.reduceAdd, Nat.reduceMul, binA, intOp, eqOp, nilOf, lenA_slice, callA, AV.cells, undefA, Option.map_some, Option.map_none, Bool.false_eq_true, reduceCtorEq, beq_false, beq_true, g_true, g_false, mg_true, mg_false, Bool.not_true, Bool.not_false, decide_true, decide_false, not_true_eq_false, not_false_eq_true, List.nil_append, List.cons_append, List.append_nil, Option.isNone_some, Option.isNone_none, List.getElem?_cons_zero, List.getElem?_cons_succ, t0, t8, t9, nilCheck_ptr, hst]
                  have tg := total_ge ys
                  have hrows : rowsOf (ys.take k) ++ [.int .i64 ((k + 1 : Nat) : Int), .slice (some (cb, 0)) 1 refs.length refs.length true, rv'] ++ rowsOf (ys.drop k) =
                      rowsOf (insAt ys k (⟨k + 1, List.replicate refs.length 0, refs⟩, .slice (some (cb, 0)) 1 refs.length refs.length true, rv')) := by
                    unfold insAt
                    rw [rowsOf_append]
                    simp [rowsOf]
                  rw [hrows] at G5
                  have oc : ∀ c, blkOf (AV.slice (some (cb, 0)) 1 refs.length refs.length true) = some c → h' c = none ∧ blkOf v5 ≠ some c ∧ ∃ ds, h5 c = some (.cells ds false) := fun c hc => by
                    cases hc
                    refine ⟨hcb, fun e => ?_, _, G5.more.at_ hc2⟩
                    have := (G5.own cb e).1
                    rw [hc2] at this; cases this
                  have or' : ∀ c, blkOf rv' = some c → h' c = none ∧ blkOf v5 ≠ some c ∧ blkOf (AV.slice (some (cb, 0)) 1 refs.length refs.length true) ≠ some c := fun c hc => by
                    refine ⟨(G2.own c hc).1, fun e => ?_, fun e => n1 (by cases e; exact hc)⟩
                    obtain ⟨_, ds, h6⟩ := G2.own c hc
                    have := (G5.own c e).1
                    rw [h6] at this; cases this
                  have fin := WRep.ins W' O' hg (x := (⟨k + 1, List.replicate refs.length 0, refs⟩, .slice (some (cb, 0)) 1 refs.length refs.length true, rv')) rfl (G5.base M2)
                    (by simp only [List.map_replicate]; exact slice_at (G5.more.at_ hc2) (by simp)) (slice_more G2.at_ G5.more) (by simp) (by omega) (by simp; omega)
                    oc or'
                  obtain ⟨f1, f2, f3⟩ := fin
                  rw [wrk]
                  refine fnEnd_ret2 ?_
                  exact r4 hn hkn ys _ _ k _ rv' hroom (by omega) hg f1 (o'.trans f2 m') (m'.trans o' f3)
          · rintro u h5 ⟨_, e⟩; cases e
      · rintro u h3 ⟨_, e⟩; cases e
  · rintro u h2 ⟨_, q, e, _⟩; cases e
end Go.Proofs.Ytnkdjfmidiffdaa
namespace Go.Proofs.Ytnkdjfmidiffdaa
open Go Go.Proofs Go.Am
variable {N : Nat}

/-! ### Copies of slices. -/
theorem clone44_c {h : AHeap} {v : AV} {cs : List AV} (S : SliceAt h 1 v cs) (hl : cs.length ≤ 4000000000) (ho : cs.all AV.oneCell = true) : ARets Try.prog N 44 [v] h (fun r h' => Grown h h' 1 r cs) := by
  obtain ⟨p, sz', len, cap, ex, rfl, h1, h2, h3, h4⟩ := id S.out
  refine acalls_of_wp c44_ok mixed (by show 1 ≤ 8; decide) (wk_start ?_)
  unfold c44
  cases p with
  | none =>
    have hcs : cs = [] := List.eq_nil_of_length_eq_zero (by rw [h1, (h3 rfl).1])
    subst hcs
    simp only [wk_skip, wk_region, wk_seq, wk_block, wk_cond, wk_exit, wk_ret, wk_draw, cnd_true, cnd_false, fin_nil, fin_seq, fin_seq_exit, fin_seq_ret, fin_seq_panic, fin_block, fin_block_exit, fin_block_ret, fin_block_panic, fin_loop, fin_loop_exit, fin_loop_ret, fin_loop_panic, ops_nil, ops_cons, ops_guard, res_val, res_new, main_nil, main_cons, main_guard, mres_val, mres_new, AOp.ev, AOpd.ev, evAll, evParts, evOpt, put_get, put_none, wantA, ARes.ofOpt, tmOf, List.getD_cons_zero, List.getD_cons_succ, Nat.reduceEqDiff, if_true, if_false, reduceIte, Nat.reduceAdd, Nat.reduceMul, binA, intOp, eqOp, nilOf, lenA_slice, callA, AV.cells, undefA, Option.map_some, Option.map_none, Bool.false_eq_true, reduceCtorEq, beq_false, beq_true, g_true, g_false, mg_true, mg_false, Bool.not_true, Bool.not_false, decide_true, decide_false, not_true_eq_false, not_false_eq_true, List.nil_append, List.cons_append, List.append_nil, Option.isNone_some, Option.isNone_none, List.getElem?_cons_zero, List.getElem?_cons_succ]
    exact fnEnd_ret1 (Grown.nil (More.refl _) 1 0 true)
  | some q =>
    simp only [wk_skip, wk_region, wk_seq, wk_block, wk_cond, wk_exit, wk_ret, wk_draw, cnd_true, cnd_false, fin_nil, fin_seq, fin_seq_exit, fin_seq_ret, fin_seq_panic, fin_block, fin_block_exit, fin_block_ret, fin_block_panic, fin_loop, fin_loop_exit, fin_loop_ret, fin_loop_panic, ops_nil, ops_cons, ops_guard, res_val, res_new, main_nil, main_cons, main_guard, mres_val, mres_new, AOp.ev, AOpd.ev, evAll, evParts, evOpt, put_get, put_none, wantA, ARes.ofOpt, tmOf, List.getD_cons_zero, List.getD_cons_succ, Nat.reduceEqDiff, if_true, if_false, reduceIte, Nat.reduceAdd, Nat.reduceMul, binA, intOp, eqOp, nilOf, lenA_slice, callA, AV.cells, undefA, Option.map_some, Option.map_none, Bool.false_eq_true, reduceCtorEq, beq_false, beq_true, g_true, g_false, mg_true, mg_false, Bool.not_true, Bool.not_false, decide_true, decide_false, not_true_eq_false, not_false_eq_true, List.nil_append, List.cons_append, List.append_nil, Option.isNone_some, Option.isNone_none, List.getElem?_cons_zero, List.getElem?_cons_succ, fill_nil]
    intro b hb
    have G := Grown.make (sz := 1) (n := 0) (ex := true) hb (x := []) (by simp)
    refine res_append (bytes := 8) G (slice_more S G.more) (by omega) (by simp; omega) (by omega) rfl ho ?_
    intro v' h' G' _ _ _
    simp only [wk_skip, wk_region, wk_seq, wk_block, wk_cond, wk_exit, wk_ret, wk_draw, cnd_true, cnd_false, fin_nil, fin_seq, fin_seq_exit, fin_seq_ret, fin_seq_panic, fin_block, fin_block_exit, fin_block_ret, fin_block_panic, fin_loop, fin_loop_exit, fin_loop_ret, fin_loop_panic, ops_nil, ops_cons, ops_guard, res_val, res_new, main_nil, main_cons, main_guard, mres_val, mres_new, AOp.ev, AOpd.ev, evAll, evParts, evOpt, put_get, put_none, wantA, ARes.ofOpt, tmOf, List.getD_cons_zero, List.getD_cons_succ, Nat.reduceEqDiff, if_true, if_false, reduceIte, Nat.reduceAdd, Nat.reduceMul, binA, intOp, eqOp, nilOf, lenA_slice, callA, AV.cells, undefA, Option.map_some, Option.map_none, Bool.false_eq_true, reduceCtorEq, beq_false, beq_true, g_true, g_false, mg_true, mg_false, Bool.not_true, Bool.not_false, decide_true, decide_false, not_true_eq_false, not_false_eq_true, List.nil_append, List.cons_append, List.append_nil, Option.isNone_some, Option.isNone_none, List.getElem?_cons_zero, List.getElem?_cons_succ]
    exact fnEnd_ret1 (by simpa [TM.put] using G')
theorem clone32_c {h : AHeap} {v : AV} {cs : List AV} (S : SliceAt h 1 v cs) (hl : cs.length ≤ 4000000000) (ho : cs.all AV.oneCell = true) : ARets Try.prog N 32 [v] h (fun r h' => Grown h h' 1 r cs) := by
  obtain ⟨p, sz', len, cap, ex, rfl, h1, h2, h3, h4⟩ := id S.out
  refine acalls_of_wp c32_ok mixed (by show 1 ≤ 8; decide) (wk_start ?_)
  unfold c32
  cases p with
  | none =>
    have hcs : cs = [] := List.eq_nil_of_length_eq_zero (by rw [h1, (h3 rfl).1])
    subst hcs
    simp only [wk_skip, wk_region, wk_seq, wk_block, wk_cond, wk_exit, wk_ret, wk_draw, cnd_true, cnd_false, fin_nil, fin_seq, fin_seq_exit, fin_seq_ret, fin_seq_panic, fin_block, fin_block_exit, fin_block_ret, fin_block_panic, fin_loop, fin_loop_exit, fin_loop_ret, fin_loop_panic, ops_nil, ops_cons, ops_guard, res_val, res_new, main_nil, main_cons, main_guard, mres_val, mres_new, AOp.ev, AOpd.ev, evAll, evParts, evOpt, put_get, put_none, wantA, ARes.ofOpt, tmOf, List.getD_cons_zero, List.getD_cons_succ, Nat.reduceEqDiff, if_true, if_false, reduceIte, Nat.reduceAdd, Nat.reduceMul, binA, intOp, eqOp, nilOf, lenA_slice, callA, AV.cells, undefA, Option.map_some, Option.map_none, Bool.false_eq_true, reduceCtorEq, beq_false, beq_true, g_true, g_false, mg_true, mg_false, Bool.not_true, Bool.not_false, decide_true, decide_false, not_true_eq_false, not_false_eq_true, List.nil_append, List.cons_append, List.append_nil, Option.isNone_some, Option.isNone_none, List.getElem?_cons_zero, List.getElem?_cons_succ]
    exact fnEnd_ret1 (Grown.nil (More.refl _) 1 0 true)
  | some q =>
    simp only [wk_skip, wk_region, wk_seq, wk_block, wk_cond, wk_exit, wk_ret, wk_draw, cnd_true, cnd_false, fin_nil, fin_seq, fin_seq_exit, fin_seq_ret, fin_seq_panic, fin_block, fin_block_exit, fin_block_ret, fin_block_panic, fin_loop, fin_loop_exit, fin_loop_ret, fin_loop_panic, ops_nil, ops_cons, ops_guard, res_val, res_new, main_nil, main_cons, main_guard, mres_val, mres_new, AOp.ev, AOpd.ev, evAll, evParts, evOpt, put_get, put_none, wantA, ARes.ofOpt, tmOf, List.getD_cons_zero, List.getD_cons_succ, Nat.reduceEqDiff, if_true, if_false, reduceIte, Nat.reduceAdd, Nat.reduceMul, binA, intOp, eqOp, nilOf, lenA_slice, callA, AV.cells, undefA, Option.map_some, Option.map_none, Bool.false_eq_true, reduceCtorEq, beq_false, beq_true, g_true, g_false, mg_true, mg_false, Bool.not_true, Bool.not_false, decide_true, decide_false, not_true_eq_false, not_false_eq_true, List.nil_append, List.cons_append, List.append_nil, Option.isNone_some, Option.isNone_none, List.getElem?_cons_zero, List.getElem?_cons_succ, fill_nil]
    intro b hb
    have G := Grown.make (sz := 1) (n := 0) (ex := true) hb (x := []) (by simp)
    refine res_append (bytes := 1) G (slice_more S G.more) (by omega) (by simp; omega) (by omega) rfl ho ?_
    intro v' h' G' _ _ _
    simp only [wk_skip, wk_region, wk_seq, wk_block, wk_cond, wk_exit, wk_ret, wk_draw, cnd_true, cnd_false, fin_nil, fin_seq, fin_seq_exit, fin_seq_ret, fin_seq_panic, fin_block, fin_block_exit, fin_block_ret, fin_block_panic, fin_loop, fin_loop_exit, fin_loop_ret, fin_loop_panic, ops_nil, ops_cons, ops_guard, res_val, res_new, main_nil, main_cons, main_guard, mres_val, mres_new, AOp.ev, AOpd.ev, evAll, evParts, evOpt, put_get, put_none, wantA, ARes.ofOpt, tmOf, List.getD_cons_zero, List.getD_cons_succ, Nat.reduceEqDiff, if_true, if_false, reduceIte, Nat.reduceAdd, Nat.reduceMul, binA, intOp, eqOp, nilOf, lenA_slice, callA, AV.cells, undefA, Option.map_some, Option.map_none, Bool.false_eq_true, reduceCtorEq, beq_false, beq_true, g_true, g_false, mg_true, mg_false, Bool.not_true, Bool.not_false, decide_true, decide_false, not_true_eq_false, not_false_eq_true, List.nil_append, List.cons_append, List.append_nil, Option.isNone_some, Option.isNone_none, List.getElem?_cons_zero, List.getElem?_cons_succ]
    exact fnEnd_ret1 (by simpa [TM.put] using G')
theorem clone39_c {h : AHeap} {v : AV} {cs : List AV} (S : SliceAt h 1 v cs) (hl : cs.length ≤ 4000000000) (ho : cs.all AV.oneCell = true) : ARets Try.prog N 39 [v] h (fun r h' => Grown h h' 1 r cs) := by
  obtain ⟨p, sz', len, cap, ex, rfl, h1, h2, h3, h4⟩ := id S.out
  refine acalls_of_wp c39_ok mixed (by show 1 ≤ 8; decide) (wk_start ?_)
  unfold c39
  cases p with
  | none =>
    have hcs : cs = [] := List.eq_nil_of_length_eq_zero (by rw [h1, (h3 rfl).1])
    subst hcs
    simp only [wk_skip, wk_region, wk_seq, wk_block, wk_cond, wk_exit, wk_ret, wk_draw, cnd_true, cnd_false, fin_nil, fin_seq, fin_seq_exit, fin_seq_ret, fin_seq_panic, fin_block, fin_block_exit, fin_block_ret, fin_block_panic, fin_loop, fin_loop_exit, fin_loop_ret, fin_loop_panic, ops_nil, ops_cons, ops_guard, res_val, res_new, main_nil, main_cons, main_guard, mres_val, mres_new, AOp.ev, AOpd.ev, evAll, evParts, evOpt, put_get, put_none, wantA, ARes.ofOpt, tmOf, List.getD_cons_zero, List.getD_cons_succ, Nat.reduceEqDiff, if_true, if_false, reduceIte, Nat.reduceAdd, Nat.reduceMul, binA, intOp, eqOp, nilOf, lenA_slice, callA, AV.cells, undefA, Option.map_some, Option.map_none, Bool.false_eq_true, reduceCtorEq, beq_false, beq_true, g_true, g_false, mg_true, mg_false, Bool.not_true, Bool.not_false, decide_true, decide_false, not_true_eq_false, not_false_eq_true, List.nil_append, List.cons_append, List.append_nil, Option.isNone_some, Option.isNone_none, List.getElem?_cons_zero, List.getElem?_cons_succ]
    exact fnEnd_ret1 (Grown.nil (More.refl _) 1 0 true)
  | some q =>
    simp only [wk_skip, wk_region, wk_seq, wk_block, wk_cond, wk_exit, wk_ret, wk_draw, cnd_true, cnd_false, fin_nil, fin_seq, fin_seq_exit, fin_seq_ret, fin_seq_panic, fin_block, fin_block_exit, fin_block_ret, fin_block_panic, fin_loop, fin_loop_exit, fin_loop_ret, fin_loop_panic, ops_nil, ops_cons, ops_guard, res_val, res_new, main_nil, main_cons, main_guard, mres_val, mres_new, AOp.ev, AOpd.ev, evAll, evParts, evOpt, put_get, put_none, wantA, ARes.ofOpt, tmOf, List.getD_cons_zero, List.getD_cons_succ, Nat.reduceEqDiff, if_true, if_false, reduceIte, Nat.reduceAdd, Nat.reduceMul, binA, intOp, eqOp, nilOf, lenA_slice, callA, AV.cells, undefA, Option.map_some, Option.map_none, Bool.false_eq_true, reduceCtorEq, beq_false, beq_true, g_true, g_false, mg_true, mg_false, Bool.not_true, Bool.not_false, decide_true, decide_false, not_true_eq_false, not_false_eq_true, List.nil_append, List.cons_append, List.append_nil, Option.isNone_some, Option.isNone_none, List.getElem?_cons_zero, List.getElem?_cons_succ, fill_nil]
    intro b hb
    have G := Grown.make (sz := 1) (n := 0) (ex := true) hb (x := []) (by simp)
    refine res_append (bytes := 8) G (slice_more S G.more) (by omega) (by simp; omega) (by omega) rfl ho ?_
    intro v' h' G' _ _ _
    simp only [wk_skip, wk_region, wk_seq, wk_block, wk_cond, wk_exit, wk_ret, wk_draw, cnd_true, cnd_false, fin_nil, fin_seq, fin_seq_exit, fin_seq_ret, fin_seq_panic, fin_block, fin_block_exit, fin_block_ret, fin_block_panic, fin_loop, fin_loop_exit, fin_loop_ret, fin_loop_panic, ops_nil, ops_cons, ops_guard, res_val, res_new, main_nil, main_cons, main_guard, mres_val, mres_new, AOp.ev, AOpd.ev, evAll, evParts, evOpt, put_get, put_none, wantA, ARes.ofOpt, tmOf, List.getD_cons_zero, List.getD_cons_succ, Nat.reduceEqDiff, if_true, if_false, reduceIte, Nat.reduceAdd, Nat.reduceMul, binA, intOp, eqOp, nilOf, lenA_slice, callA, AV.cells, undefA, Option.map_some, Option.map_none, Bool.false_eq_true, reduceCtorEq, beq_false, beq_true, g_true, g_false, mg_true, mg_false, Bool.not_true, Bool.not_false, decide_true, decide_false, not_true_eq_false, not_false_eq_true, List.nil_append, List.cons_append, List.append_nil, Option.isNone_some, Option.isNone_none, List.getElem?_cons_zero, List.getElem?_cons_succ]
    exact fnEnd_ret1 (by simpa [TM.put] using G')

/-! ### Who tells numbers. -/
theorem nodup_len : ∀ {l m : List Nat}, l.Nodup → (∀ x ∈ l, x ∈ m) → l.length ≤ m.length
  | [], _, _, _ => Nat.zero_le _
  | x :: l, m, h, hs => by
    simp only [List.nodup_cons] at h
    have h1 := hs x (List.mem_cons_self ..)
    have := nodup_len (m := m.erase x) h.2 fun y hy => (List.mem_erase_of_ne fun e => h.1 (by rw [← e]; exact hy)).2 (hs y (List.mem_cons_of_mem _ hy))
    rw [List.length_erase_of_mem h1] at this
    have := List.length_pos_of_mem h1
    simp only [List.length_cons]; omega
theorem it_len {h : AHeap} {b M : Nat} {kv done : List (Int × AV)} (m : ItAt h b M kv done) : done.length ≤ kv.length := by
  obtain ⟨es, ck, seen, h1, h2, h3, h4, h5, ds, d1, d2, d3, d4⟩ := m.out
  have := nodup_len (l := seen) (m := es.map (·.born)) d4 fun x hx => by
    rw [← d1] at hx
    obtain ⟨e, he, rfl⟩ := List.mem_map.1 hx
    exact List.mem_map.2 ⟨e, d3 e he, rfl⟩
  have e1 := congrArg List.length d1
  have e2 := congrArg List.length d2
  have e3 := congrArg List.length h2
  simp at e1 e2 e3 this
  omega

theorem keys53_c {h0 : AHeap} {cb M : Nat} {ro : Bool} {kv : List (Int × AV)} (hc : h0 cb = some (.cells [.map (some M)] ro)) (m : IMap h0 M kv) : Tells Try.prog N (.func (.func 53) [] [.ptr (some (cb, 0))]) h0 (fun done => done.Perm (kv.map (·.1))) kv.length := by
  refine ⟨53, [], [.ptr (some (cb, 0))], rfl, fun l J h S m0 F j0 => ?_⟩
  refine acalls_of_wp c53_ok mixed (by show 2 ≤ 14; decide) (wk_start ?_)
  unfold c53
  have hld : loadA h none (.ptr (some (cb, 0))) = .val (.map (some M)) h := by simp [loadA, m0.at_ hc]
  obtain ⟨x, hr, hit⟩ := (m.keep (m0 M m.some_)).range
  simp only [wk_skip, wk_region, wk_seq, wk_block, wk_cond, wk_exit, wk_ret, wk_draw, cnd_true, cnd_false, fin_nil, fin_seq, fin_seq_exit, fin_seq_ret, fin_seq_panic, fin_block, fin_block_exit, fin_block_ret, fin_block_panic, fin_loop, fin_loop_exit, fin_loop_ret, fin_loop_panic, ops_nil, ops_cons, ops_guard, res_val, res_new, main_nil, main_cons, main_guard, mres_val, mres_new, AOp.ev, AOpd.ev, evAll, evParts, evOpt, put_get, put_none, wantA, ARes.ofOpt, tmOf, List.getD_cons_zero, List.getD_cons_succ, Nat.reduceEqDiff, if_true, if_false, reduceIte, Nat.reduceAdd, Nat.reduceMul, binA, intOp, eqOp, nilOf, lenA_slice, callA, AV.cells, undefA, Option.map_some, Option.map_none, Bool.false_eq_true, reduceCtorEq, beq_false, beq_true, g_true, g_false, mg_true, mg_false, Bool.not_true, Bool.not_false, decide_true, decide_false, not_true_eq_false, not_false_eq_true, List.nil_append, List.cons_append, List.append_nil, Option.isNone_some, Option.isNone_none, List.getElem?_cons_zero, List.getElem?_cons_succ, hld, hr]
  intro b hb
  have it0 := hit b hb
  have hb0 : h0 b = none := m0.none_ hb
  refine wk_loop (fun k tm ds h' => ds = [] ∧ tm 0 = .yld l ∧ tm 5 = .ptr (some (b, 0)) ∧ More h0 h' ∧ ∃ done S, k + done.length = kv.length ∧ J (done.map (·.1)) S h' ∧ ¬ S b ∧ ItAt h' b M kv done) kv.length
    ⟨rfl, rfl, rfl, m0.trans (More.upd hb _), [], S, by simp, F.keep _ _ _ _ j0 fun c hc => AHeap.upd_other _ _ fun e => (F.dom _ _ _ j0 c hc).1 (e ▸ hb), fun e => (F.dom _ _ _ j0 b e).1 hb, it0⟩ ?_
  rintro k tm ds h' ⟨rfl, t0, t5, m', done, S', hk, j, hSb, it⟩
  obtain ⟨L, hn, hL⟩ := it.next
  simp only [wk_skip, wk_region, wk_seq, wk_block, wk_cond, wk_exit, wk_ret, wk_draw, cnd_true, cnd_false, fin_nil, fin_seq, fin_seq_exit, fin_seq_ret, fin_seq_panic, fin_block, fin_block_exit, fin_block_ret, fin_block_panic, fin_loop, fin_loop_exit, fin_loop_ret, fin_loop_panic, ops_nil, ops_cons, ops_guard, res_val, res_new, main_nil, main_cons, main_guard, mres_val, mres_new, AOp.ev, AOpd.ev, evAll, evParts, evOpt, put_get, put_none, wantA, ARes.ofOpt, tmOf, List.getD_cons_zero, List.getD_cons_succ, Nat.reduceEqDiff, if_true, if_false, reduceIte, Nat.reduceAdd, Nat.reduceMul, binA, intOp, eqOp, nilOf, lenA_slice, callA, AV.cells, undefA, Option.map_some, Option.map_none, Bool.false_eq_true, reduceCtorEq, beq_false, beq_true, g_true, g_false, mg_true, mg_false, Bool.not_true, Bool.not_false, decide_true, decide_false, not_true_eq_false, not_false_eq_true, List.nil_append, List.cons_append, List.append_nil, Option.isNone_some, Option.isNone_none, List.getElem?_cons_zero, List.getElem?_cons_succ, t0, t5, hn, res_any]
  intro o ho
  rcases hL o ho with ⟨rfl, hp⟩ | ⟨p, x, hp, hnd, rfl, it2, he⟩
  · simp only [wk_skip, wk_region, wk_seq, wk_block, wk_cond, wk_exit, wk_ret, wk_draw, cnd_true, cnd_false, fin_nil, fin_seq, fin_seq_exit, fin_seq_ret, fin_seq_panic, fin_block, fin_block_exit, fin_block_ret, fin_block_panic, fin_loop, fin_loop_exit, fin_loop_ret, fin_loop_panic, ops_nil, ops_cons, ops_guard, res_val, res_new, main_nil, main_cons, main_guard, mres_val, mres_new, AOp.ev, AOpd.ev, evAll, evParts, evOpt, put_get, put_none, wantA, ARes.ofOpt, tmOf, List.getD_cons_zero, List.getD_cons_succ, Nat.reduceEqDiff, if_true, if_false, reduceIte, Nat.reduceAdd, Nat.reduceMul, binA, intOp, eqOp, nilOf, lenA_slice, callA, AV.cells, undefA, Option.map_some, Option.map_none, Bool.false_eq_true, reduceCtorEq, beq_false, beq_true, g_true, g_false, mg_true, mg_false, Bool.not_true, Bool.not_false, decide_true, decide_false, not_true_eq_false, not_false_eq_true, List.nil_append, List.cons_append, List.append_nil, Option.isNone_some, Option.isNone_none, List.getElem?_cons_zero, List.getElem?_cons_succ, List.getElem?_cons_zero]
    exact fnEnd_end0 ⟨m', _, S', hp.map _, j⟩
  · have hl2 := it_len it2
    simp only [List.length_append, List.length_cons, List.length_nil] at hl2
    have j2 : J (done.map (·.1)) S' (h'.upd b x) := F.keep _ _ _ _ j fun c hc => AHeap.upd_other _ _ fun e => hSb (e ▸ hc)
    have m2 : More h0 (h'.upd b x) := fun c hc => (AHeap.upd_other _ _ (by intro e; rw [e] at hc; exact hc hb0)).trans (m' c hc)
    simp only [wk_skip, wk_region, wk_seq, wk_block, wk_cond, wk_exit, wk_ret, wk_draw, cnd_true, cnd_false, fin_nil, fin_seq, fin_seq_exit, fin_seq_ret, fin_seq_panic, fin_block, fin_block_exit, fin_block_ret, fin_block_panic, fin_loop, fin_loop_exit, fin_loop_ret, fin_loop_panic, ops_nil, ops_cons, ops_guard, res_val, res_new, main_nil, main_cons, main_guard, mres_val, mres_new, AOp.ev, AOpd.ev, evAll, evParts, evOpt, put_get, put_none, wantA, ARes.ofOpt, tmOf, List.getD_cons_zero, List.getD_cons_succ, Nat.reduceEqDiff, if_true, if_false, reduceIte, Nat.reduceAdd, Nat.reduceMul, binA, intOp, eqOp, nilOf, lenA_slice, callA, AV.cells, undefA, Option.map_some, Option.map_none, Bool.false_eq_true, reduceCtorEq, beq_false, beq_true, g_true, g_false, mg_true, mg_false, Bool.not_true, Bool.not_false, decide_true, decide_false, not_true_eq_false, not_false_eq_true, List.nil_append, List.cons_append, List.append_nil, Option.isNone_some, Option.isNone_none, List.getElem?_cons_zero, List.getElem?_cons_succ, t0, t5, he]
    refine res_yield (F.step _ p.1 S' _ (by rw [List.length_map]; omega) j2 m2) ?_
    rintro v h3 d3 ⟨rfl, S3, j3, k3, n3⟩
    simp only [wk_skip, wk_region, wk_seq, wk_block, wk_cond, wk_exit, wk_ret, wk_draw, cnd_true, cnd_false, fin_nil, fin_seq, fin_seq_exit, fin_seq_ret, fin_seq_panic, fin_block, fin_block_exit, fin_block_ret, fin_block_panic, fin_loop, fin_loop_exit, fin_loop_ret, fin_loop_panic, ops_nil, ops_cons, ops_guard, res_val, res_new, main_nil, main_cons, main_guard, mres_val, mres_new, AOp.ev, AOpd.ev, evAll, evParts, evOpt, put_get, put_none, wantA, ARes.ofOpt, tmOf, List.getD_cons_zero, List.getD_cons_succ, Nat.reduceEqDiff, if_true, if_false, reduceIte, Nat.reduceAdd, Nat.reduceMul, binA, intOp, eqOp, nilOf, lenA_slice, callA, AV.cells, undefA, Option.map_some, Option.map_none, Bool.false_eq_true, reduceCtorEq, beq_false, beq_true, g_true, g_false, mg_true, mg_false, Bool.not_true, Bool.not_false, decide_true, decide_false, not_true_eq_false, not_false_eq_true, List.nil_append, List.cons_append, List.append_nil, Option.isNone_some, Option.isNone_none, List.getElem?_cons_zero, List.getElem?_cons_succ]
    have hMS : ¬ S' M := fun e => by have := (F.dom _ _ _ j2 M e).2; exact m.some_ this
    have b3 : h3 b = (h'.upd b x) b := k3 b it2.iter hSb
    refine meet ⟨k - 1, by omega, rfl, by simp [TM.put, t0], by simp [TM.put, t5], F.more m2 (fun c hc => (F.dom _ _ _ j2 c hc).2) k3, done ++ [p], S3, by simp; omega, by simpa using j3, ?_, it2.keep (k3 M it2.imap.some_ hMS) b3⟩
    intro e
    rcases n3 b e with e | e
    · exact hSb e
    · exact it2.iter e
/-- Who tells the numbers of a slice. -/
theorem values54_c {h0 : AHeap} {cb : Nat} {ro : Bool} {sv : AV} {xs : List Int} (hc : h0 cb = some (.cells [sv] ro)) (H : Ints h0 sv xs) (hl : xs.length ≤ 4000000000) : Tells Try.prog N (.func (.func 54) [] [.ptr (some (cb, 0))]) h0 (fun done => done = xs) xs.length := by
  refine ⟨54, [], [.ptr (some (cb, 0))], rfl, fun l J h S m0 F j0 => ?_⟩
  refine acalls_of_wp c54_ok mixed (by show 2 ≤ 16; decide) (wk_start ?_)
  unfold c54
  have hld : loadA h none (.ptr (some (cb, 0))) = .val sv h := by simp [loadA, m0.at_ hc]
  have hlen := (slice_more H m0).len xs.length (by simp) (by omega)
  simp only [wk_skip, wk_region, wk_seq, wk_block, wk_cond, wk_exit, wk_ret, wk_draw, cnd_true, cnd_false, fin_nil, fin_seq, fin_seq_exit, fin_seq_ret, fin_seq_panic, fin_block, fin_block_exit, fin_block_ret, fin_block_panic, fin_loop, fin_loop_exit, fin_loop_ret, fin_loop_panic, ops_nil, ops_cons, ops_guard, res_val, res_new, main_nil, main_cons, main_guard, mres_val, mres_new, AOp.ev, AOpd.ev, evAll, evParts, evOpt, put_get, put_none, wantA, ARes.ofOpt, tmOf, List.getD_cons_zero, List.getD_cons_succ, Nat.reduceEqDiff, if_true, if_false, reduceIte, Nat.reduceAdd, Nat.reduceMul, binA, intOp, eqOp, nilOf, lenA_slice, callA, AV.cells, undefA, Option.map_some, Option.map_none, Bool.false_eq_true, reduceCtorEq, beq_false, beq_true, g_true, g_false, mg_true, mg_false, Bool.not_true, Bool.not_false, decide_true, decide_false, not_true_eq_false, not_false_eq_true, List.nil_append, List.cons_append, List.append_nil, Option.isNone_some, Option.isNone_none, List.getElem?_cons_zero, List.getElem?_cons_succ, hld, hlen]
  refine wk_loop (fun k tm ds h' => ds = [] ∧ tm 0 = .yld l ∧ tm 5 = sv ∧ tm 6 = .int .i64 xs.length ∧ More h0 h' ∧ ∃ (i : Nat) (S : Nat → Prop), tm 7 = .int .i64 i ∧ i + k = xs.length ∧ J (xs.take i) S h') xs.length
    ⟨rfl, rfl, rfl, rfl, m0, 0, S, rfl, by simp, by simpa using j0⟩ ?_
  rintro k tm ds h' ⟨rfl, t0, t5, t6, m', i, S', t7, hk, j⟩
  simp only [wk_skip, wk_region, wk_seq, wk_block, wk_cond, wk_exit, wk_ret, wk_draw, cnd_true, cnd_false, fin_nil, fin_seq, fin_seq_exit, fin_seq_ret, fin_seq_panic, fin_block, fin_block_exit, fin_block_ret, fin_block_panic, fin_loop, fin_loop_exit, fin_loop_ret, fin_loop_panic, ops_nil, ops_cons, ops_guard, res_val, res_new, main_nil, main_cons, main_guard, mres_val, mres_new, AOp.ev, AOpd.ev, evAll, evParts, evOpt, put_get, put_none, wantA, ARes.ofOpt, tmOf, List.getD_cons_zero, List.getD_cons_succ, Nat.reduceEqDiff, if_true, if_false, reduceIte, Nat.reduceAdd, Nat.reduceMul, binA, intOp, eqOp, nilOf, lenA_slice, callA, AV.cells, undefA, Option.map_some, Option.map_none, Bool.false_eq_true, reduceCtorEq, beq_false, beq_true, g_true, g_false, mg_true, mg_false, Bool.not_true, Bool.not_false, decide_true, decide_false, not_true_eq_false, not_false_eq_true, List.nil_append, List.cons_append, List.append_nil, Option.isNone_some, Option.isNone_none, List.getElem?_cons_zero, List.getElem?_cons_succ, t0, t5, t6, t7]
  refine cond_dec (fun hi => ?_) (fun hi => ?_)
  · have hi' : i < xs.length := by omega
    have H' : Ints h' sv xs := slice_more H m'
    obtain ⟨c, o, g1, _, g2⟩ := H'.get i (by simpa using hi') .i64
    simp only [List.getElem_map] at g2
    simp only [wk_skip, wk_region, wk_seq, wk_block, wk_cond, wk_exit, wk_ret, wk_draw, cnd_true, cnd_false, fin_nil, fin_seq, fin_seq_exit, fin_seq_ret, fin_seq_panic, fin_block, fin_block_exit, fin_block_ret, fin_block_panic, fin_loop, fin_loop_exit, fin_loop_ret, fin_loop_panic, ops_nil, ops_cons, ops_guard, res_val, res_new, main_nil, main_cons, main_guard, mres_val, mres_new, AOp.ev, AOpd.ev, evAll, evParts, evOpt, put_get, put_none, wantA, ARes.ofOpt, tmOf, List.getD_cons_zero, List.getD_cons_succ, Nat.reduceEqDiff, if_true, if_false, reduceIte, Nat.reduceAdd, Nat.reduceMul, binA, intOp, eqOp, nilOf, lenA_slice, callA, AV.cells, undefA, Option.map_some, Option.map_none, Bool.false_eq_true, reduceCtorEq, beq_false, beq_true, g_true, g_false, mg_true, mg_false, Bool.not_true, Bool.not_false, decide_true, decide_false, not_true_eq_false, not_false_eq_true, List.nil_append, List.cons_append, List.append_nil, Option.isNone_some, Option.isNone_none, List.getElem?_cons_zero, List.getElem?_cons_succ, t0, t5, t6, t7, g1, g2]
    refine res_yield (F.step _ xs[i] S' _ (by rw [List.length_take]; omega) j m') ?_
    rintro v h3 d3 ⟨rfl, S3, j3, k3, n3⟩
    have wri : IntKind.i64.wrap ((i : Int) + 1) = ((i + 1 : Nat) : Int) := by rw [wrap64 (by omega) (by omega)]; rfl
    simp only [wk_skip, wk_region, wk_seq, wk_block, wk_cond, wk_exit, wk_ret, wk_draw, cnd_true, cnd_false, fin_nil, fin_seq, fin_seq_exit, fin_seq_ret, fin_seq_panic, fin_block, fin_block_exit, fin_block_ret, fin_block_panic, fin_loop, fin_loop_exit, fin_loop_ret, fin_loop_panic, ops_nil, ops_cons, ops_guard, res_val, res_new, main_nil, main_cons, main_guard, mres_val, mres_new, AOp.ev, AOpd.ev, evAll, evParts, evOpt, put_get, put_none, wantA, ARes.ofOpt, tmOf, List.getD_cons_zero, List.getD_cons_succ, Nat.reduceEqDiff, if_true, if_false, reduceIte, Nat.reduceAdd, Nat.reduceMul, binA, intOp, eqOp, nilOf, lenA_slice, callA, AV.cells, undefA, Option.map_some, Option.map_none, Bool.false_eq_true, reduceCtorEq, beq_false, beq_true, g_true, g_false, mg_true, mg_false, Bool.not_true, Bool.not_false, decide_true, decide_false, not_true_eq_false, not_false_eq_true, List.nil_append, List.cons_append, List.append_nil, Option.isNone_some, Option.isNone_none, List.getElem?_cons_zero, List.getElem?_cons_succ, t0, t5, t6, t7, wri]
    refine meet ⟨k - 1, by omega, rfl, by simp [TM.put, t0], by simp [TM.put, t5], by simp [TM.put, t6], F.more m' (fun c hc => (F.dom _ _ _ j c hc).2) k3, i + 1, S3, by simp [TM.put], by omega, ?_⟩
    rw [List.take_add_one, List.getElem?_eq_getElem hi']
    simpa using j3
  · simp only [wk_skip, wk_region, wk_seq, wk_block, wk_cond, wk_exit, wk_ret, wk_draw, cnd_true, cnd_false, fin_nil, fin_seq, fin_seq_exit, fin_seq_ret, fin_seq_panic, fin_block, fin_block_exit, fin_block_ret, fin_block_panic, fin_loop, fin_loop_exit, fin_loop_ret, fin_loop_panic, ops_nil, ops_cons, ops_guard, res_val, res_new, main_nil, main_cons, main_guard, mres_val, mres_new, AOp.ev, AOpd.ev, evAll, evParts, evOpt, put_get, put_none, wantA, ARes.ofOpt, tmOf, List.getD_cons_zero, List.getD_cons_succ, Nat.reduceEqDiff, if_true, if_false, reduceIte, Nat.reduceAdd, Nat.reduceMul, binA, intOp, eqOp, nilOf, lenA_slice, callA, AV.cells, undefA, Option.map_some, Option.map_none, Bool.false_eq_true, reduceCtorEq, beq_false, beq_true, g_true, g_false, mg_true, mg_false, Bool.not_true, Bool.not_false, decide_true, decide_false, not_true_eq_false, not_false_eq_true, List.nil_append, List.cons_append, List.append_nil, Option.isNone_some, Option.isNone_none, List.getElem?_cons_zero, List.getElem?_cons_succ]
    refine fnEnd_end0 ⟨m', xs, S', rfl, ?_⟩
    rw [List.take_of_length_le (by omega)] at j; exact j

theorem keys47_c {h0 : AHeap} {cb M : Nat} {ro : Bool} {kv : List (Int × AV)} (hc : h0 cb = some (.cells [.map (some M)] ro)) (m : IMap h0 M kv) : Tells Try.prog N (.func (.func 47) [] [.ptr (some (cb, 0))]) h0 (fun done => done.Perm (kv.map (·.1))) kv.length := by
  refine ⟨47, [], [.ptr (some (cb, 0))], rfl, fun l J h S m0 F j0 => ?_⟩
  refine acalls_of_wp c47_ok mixed (by show 2 ≤ 14; decide) (wk_start ?_)
  unfold c47
  have hld : loadA h none (.ptr (some (cb, 0))) = .val (.map (some M)) h := by simp [loadA, m0.at_ hc]
  obtain ⟨x, hr, hit⟩ := (m.keep (m0 M m.some_)).range
  simp only [wk_skip, wk_region, wk_seq, wk_block, wk_cond, wk_exit, wk_ret, wk_draw, cnd_true, cnd_false, fin_nil, fin_seq, fin_seq_exit, fin_seq_ret, fin_seq_panic, fin_block, fin_block_exit, fin_block_ret, fin_block_panic, fin_loop, fin_loop_exit, fin_loop_ret, fin_loop_panic, ops_nil, ops_cons, ops_guard, res_val, res_new, main_nil, main_cons, main_guard, mres_val, mres_new, AOp.ev, AOpd.ev, evAll, evParts, evOpt, put_get, put_none, wantA, ARes.ofOpt, tmOf, List.getD_cons_zero, List.getD_cons_succ, Nat.reduceEqDiff, if_true, if_false, reduceIte, Nat.reduceAdd, Nat.reduceMul, binA, intOp, eqOp, nilOf, lenA_slice, callA, AV.cells, undefA, Option.map_some, Option.map_none, Bool.false_eq_true, reduceCtorEq, beq_false, beq_true, g_true, g_false, mg_true, mg_false, Bool.not_true, Bool.not_false, decide_true, decide_false, not_true_eq_false, not_false_eq_true, List.nil_append, List.cons_append, List.append_nil, Option.isNone_some, Option.isNone_none, List.getElem?_cons_zero, List.getElem?_cons_succ, hld, hr]
  intro b hb
  have it0 := hit b hb
  have hb0 : h0 b = none := m0.none_ hb
  refine wk_loop (fun k tm ds h' => ds = [] ∧ tm 0 = .yld l ∧ tm 5 = .ptr (some (b, 0)) ∧ More h0 h' ∧ ∃ done S, k + done.length = kv.length ∧ J (done.map (·.1)) S h' ∧ ¬ S b ∧ ItAt h' b M kv done) kv.length
    ⟨rfl, rfl, rfl, m0.trans (More.upd hb _), [], S, by simp, F.keep _ _ _ _ j0 fun c hc => AHeap.upd_other _ _ fun e => (F.dom _ _ _ j0 c hc).1 (e ▸ hb), fun e => (F.dom _ _ _ j0 b e).1 hb, it0⟩ ?_
  rintro k tm ds h' ⟨rfl, t0, t5, m', done, S', hk, j, hSb, it⟩
  obtain ⟨L, hn, hL⟩ := it.next
  simp only [wk_skip, wk_region, wk_seq, wk_block, wk_cond, wk_exit, wk_ret, wk_draw, cnd_true, cnd_false, fin_nil, fin_seq, fin_seq_exit, fin_seq_ret, fin_seq_panic, fin_block, fin_block_exit, fin_block_ret, fin_block_panic, fin_loop, fin_loop_exit, fin_loop_ret, fin_loop_panic, ops_nil, ops_cons, ops_guard, res_val, res_new, main_nil, main_cons, main_guard, mres_val, mres_new, AOp.ev, AOpd.ev, evAll, evParts, evOpt, put_get, put_none, wantA, ARes.ofOpt, tmOf, List.getD_cons_zero, List.getD_cons_succ, Nat.reduceEqDiff, if_true, if_false, reduceIte, Nat.reduceAdd, Nat.reduceMul, binA, intOp, eqOp, nilOf, lenA_slice, callA, AV.cells, undefA, Option.map_some, Option.map_none, Bool.false_eq_true, reduceCtorEq, beq_false, beq_true, g_true, g_false, mg_true, mg_false, Bool.not_true, Bool.not_false, decide_true, decide_false, not_true_eq_false, not_false_eq_true, List.nil_append, List.cons_append, List.append_nil, Option.isNone_some, Option.isNone_none, List.getElem?_cons_zero, List.getElem?_cons_succ, t0, t5, hn, res_any]
  intro o ho
  rcases hL o ho with ⟨rfl, hp⟩ | ⟨p, x, hp, hnd, rfl, it2, he⟩
  · simp only [wk_skip, wk_region, wk_seq, wk_block, wk_cond, wk_exit, wk_ret, wk_draw, cnd_true, cnd_false, fin_nil, fin_seq, fin_seq_exit, fin_seq_ret, fin_seq_panic, fin_block, fin_block_exit, fin_block_ret, fin_block_panic, fin_loop, fin_loop_exit, fin_loop_ret, fin_loop_panic, ops_nil, ops_cons, ops_guard, res_val, res_new, main_nil, main_cons, main_guard, mres_val, mres_new, AOp.ev, AOpd.ev, evAll, evParts, evOpt, put_get, put_none, wantA, ARes.ofOpt, tmOf, List.getD_cons_zero, List.getD_cons_succ, Nat.reduceEqDiff, if_true, if_false, reduceIte, Nat.reduceAdd, Nat.reduceMul, binA, intOp, eqOp, nilOf, lenA_slice, callA, AV.cells, undefA, Option.map_some, Option.map_none, Bool.false_eq_true, reduceCtorEq, beq_false, beq_true, g_true, g_false, mg_true, mg_false, Bool.not_true, Bool.not_false, decide_true, decide_false, not_true_eq_false, not_false_eq_true, List.nil_append, List.cons_append, List.append_nil, Option.isNone_some, Option.isNone_none, List.getElem?_cons_zero, List.getElem?_cons_succ, List.getElem?_cons_zero]
    exact fnEnd_end0 ⟨m', _, S', hp.map _, j⟩
  · have hl2 := it_len it2
    simp only [List.length_append, List.length_cons, List.length_nil] at hl2
    have j2 : J (done.map (·.1)) S' (h'.upd b x) := F.keep _ _ _ _ j fun c hc => AHeap.upd_other _ _ fun e => hSb (e ▸ hc)
    have m2 : More h0 (h'.upd b x) := fun c hc => (AHeap.upd_other _ _ (by intro e; rw [e] at hc; exact hc hb0)).trans (m' c hc)
    simp only [wk_skip, wk_region, wk_seq, wk_block, wk_cond, wk_exit, wk_ret, wk_draw, cnd_true, cnd_false, fin_nil, fin_seq, fin_seq_exit, fin_seq_ret, fin_seq_panic, fin_block, fin_block_exit, fin_block_ret, fin_block_panic, fin_loop, fin_loop_exit, fin_loop_ret, fin_loop_panic, ops_nil, ops_cons, ops_guard, res_val, res_new, main_nil, main_cons, main_guard, mres_val, mres_new, AOp.ev, AOpd.ev, evAll, evParts, evOpt, put_get, put_none, wantA, ARes.ofOpt, tmOf, List.getD_cons_zero, List.getD_cons_succ, Nat.reduceEqDiff, if_true, if_false, reduceIte, Nat.reduceAdd, Nat.reduceMul, binA, intOp, eqOp, nilOf, lenA_slice, callA, AV.cells, undefA, Option.map_some, Option.map_none, Bool.false_eq_true, reduceCtorEq, beq_false, beq_true, g_true, g_false, mg_true, mg_false, Bool.not_true, Bool.not_false, decide_true, decide_false, not_true_eq_false, not_false_eq_true, List.nil_append, List.cons_append, List.append_nil, Option.isNone_some, Option.isNone_none, List.getElem?_cons_zero, List.getElem?_cons_succ, t0, t5, he]
    refine res_yield (F.step _ p.1 S' _ (by rw [List.length_map]; omega) j2 m2) ?_
    rintro v h3 d3 ⟨rfl, S3, j3, k3, n3⟩
    simp only [wk_skip, wk_region, wk_seq, wk_block, wk_cond, wk_exit, wk_ret, wk_draw, cnd_true, cnd_false, fin_nil, fin_seq, fin_seq_exit, fin_seq_ret, fin_seq_panic, fin_block, fin_block_exit, fin_block_ret, fin_block_panic, fin_loop, fin_loop_exit, fin_loop_ret, fin_loop_panic, ops_nil, ops_cons, ops_guard, res_val, res_new, main_nil, main_cons, main_guard, mres_val, mres_new, AOp.ev, AOpd.ev, evAll, evParts, evOpt, put_get, put_none, wantA, ARes.ofOpt, tmOf, List.getD_cons_zero, List.getD_cons_succ, Nat.reduceEqDiff, if_true, if_false, reduceIte, Nat.reduceAdd, Nat.reduceMul, binA, intOp, eqOp, nilOf, lenA_slice, callA, AV.cells, undefA, Option.map_some, Option.map_none, Bool.false_eq_true, reduceCtorEq, beq_false, beq_true, g_true, g_false, mg_true, mg_false, Bool.not_true, Bool.not_false, decide_true, decide_false, not_true_eq_false, not_false_eq_true, List.nil_append, List.cons_append, List.append_nil, Option.isNone_some, Option.isNone_none, List.getElem?_cons_zero, List.getElem?_cons_succ]
    have hMS : ¬ S' M := fun e => by have := (F.dom _ _ _ j2 M e).2; exact m.some_ this
    have b3 : h3 b = (h'.upd b x) b := k3 b it2.iter hSb
    refine meet ⟨k - 1, by omega, rfl, by simp [TM.put, t0], by simp [TM.put, t5], F.more m2 (fun c hc => (F.dom _ _ _ j2 c hc).2) k3, done ++ [p], S3, by simp; omega, by simpa using j3, ?_, it2.keep (k3 M it2.imap.some_ hMS) b3⟩
    intro e
    rcases n3 b e with e | e
    · exact hSb e
    · exact it2.iter e

/-! ### What is told, gathered. -/
theorem appendSeq_c {h : AHeap} {fv : AV} {G : List Int → Prop} {B : Nat} (T : Tells Try.prog N fv h G B) (hB : B ≤ 1000000) (hG : ∀ l, G l → l.length ≤ B) :
    ARets Try.prog N 50 [.slice none 0 0 0 true, fv] h (fun r h' => ∃ l, G l ∧ Grown h h' 1 r (l.map (.int .i64))) := by
  refine acalls_of_wp c50_ok mixed (by show 2 ≤ 13; decide) (wk_start ?_)
  unfold c50
  simp only [wk_skip, wk_region, wk_seq, wk_block, wk_cond, wk_exit, wk_ret, wk_draw, cnd_true, cnd_false, fin_nil, fin_seq, fin_seq_exit, fin_seq_ret, fin_seq_panic, fin_block, fin_block_exit, fin_block_ret, fin_block_panic, fin_loop, fin_loop_exit, fin_loop_ret, fin_loop_panic, ops_nil, ops_cons, ops_guard, res_val, res_new, main_nil, main_cons, main_guard, mres_val, mres_new, AOp.ev, AOpd.ev, evAll, evParts, evOpt, put_get, put_none, wantA, ARes.ofOpt, tmOf, List.getD_cons_zero, List.getD_cons_succ, Nat.reduceEqDiff, if_true, if_false, reduceIte, Nat.reduceAdd, Nat.reduceMul, binA, intOp, eqOp, nilOf, lenA_slice, callA, AV.cells, undefA, Option.map_some, Option.map_none, Bool.false_eq_true, reduceCtorEq, beq_false, beq_true, g_true, g_false, mg_true, mg_false, Bool.not_true, Bool.not_false, decide_true, decide_false, not_true_eq_false, not_false_eq_true, List.nil_append, List.cons_append, List.append_nil, Option.isNone_some, Option.isNone_none, List.getElem?_cons_zero, List.getElem?_cons_succ]
  intro b2 hb2
  refine wk_tells (fv := fv) (h0 := h) rfl ?_ (More.upd hb2 _) T (fun D l K done S h' => K h' ∧ ∃ v, h' b2 = some (.cells [v] false) ∧ SliceAt h' 1 v (done.map (.int .i64)) ∧ l ≠ D ∧ l ≠ b2 ∧ D ≠ b2 ∧ h l = none ∧ h D = none ∧ done.length ≤ B ∧
    (∀ c, blkOf v = some c → c ≠ l ∧ c ≠ D ∧ c ≠ b2 ∧ h c = none ∧ ∃ ds, h' c = some (.cells ds false)) ∧ ∀ c, S c ↔ c = l ∨ c = D ∨ c = b2 ∨ blkOf v = some c) ?_ ?_ ?_
  · simp only [wk_skip, wk_region, wk_seq, wk_block, wk_cond, wk_exit, wk_ret, wk_draw, cnd_true, cnd_false, fin_nil, fin_seq, fin_seq_exit, fin_seq_ret, fin_seq_panic, fin_block, fin_block_exit, fin_block_ret, fin_block_panic, fin_loop, fin_loop_exit, fin_loop_ret, fin_loop_panic, ops_nil, ops_cons, ops_guard, res_val, res_new, main_nil, main_cons, main_guard, mres_val, mres_new, AOp.ev, AOpd.ev, evAll, evParts, evOpt, put_get, put_none, wantA, ARes.ofOpt, tmOf, List.getD_cons_zero, List.getD_cons_succ, Nat.reduceEqDiff, if_true, if_false, reduceIte, Nat.reduceAdd, Nat.reduceMul, binA, intOp, eqOp, nilOf, lenA_slice, callA, AV.cells, undefA, Option.map_some, Option.map_none, Bool.false_eq_true, reduceCtorEq, beq_false, beq_true, g_true, g_false, mg_true, mg_false, Bool.not_true, Bool.not_false, decide_true, decide_false, not_true_eq_false, not_false_eq_true, List.nil_append, List.cons_append, List.append_nil, Option.isNone_some, Option.isNone_none, List.getElem?_cons_zero, List.getElem?_cons_succ]
  · intro T hT D l hD hl hne fn n ca cb lok K hK
    have T2 : T 2 = .ptr (some (b2, 0)) := by rw [hT]; simp [TM.put]
    clear hT
    subst hK
    obtain ⟨nD, hD'⟩ := upd_none hD
    obtain ⟨nl, hl'⟩ := upd_none hl
    refine ⟨⟨?_, ?_, ?_⟩, fun c => c = l ∨ c = D ∨ c = b2, ?_⟩
    · rintro done S h1 h2 ⟨⟨k1, k2⟩, v, a1, a2, a3, a4, a5, a6, a7, a8, a9, a10⟩ hk
      refine ⟨⟨by rw [hk l ((a10 l).2 (.inl rfl))]; exact k1, by rw [hk D ((a10 D).2 (.inr (.inl rfl)))]; exact k2⟩, v, by rw [hk b2 ((a10 b2).2 (.inr (.inr (.inl rfl))))]; exact a1, a2.keep fun c hc => hk c ((a10 c).2 (.inr (.inr (.inr hc)))), a3, a4, a5, a6, a7, a8, fun c hc => ?_, a10⟩
      rw [hk c ((a10 c).2 (.inr (.inr (.inr hc))))]; exact a9 c hc
    · rintro done S h1 ⟨⟨k1, k2⟩, v, a1, a2, a3, a4, a5, a6, a7, a8, a9, a10⟩ c hc
      rcases (a10 c).1 hc with rfl | rfl | rfl | hc
      · exact ⟨by rw [k1]; simp, a6⟩
      · exact ⟨by rw [k2]; simp, a7⟩
      · exact ⟨by rw [a1]; simp, hb2⟩
      · obtain ⟨_, _, _, e, ds, e2⟩ := a9 c hc
        exact ⟨by rw [e2]; simp, e⟩
    · rintro done nn S h1 hlt ⟨⟨k1, k2⟩, v, a1, a2, a3, a4, a5, a6, a7, a8, a9, a10⟩ m1
      refine yrets_of_wk mixed lok rfl k1 ?_
      have hb1 : (h1.upd l (.loop .busy none fn T n [7] ca cb)) b2 = some (.cells [v] false) := by rw [AHeap.upd_other _ _ fun e => a4 e.symm]; exact a1
      have hld : loadA (h1.upd l (.loop .busy none fn T n [7] ca cb)) none (.ptr (some (b2, 0))) = .val v (h1.upd l (.loop .busy none fn T n [7] ca cb)) := by simp [loadA, hb1]
      simp only [wk_skip, wk_region, wk_seq, wk_block, wk_cond, wk_exit, wk_ret, wk_draw, cnd_true, cnd_false, fin_nil, fin_seq, fin_seq_exit, fin_seq_ret, fin_seq_panic, fin_block, fin_block_exit, fin_block_ret, fin_block_panic, fin_loop, fin_loop_exit, fin_loop_ret, fin_loop_panic, ops_nil, ops_cons, ops_guard, res_val, res_new, main_nil, main_cons, main_guard, mres_val, mres_new, AOp.ev, AOpd.ev, evAll, evParts, evOpt, put_get, put_none, wantA, ARes.ofOpt, tmOf, List.getD_cons_zero, List.getD_cons_succ, Nat.reduceEqDiff, if_true, if_false, reduceIte, Nat.reduceAdd, Nat.reduceMul, binA, intOp, eqOp, nilOf, lenA_slice, callA, AV.cells, undefA, Option.map_some, Option.map_none, Bool.false_eq_true, reduceCtorEq, beq_false, beq_true, g_true, g_false, mg_true, mg_false, Bool.not_true, Bool.not_false, decide_true, decide_false, not_true_eq_false, not_false_eq_true, List.nil_append, List.cons_append, List.append_nil, Option.isNone_some, Option.isNone_none, List.getElem?_cons_zero, List.getElem?_cons_succ, putAll, T2, hld, fill_int, k1, true_and]
      intro b3 hb3
      obtain ⟨n3, hb3'⟩ := upd_none hb3
      have G1 : Grown h (h1.upd l (.loop .busy none fn T n [7] ca cb)) 1 v (done.map (.int .i64)) :=
        ⟨fun c hc => (AHeap.upd_other _ _ (by intro e; rw [e] at hc; exact hc a6)).trans (m1 c hc), a2.keep fun c hc => AHeap.upd_other _ _ (a9 c hc).1, fun c hc => ⟨(a9 c hc).2.2.2.1, by rw [AHeap.upd_other _ _ (a9 c hc).1]; exact (a9 c hc).2.2.2.2⟩⟩
      refine res_append (bytes := 8) (G1.grow (More.upd hb3 _)) (slice_one rfl) (by omega) (by simp; omega) (by omega) (by simp [AV.oneCell]) rfl ?_
      intro v' h4 G4 d4 k4 o4
      have hl4 : h4 l = some (.loop .busy none fn T n [7] ca cb) := by
        rw [k4 l (by rw [AHeap.upd_other _ _ fun e => n3 e.symm, AHeap.upd_same]; simp) fun e => (a9 l e).1 rfl, AHeap.upd_other _ _ fun e => n3 e.symm, AHeap.upd_same]
      have old : ∀ c, h1 c ≠ none → c ≠ l → blkOf v ≠ some c → h4 c = h1 c := fun c hc hcl hcv => by
        have hcb : c ≠ b3 := by intro e; rw [e] at hc; exact hc hb3'
        have e1 : ((h1.upd l (.loop .busy none fn T n [7] ca cb)).upd b3 (.cells [.int .i64 nn] false)) c = h1 c := by rw [AHeap.upd_other _ _ hcb, AHeap.upd_other _ _ hcl]
        rw [k4 c (by rw [e1]; exact hc) hcv, e1]
      have hb4 : h4 b2 = some (.cells [v] false) := by rw [old b2 (by rw [a1]; simp) (fun e => a4 e.symm) fun e => (a9 b2 e).2.2.1 rfl]; exact a1
      have hst : storeA h4 1 (.ptr (some (b2, 0))) v' = .val undefA (h4.upd b2 (.cells [v'] false)) := by
        have := SliceAt_cell G4.at_
        simp only [storeA, hb4, oneCell_cells this]
        rw [if_pos ⟨rfl, by simp, by simp [this]⟩]; rfl
      simp only [wk_skip, wk_region, wk_seq, wk_block, wk_cond, wk_exit, wk_ret, wk_draw, cnd_true, cnd_false, fin_nil, fin_seq, fin_seq_exit, fin_seq_ret, fin_seq_panic, fin_block, fin_block_exit, fin_block_ret, fin_block_panic, fin_loop, fin_loop_exit, fin_loop_ret, fin_loop_panic, ops_nil, ops_cons, ops_guard, res_val, res_new, main_nil, main_cons, main_guard, mres_val, mres_new, AOp.ev, AOpd.ev, evAll, evParts, evOpt, put_get, put_none, wantA, ARes.ofOpt, tmOf, List.getD_cons_zero, List.getD_cons_succ, Nat.reduceEqDiff, if_true, if_false, reduceIte, Nat.reduceAdd, Nat.reduceMul, binA, intOp, eqOp, nilOf, lenA_slice, callA, AV.cells, undefA, Option.map_some, Option.map_none, Bool.false_eq_true, reduceCtorEq, beq_false, beq_true, g_true, g_false, mg_true, mg_false, Bool.not_true, Bool.not_false, decide_true, decide_false, not_true_eq_false, not_false_eq_true, List.nil_append, List.cons_append, List.append_nil, Option.isNone_some, Option.isNone_none, List.getElem?_cons_zero, List.getElem?_cons_succ, T2, hst]
      have v'1 : ∀ c, blkOf v' = some c → c ≠ l ∧ c ≠ D ∧ c ≠ b2 ∧ h c = none := fun c hc => by
        refine ⟨fun e => ?_, fun e => ?_, fun e => ?_, (G4.own c hc).1⟩
        · subst e; rcases o4 c hc with e | e
          · exact (a9 c e).1 rfl
          · rw [AHeap.upd_other _ _ fun e => n3 e.symm, AHeap.upd_same] at e; cases e
        · subst e; rcases o4 c hc with e | e
          · exact (a9 c e).2.1 rfl
          · rw [(upd_none (upd_none e).2).2] at k2; cases k2
        · subst e; rcases o4 c hc with e | e
          · exact (a9 c e).2.2.1 rfl
          · rw [(upd_none (upd_none e).2).2] at a1; cases a1
      have fin : ∀ c, c ≠ l → c ≠ b2 → ((h4.upd b2 (.cells [v'] false)).upd l (.loop .ready none fn T n [7] ca cb)) c = h4 c := fun c h1 h2 => by rw [AHeap.upd_other _ _ h1, AHeap.upd_other _ _ h2]
      refine ⟨by rw [AHeap.upd_other _ _ a4]; exact hl4, rfl, fun c => c = l ∨ c = D ∨ c = b2 ∨ blkOf v' = some c, ⟨⟨AHeap.upd_same _ _ _, ?_⟩, v', ?_, ?_, a3, a4, a5, a6, a7, by simp; omega, fun c hc => ⟨(v'1 c hc).1, (v'1 c hc).2.1, (v'1 c hc).2.2.1, (v'1 c hc).2.2.2, ?_⟩, fun c => Iff.rfl⟩, fun c hc hS => ?_, fun c hc => ?_⟩
      · rw [fin D (fun e => a3 e.symm) a5, old D (by rw [k2]; simp) (fun e => a3 e.symm) fun e => (a9 D e).2.1 rfl]; exact k2
      · rw [AHeap.upd_other _ _ fun e => a4 e.symm]; exact AHeap.upd_same _ _ _
      · rw [List.map_append]
        exact G4.at_.keep fun c hc => fin c (v'1 c hc).1 (v'1 c hc).2.2.1
      · rw [fin c (v'1 c hc).1 (v'1 c hc).2.2.1]; exact (G4.own c hc).2
      · have h1' : c ≠ l := fun e => hS ((a10 c).2 (.inl e))
        have h2' : c ≠ b2 := fun e => hS ((a10 c).2 (.inr (.inr (.inl e))))
        rw [fin c h1' h2', old c hc h1' fun e => hS ((a10 c).2 (.inr (.inr (.inr e))))]
      · rcases hc with e | e | e | e
        · exact .inl ((a10 c).2 (.inl e))
        · exact .inl ((a10 c).2 (.inr (.inl e)))
        · exact .inl ((a10 c).2 (.inr (.inr (.inl e))))
        · rcases o4 c e with e | e
          · exact .inl ((a10 c).2 (.inr (.inr (.inr e))))
          · exact .inr (upd_none (upd_none e).2).2
    · refine ⟨⟨AHeap.upd_same _ _ _, by rw [AHeap.upd_other _ _ fun e => hne e.symm]; exact AHeap.upd_same _ _ _⟩, .slice none 0 0 0 true, by rw [AHeap.upd_other _ _ fun e => nl e.symm, AHeap.upd_other _ _ fun e => nD e.symm]; exact AHeap.upd_same _ _ _, SliceAt.nil _ _ _ _, hne, nl, nD, hl', hD', Nat.zero_le _, fun c hc => (by cases hc), fun c => ?_⟩
      simp [blkOf]
  · rintro D l K done S h' ⟨hk, _⟩; exact hk
  · rintro D l K done S h' hDl hg ⟨hk, v, a1, a2, a3, a4, a5, a6, a7, a8, a9, a10⟩ m hD x
    have a1' : (h'.upd l x) b2 = some (.cells [v] false) := by rw [AHeap.upd_other _ _ fun e => a4 e.symm]; exact a1
    simp only [wk_skip, wk_region, wk_seq, wk_block, wk_cond, wk_exit, wk_ret, wk_draw, cnd_true, cnd_false, fin_nil, fin_seq, fin_seq_exit, fin_seq_ret, fin_seq_panic, fin_block, fin_block_exit, fin_block_ret, fin_block_panic, fin_loop, fin_loop_exit, fin_loop_ret, fin_loop_panic, ops_nil, ops_cons, ops_guard, res_val, res_new, main_nil, main_cons, main_guard, mres_val, mres_new, AOp.ev, AOpd.ev, evAll, evParts, evOpt, put_get, put_none, wantA, ARes.ofOpt, tmOf, List.getD_cons_zero, List.getD_cons_succ, Nat.reduceEqDiff, if_true, if_false, reduceIte, Nat.reduceAdd, Nat.reduceMul, binA, intOp, eqOp, nilOf, lenA_slice, callA, AV.cells, undefA, Option.map_some, Option.map_none, Bool.false_eq_true, reduceCtorEq, beq_false, beq_true, g_true, g_false, mg_true, mg_false, Bool.not_true, Bool.not_false, decide_true, decide_false, not_true_eq_false, not_false_eq_true, List.nil_append, List.cons_append, List.append_nil, Option.isNone_some, Option.isNone_none, List.getElem?_cons_zero, List.getElem?_cons_succ, loadA, a1']
    refine ⟨by rw [AHeap.upd_other _ _ hDl]; exact hD, ?_⟩
    refine ⟨_, rfl, done, hg, ?_⟩
    have keep : ∀ c, c ≠ l → c ≠ D → ((h'.upd l x).upd D (.raw (.deferred none))) c = h' c := fun c h1 h2 => by rw [AHeap.upd_other _ _ h2, AHeap.upd_other _ _ h1]
    refine ⟨fun c hc => ?_, a2.keep fun c hc => keep c (a9 c hc).1 (a9 c hc).2.1, fun c hc => ⟨(a9 c hc).2.2.2.1, by rw [keep c (a9 c hc).1 (a9 c hc).2.1]; exact (a9 c hc).2.2.2.2⟩⟩
    rw [keep c (fun e => hc (e ▸ a6)) (fun e => hc (e ▸ a7))]; exact m c hc
end Go.Proofs.Ytnkdjfmidiffdaa
