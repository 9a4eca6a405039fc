/-
  Part of the proofs about the heap: an abstract memory, its compiled code, and the contracts of the functions over it.
  Conditions: each theorem names its own.
-/
import Derived.Test.YtnkdjfmidiffdaaH10
set_option linter.unusedSimpArgs false
set_option linter.unusedVariables false
namespace Go.Proofs.Ytnkdjfmidiffdaa
open Go Go.Proofs Go.Am
variable {N : Nat}

/-- 'Reach' of the list, with the objects that it names. -/
theorem reach_rows {h0 h : AHeap} {hb wb : Nat} {B : Int} {lo : List Ob} {xs : List Row} {ρ1 ρ2 : Nat → Nat} (b : Both h0 h hb wb B lo xs ρ1 ρ2) {v : AV} {roots : List Int} (H : Ints h v roots) (hl : roots.length ≤ 4000000000) :
    ARets Try.prog N 11 [.ptr (some (wb, 0)), v] h fun r h' => ∃ (u : AV) (er : Int), r = .tuple [u, .int .i64 er] ∧
      ((¬ KnownN lo roots ∧ er = 15 ∧ Grown h h' 1 u []) ∨ (KnownN lo roots ∧ er = 0 ∧ ∃ ys : List Ob, (liveOb lo roots).Perm ys ∧ Grown h h' 1 u ((namesOf ys).map (.int .i64)))) := by
  obtain ⟨used, least, g⟩ := b.heap.good
  obtain ⟨L, W, O⟩ := b.ref
  refine (reach_c W H (by omega) O.sorted).mono ?_
  rintro e h' ⟨u, er, rfl, hr⟩
  refine ⟨u, er, rfl, ?_⟩
  rcases hr with ⟨k1, rfl, rfl, rfl⟩ | ⟨k1, rfl, on, ho, hon, G⟩
  · exact .inl ⟨fun h => k1 ((known_perm b.same).1 h), rfl, Grown.nil (.refl _) 1 0 true⟩
  · have hpk : picked xs on = namesOf (obR (kept xs on)) := by simp [picked, namesOf, kept]
    exact .inr ⟨(known_perm b.same).2 k1, rfl, _, kept_live b.same g O.sorted ho hon, by rw [← hpk]; exact G⟩

theorem at_r {h : AHeap} {b : Nat} {L : AV} {B : Int} {xs : List Row} (W : WIn h b L B xs) (hs : (xs.map fun x => x.1.name).Pairwise (· < ·)) {o : Ob} (ho : o ∈ obR xs) :
    ARets Try.prog N 14 [.ptr (some (b, 0)), .int .i64 o.name] h fun r h' => h' = h ∧ ∃ (k : Nat) (hk : k < xs.length), r = .int .i64 k ∧ xs[k].1 = o := by
  refine (at_c W o.name).mono ?_
  rintro e h' ⟨rfl, r, rfl, hr⟩
  obtain ⟨x, hx, rfl⟩ := obR_mem.1 ho
  rcases hr with ⟨_, hno⟩ | ⟨k, hk, rfl, hn⟩
  · exact absurd rfl (hno x hx)
  · obtain ⟨j, hj, rfl⟩ := List.mem_iff_getElem.1 hx
    have := names_inj hs hk hj (by omega)
    subst this
    exact ⟨rfl, k, hk, rfl, rfl⟩

theorem tot_sub {l m : List Ob} (s : l.Sublist m) : totOb l ≤ totOb m := by
  induction s with
  | slnil => simp
  | cons a _ ih => simp only [totOb, List.map_cons, List.sum_cons] at ih ⊢; omega
  | cons_cons a _ ih => simp only [totOb, List.map_cons, List.sum_cons] at ih ⊢; omega
theorem tot_take {l : List Ob} {i : Nat} (hi : i < l.length) : totOb (l.take (i + 1)) = totOb (l.take i) + sizeOb l[i] := by
  rw [List.take_add_one, List.getElem?_eq_getElem hi]
  simp only [Option.toList_some, totOb, List.map_append, List.sum_append, List.map_cons, List.map_nil, List.sum_cons, List.sum_nil, Nat.add_zero]

/-- HeapRoom. -/
theorem room_law {h0 : AHeap} (cells : Int) {av fv rv : AV} {acts : List ActD} {refs : List Bool} {roots : List Int} (A : ActsAt h0 av acts) (Sf : RSlice h0 1 fv (refs.map .bool)) (hlf : refs.length ≤ 2000000) (Sr : RSlice h0 1 rv (roots.map (.int .i64))) (hlr : roots.length ≤ 2000000) :
    ARets Try.prog N 3 [.int .i64 cells, av, fv, rv] h0 fun r _ => r = .bool true := by
  refine acalls_of_wp c3_ok mixed (by show 4 ≤ 171; decide) (wk_start ?_)
  unfold c3
  simp only [wk_skip, wk_region, wk_seq, wk_block, wk_cond, wk_exit, wk_ret, wk_draw, cnd_true, cnd_false, fin_nil, fin_seq, fin_seq_exit, fin_seq_ret, fin_seq_panic, fin_block, fin_block_exit, fin_block_ret, fin_block_panic, fin_loop, fin_loop_exit, fin_loop_ret, fin_loop_panic, ops_nil, ops_cons, ops_guard, res_val, res_new, main_nil, main_cons, main_guard, mres_val, mres_new, AOp.ev, AOpd.ev, evAll, evParts, evOpt, put_get, put_none, wantA, ARes.ofOpt, tmOf, List.getD_cons_zero, List.getD_cons_succ, Nat.reduceEqDiff, if_true, if_false, reduceIte, Nat.reduceAdd, Nat.reduceMul, binA, intOp, eqOp, nilOf, lenA_slice, callA, AV.cells, undefA, Option.map_some, Option.map_none, Bool.false_eq_true, reduceCtorEq, beq_false, beq_true, g_true, g_false, mg_true, mg_false, Bool.not_true, Bool.not_false, decide_true, decide_false, not_true_eq_false, not_false_eq_true, List.nil_append, List.cons_append, List.append_nil, Option.isNone_some, Option.isNone_none, List.getElem?_cons_zero, List.getElem?_cons_succ]
  refine res_ret (grown9_c cells A) ?_
  rintro r h1 d1 ⟨hb, wb, B, rfl, hB, lo, xs, ρ1, ρ2, b1⟩
  simp only [wk_skip, wk_region, wk_seq, wk_block, wk_cond, wk_exit, wk_ret, wk_draw, cnd_true, cnd_false, fin_nil, fin_seq, fin_seq_exit, fin_seq_ret, fin_seq_panic, fin_block, fin_block_exit, fin_block_ret, fin_block_panic, fin_loop, fin_loop_exit, fin_loop_ret, fin_loop_panic, ops_nil, ops_cons, ops_guard, res_val, res_new, main_nil, main_cons, main_guard, mres_val, mres_new, AOp.ev, AOpd.ev, evAll, evParts, evOpt, put_get, put_none, wantA, ARes.ofOpt, tmOf, List.getD_cons_zero, List.getD_cons_succ, Nat.reduceEqDiff, if_true, if_false, reduceIte, Nat.reduceAdd, Nat.reduceMul, binA, intOp, eqOp, nilOf, lenA_slice, callA, AV.cells, undefA, Option.map_some, Option.map_none, Bool.false_eq_true, reduceCtorEq, beq_false, beq_true, g_true, g_false, mg_true, mg_false, Bool.not_true, Bool.not_false, decide_true, decide_false, not_true_eq_false, not_false_eq_true, List.nil_append, List.cons_append, List.append_nil, Option.isNone_some, Option.isNone_none, List.getElem?_cons_zero, List.getElem?_cons_succ]
  refine res_ret answers10_c ?_
  rintro r h2 d2 ⟨rfl, m2⟩
  have b2 := b1.more m2
  have d02 := d1.trans d2
  simp only [wk_skip, wk_region, wk_seq, wk_block, wk_cond, wk_exit, wk_ret, wk_draw, cnd_true, cnd_false, fin_nil, fin_seq, fin_seq_exit, fin_seq_ret, fin_seq_panic, fin_block, fin_block_exit, fin_block_ret, fin_block_panic, fin_loop, fin_loop_exit, fin_loop_ret, fin_loop_panic, ops_nil, ops_cons, ops_guard, res_val, res_new, main_nil, main_cons, main_guard, mres_val, mres_new, AOp.ev, AOpd.ev, evAll, evParts, evOpt, put_get, put_none, wantA, ARes.ofOpt, tmOf, List.getD_cons_zero, List.getD_cons_succ, Nat.reduceEqDiff, if_true, if_false, reduceIte, Nat.reduceAdd, Nat.reduceMul, binA, intOp, eqOp, nilOf, lenA_slice, callA, AV.cells, undefA, Option.map_some, Option.map_none, Bool.false_eq_true, reduceCtorEq, beq_false, beq_true, g_true, g_false, mg_true, mg_false, Bool.not_true, Bool.not_false, decide_true, decide_false, not_true_eq_false, not_false_eq_true, List.nil_append, List.cons_append, List.append_nil, Option.isNone_some, Option.isNone_none, List.getElem?_cons_zero, List.getElem?_cons_succ]
  refine res_ret (reach_rows b2 (Sr.dom d02).at_ (by omega)) ?_
  rintro r h3 d3 ⟨lv, le, rfl, hr⟩
  have G3 : ∃ cs, Grown h2 h3 1 lv cs := by
    rcases hr with ⟨_, _, G⟩ | ⟨_, _, _, _, G⟩ <;> exact ⟨_, G⟩
  obtain ⟨_, G3⟩ := G3
  have b3 := b2.more G3.more
  have lvo : ∀ c, blkOf lv = some c → ρ1 c = 0 := fun c hc => (b2.free' (G3.own c hc).1).1
  have d03 := d02.trans d3
  simp only [wk_skip, wk_region, wk_seq, wk_block, wk_cond, wk_exit, wk_ret, wk_draw, cnd_true, cnd_false, fin_nil, fin_seq, fin_seq_exit, fin_seq_ret, fin_seq_panic, fin_block, fin_block_exit, fin_block_ret, fin_block_panic, fin_loop, fin_loop_exit, fin_loop_ret, fin_loop_panic, ops_nil, ops_cons, ops_guard, res_val, res_new, main_nil, main_cons, main_guard, mres_val, mres_new, AOp.ev, AOpd.ev, evAll, evParts, evOpt, put_get, put_none, wantA, ARes.ofOpt, tmOf, List.getD_cons_zero, List.getD_cons_succ, Nat.reduceEqDiff, if_true, if_false, reduceIte, Nat.reduceAdd, Nat.reduceMul, binA, intOp, eqOp, nilOf, lenA_slice, callA, AV.cells, undefA, Option.map_some, Option.map_none, Bool.false_eq_true, reduceCtorEq, beq_false, beq_true, g_true, g_false, mg_true, mg_false, Bool.not_true, Bool.not_false, decide_true, decide_false, not_true_eq_false, not_false_eq_true, List.nil_append, List.cons_append, List.append_nil, Option.isNone_some, Option.isNone_none, List.getElem?_cons_zero, List.getElem?_cons_succ, fill_nil]
  intro eb heb
  have me := More.upd heb (.cells [] false)
  have de : Dom h3 (h3.upd eb (.cells [] false)) := Dom.new heb _
  refine res_append (bytes := 1) (Grown.make (sz := 1) (n := 0) (ex := true) heb (x := []) (by simp)) ((Sf.dom d03).dom de).at_ (by omega) (by simp; omega) (by omega) rfl (by simp [AV.oneCell]) ?_
  intro fv' h5 G5 d5 k5 o5
  rw [List.nil_append] at G5
  have b5 := b3.more G5.more
  have d05 := d03.trans (de.trans d5)
  simp only [wk_skip, wk_region, wk_seq, wk_block, wk_cond, wk_exit, wk_ret, wk_draw, cnd_true, cnd_false, fin_nil, fin_seq, fin_seq_exit, fin_seq_ret, fin_seq_panic, fin_block, fin_block_exit, fin_block_ret, fin_block_panic, fin_loop, fin_loop_exit, fin_loop_ret, fin_loop_panic, ops_nil, ops_cons, ops_guard, res_val, res_new, main_nil, main_cons, main_guard, mres_val, mres_new, AOp.ev, AOpd.ev, evAll, evParts, evOpt, put_get, put_none, wantA, ARes.ofOpt, tmOf, List.getD_cons_zero, List.getD_cons_succ, Nat.reduceEqDiff, if_true, if_false, reduceIte, Nat.reduceAdd, Nat.reduceMul, binA, intOp, eqOp, nilOf, lenA_slice, callA, AV.cells, undefA, Option.map_some, Option.map_none, Bool.false_eq_true, reduceCtorEq, beq_false, beq_true, g_true, g_false, mg_true, mg_false, Bool.not_true, Bool.not_false, decide_true, decide_false, not_true_eq_false, not_false_eq_true, List.nil_append, List.cons_append, List.append_nil, Option.isNone_some, Option.isNone_none, List.getElem?_cons_zero, List.getElem?_cons_succ]
  refine res_ret (ints13_c (Sr.dom d05).at_ (by simp; omega) (by simp [AV.oneCell])) ?_
  intro rv' h6 d6 G6
  have b6 := b5.more G6.more
  simp only [wk_skip, wk_region, wk_seq, wk_block, wk_cond, wk_exit, wk_ret, wk_draw, cnd_true, cnd_false, fin_nil, fin_seq, fin_seq_exit, fin_seq_ret, fin_seq_panic, fin_block, fin_block_exit, fin_block_ret, fin_block_panic, fin_loop, fin_loop_exit, fin_loop_ret, fin_loop_panic, ops_nil, ops_cons, ops_guard, res_val, res_new, main_nil, main_cons, main_guard, mres_val, mres_new, AOp.ev, AOpd.ev, evAll, evParts, evOpt, put_get, put_none, wantA, ARes.ofOpt, tmOf, List.getD_cons_zero, List.getD_cons_succ, Nat.reduceEqDiff, if_true, if_false, reduceIte, Nat.reduceAdd, Nat.reduceMul, binA, intOp, eqOp, nilOf, lenA_slice, callA, AV.cells, undefA, Option.map_some, Option.map_none, Bool.false_eq_true, reduceCtorEq, beq_false, beq_true, g_true, g_false, mg_true, mg_false, Bool.not_true, Bool.not_false, decide_true, decide_false, not_true_eq_false, not_false_eq_true, List.nil_append, List.cons_append, List.append_nil, Option.isNone_some, Option.isNone_none, List.getElem?_cons_zero, List.getElem?_cons_succ]
  refine res_ret (alloc12_c b6.heap (slice_more G5.at_ G6.more) G6.at_ (by omega) (by omega) fun c hc => (b3.free' (G5.own c hc).1).1) ?_
  rintro r h7 d7 ⟨n, e, l', ρ1', rfl, hA, R7, off7, mine7⟩
  have S7 : ∀ {cs}, SliceAt h3 1 lv cs → SliceAt h7 1 lv cs := fun s => slice_off off7 (slice_more (slice_more s G5.more) G6.more) lvo
  obtain ⟨W7', _, _⟩ := b6.heap' R7 off7 mine7
  obtain ⟨L, W, O⟩ := W7'
  obtain ⟨M, used, least, os, rfl, H, g', O1⟩ := id R7
  obtain ⟨us0, lst0, g0⟩ := b2.heap.good
  have lf := ((Sf.dom d05).dom (d6.trans d7)).at_.len refs.length (by simp) (by omega)
  rcases hr with ⟨k1, rfl, G⟩ | ⟨k1, rfl, ys, hp, G⟩
  · have he : e = 15 ∨ e = 2 := by
      rcases hA with ⟨_, _, h, _⟩ | ⟨_, _, _, h, _⟩ | ⟨_, h, _⟩
      · exact .inr h
      · exact .inl h
      · exact absurd h k1
    rcases he with rfl | rfl
    · simp only [wk_skip, wk_region, wk_seq, wk_block, wk_cond, wk_exit, wk_ret, wk_draw, cnd_true, cnd_false, fin_nil, fin_seq, fin_seq_exit, fin_seq_ret, fin_seq_panic, fin_block, fin_block_exit, fin_block_ret, fin_block_panic, fin_loop, fin_loop_exit, fin_loop_ret, fin_loop_panic, ops_nil, ops_cons, ops_guard, res_val, res_new, main_nil, main_cons, main_guard, mres_val, mres_new, AOp.ev, AOpd.ev, evAll, evParts, evOpt, put_get, put_none, wantA, ARes.ofOpt, tmOf, List.getD_cons_zero, List.getD_cons_succ, Nat.reduceEqDiff, if_true, if_false, reduceIte, Nat.reduceAdd, Nat.reduceMul, binA, intOp, eqOp, nilOf, lenA_slice, callA, AV.cells, undefA, Option.map_some, Option.map_none, Bool.false_eq_true, reduceCtorEq, beq_false, beq_true, g_true, g_false, mg_true, mg_false, Bool.not_true, Bool.not_false, decide_true, decide_false, not_true_eq_false, not_false_eq_true, List.nil_append, List.cons_append, List.append_nil, Option.isNone_some, Option.isNone_none, List.getElem?_cons_zero, List.getElem?_cons_succ, Int.reduceEq]
      exact fnEnd_ret1 (by simp [TM.put])
    · simp only [wk_skip, wk_region, wk_seq, wk_block, wk_cond, wk_exit, wk_ret, wk_draw, cnd_true, cnd_false, fin_nil, fin_seq, fin_seq_exit, fin_seq_ret, fin_seq_panic, fin_block, fin_block_exit, fin_block_ret, fin_block_panic, fin_loop, fin_loop_exit, fin_loop_ret, fin_loop_panic, ops_nil, ops_cons, ops_guard, res_val, res_new, main_nil, main_cons, main_guard, mres_val, mres_new, AOp.ev, AOpd.ev, evAll, evParts, evOpt, put_get, put_none, wantA, ARes.ofOpt, tmOf, List.getD_cons_zero, List.getD_cons_succ, Nat.reduceEqDiff, if_true, if_false, reduceIte, Nat.reduceAdd, Nat.reduceMul, binA, intOp, eqOp, nilOf, lenA_slice, callA, AV.cells, undefA, Option.map_some, Option.map_none, Bool.false_eq_true, reduceCtorEq, beq_false, beq_true, g_true, g_false, mg_true, mg_false, Bool.not_true, Bool.not_false, decide_true, decide_false, not_true_eq_false, not_false_eq_true, List.nil_append, List.cons_append, List.append_nil, Option.isNone_some, Option.isNone_none, List.getElem?_cons_zero, List.getElem?_cons_succ, Int.reduceEq]
      exact fnEnd_ret1 (by simp [TM.put])
  by_cases hbig : (262146 : Int) < (refs.length : Int)
  · have he : e = 2 := by
      rcases hA with ⟨_, _, h, _⟩ | ⟨_, _, _, h, _⟩ | ⟨_, h, _⟩
      · exact h
      · omega
      · omega
    subst he
    simp only [wk_skip, wk_region, wk_seq, wk_block, wk_cond, wk_exit, wk_ret, wk_draw, cnd_true, cnd_false, fin_nil, fin_seq, fin_seq_exit, fin_seq_ret, fin_seq_panic, fin_block, fin_block_exit, fin_block_ret, fin_block_panic, fin_loop, fin_loop_exit, fin_loop_ret, fin_loop_panic, ops_nil, ops_cons, ops_guard, res_val, res_new, main_nil, main_cons, main_guard, mres_val, mres_new, AOp.ev, AOpd.ev, evAll, evParts, evOpt, put_get, put_none, wantA, ARes.ofOpt, tmOf, List.getD_cons_zero, List.getD_cons_succ, Nat.reduceEqDiff, if_true, if_false, reduceIte, Nat.reduceAdd, Nat.reduceMul, binA, intOp, eqOp, nilOf, lenA_slice, callA, AV.cells, undefA, Option.map_some, Option.map_none, Bool.false_eq_true, reduceCtorEq, beq_false, beq_true, g_true, g_false, mg_true, mg_false, Bool.not_true, Bool.not_false, decide_true, decide_false, not_true_eq_false, not_false_eq_true, List.nil_append, List.cons_append, List.append_nil, Option.isNone_some, Option.isNone_none, List.getElem?_cons_zero, List.getElem?_cons_succ, lf, hbig, Int.reduceEq]
    exact fnEnd_ret1 (by simp [TM.put])
  obtain ⟨l1, hroom, hA⟩ : ∃ l1, RoomN lo B refs.length roots l1 ∧
      ((B < (totOb l1 : Int) + 1 + refs.length ∧ n = 0 ∧ e = 20 ∧ obsOf os = l1) ∨
       ((totOb l1 : Int) + 1 + refs.length ≤ B ∧ e = 0 ∧ ∃ m : Nat, n = m ∧ LeastFree l1 m ∧ obsOf os = l1 ++ [⟨m, List.replicate refs.length 0, refs⟩])) := by
    rcases hA with ⟨h, _⟩ | ⟨_, h, _⟩ | ⟨_, _, h⟩
    · omega
    · exact absurd k1 h
    · exact h
  have hty : totOb ys = totOb (liveOb lo roots) := ((hp.map sizeOb).sum_nat).symm
  have htl : totOb (liveOb lo roots) ≤ totOb lo := tot_sub List.filter_sublist
  have ht0 := g0.tot
  have sub1 : ∀ y ∈ ys, y ∈ l1 := fun y hy => by
    have := hp.mem_iff.2 hy
    rcases hroom with ⟨_, rfl⟩ | ⟨_, rfl⟩
    · exact (mem_live.1 this).1
    · exact this
  have inlo : ∀ y ∈ ys, y ∈ lo := fun y hy => (mem_live.1 (hp.mem_iff.2 hy)).1
  have there : ∀ y ∈ ys, y ∈ obsOf os ∧ n ≠ (y.name : Int) := fun y hy => by
    have h1 := sub1 y hy
    rcases hA with ⟨_, rfl, _, e⟩ | ⟨_, _, m, rfl, hm, e⟩
    · have := g0.pos y (inlo y hy)
      exact ⟨by rw [e]; exact h1, by omega⟩
    · refine ⟨by rw [e]; exact List.mem_append_left _ h1, fun h => hm.2.1 y h1 (by omega)⟩
  have fin : (e = 0 ∧ (totOb ys : Int) + 1 + refs.length ≤ B) ∨ (e = 20 ∧ ¬ (totOb ys : Int) + 1 + refs.length ≤ B) := by
    rcases hA with ⟨h1, _, h2, _⟩ | ⟨h1, h2, _⟩ <;> rcases hroom with ⟨r1, rfl⟩ | ⟨r1, rfl⟩
    · omega
    · exact .inr ⟨h2, by omega⟩
    · exact .inl ⟨h2, by omega⟩
    · exact .inl ⟨h2, by omega⟩
  clear hA hroom
  have hylen : ys.length ≤ 65536 := by
    have h1 := hp.length_eq
    have h2 : (liveOb lo roots).length ≤ lo.length := (List.filter_sublist).length_le
    have h3 := g0.len
    omega
  have Sl := S7 G.at_
  have ll := Sl.len ys.length (by simp [namesOf]) (by omega)
  simp only [wk_skip, wk_region, wk_seq, wk_block, wk_cond, wk_exit, wk_ret, wk_draw, cnd_true, cnd_false, fin_nil, fin_seq, fin_seq_exit, fin_seq_ret, fin_seq_panic, fin_block, fin_block_exit, fin_block_ret, fin_block_panic, fin_loop, fin_loop_exit, fin_loop_ret, fin_loop_panic, ops_nil, ops_cons, ops_guard, res_val, res_new, main_nil, main_cons, main_guard, mres_val, mres_new, AOp.ev, AOpd.ev, evAll, evParts, evOpt, put_get, put_none, wantA, ARes.ofOpt, tmOf, List.getD_cons_zero, List.getD_cons_succ, Nat.reduceEqDiff, if_true, if_false, reduceIte, Nat.reduceAdd, Nat.reduceMul, binA, intOp, eqOp, nilOf, lenA_slice, callA, AV.cells, undefA, Option.map_some, Option.map_none, Bool.false_eq_true, reduceCtorEq, beq_false, beq_true, g_true, g_false, mg_true, mg_false, Bool.not_true, Bool.not_false, decide_true, decide_false, not_true_eq_false, not_false_eq_true, List.nil_append, List.cons_append, List.append_nil, Option.isNone_some, Option.isNone_none, List.getElem?_cons_zero, List.getElem?_cons_succ, lf, hbig]
  refine wk_loop (fun k tm ds h => ds = [] ∧ h = h7 ∧ tm 2 = fv ∧ tm 9 = .ptr (some (hb, 0)) ∧ tm 10 = .ptr (some (wb, 0)) ∧ tm 11 = lv ∧ tm 13 = .int .i64 n ∧ tm 14 = .int .i64 e ∧ ∃ i : Nat, tm 16 = .int .i64 i ∧ i + k = ys.length ∧ tm 15 = .int .i64 (totOb (ys.take i))) ys.length
    ⟨rfl, rfl, rfl, rfl, rfl, rfl, rfl, rfl, 0, rfl, by simp, by simp [totOb, TM.put]⟩ ?_
  rintro k tm ds h ⟨rfl, rfl, t2, t9, t10, t11, t13, t14, i, t16, hk, t15⟩
  have few := W.few
  simp only [wk_skip, wk_region, wk_seq, wk_block, wk_cond, wk_exit, wk_ret, wk_draw, cnd_true, cnd_false, fin_nil, fin_seq, fin_seq_exit, fin_seq_ret, fin_seq_panic, fin_block, fin_block_exit, fin_block_ret, fin_block_panic, fin_loop, fin_loop_exit, fin_loop_ret, fin_loop_panic, ops_nil, ops_cons, ops_guard, res_val, res_new, main_nil, main_cons, main_guard, mres_val, mres_new, AOp.ev, AOpd.ev, evAll, evParts, evOpt, put_get, put_none, wantA, ARes.ofOpt, tmOf, List.getD_cons_zero, List.getD_cons_succ, Nat.reduceEqDiff, if_true, if_false, reduceIte, Nat.reduceAdd, Nat.reduceMul, binA, intOp, eqOp, nilOf, lenA_slice, callA, AV.cells, undefA, Option.map_some, Option.map_none, Bool.false_eq_true, reduceCtorEq, beq_false, beq_true, g_true, g_false, mg_true, mg_false, Bool.not_true, Bool.not_false, decide_true, decide_false, not_true_eq_false, not_false_eq_true, List.nil_append, List.cons_append, List.append_nil, Option.isNone_some, Option.isNone_none, List.getElem?_cons_zero, List.getElem?_cons_succ, t10, t11, t13, t14, t15, t16, ll]
  refine cond_dec (fun hi => ?_) (fun hi => ?_)
  · have hi' : i < ys.length := by omega
    have wri : IntKind.i64.wrap ((i : Int) + 1) = ((i + 1 : Nat) : Int) := by rw [wrap64 (by omega) (by omega)]; rfl
    obtain ⟨b1', o1, g1, _, g2⟩ := Sl.get i (by simpa [namesOf] using hi') .i64
    simp only [List.getElem_map, namesOf] at g2
    have hy := List.getElem_mem hi'
    obtain ⟨hyl, hyn⟩ := there _ hy
    simp only [wk_skip, wk_region, wk_seq, wk_block, wk_cond, wk_exit, wk_ret, wk_draw, cnd_true, cnd_false, fin_nil, fin_seq, fin_seq_exit, fin_seq_ret, fin_seq_panic, fin_block, fin_block_exit, fin_block_ret, fin_block_panic, fin_loop, fin_loop_exit, fin_loop_ret, fin_loop_panic, ops_nil, ops_cons, ops_guard, res_val, res_new, main_nil, main_cons, main_guard, mres_val, mres_new, AOp.ev, AOpd.ev, evAll, evParts, evOpt, put_get, put_none, wantA, ARes.ofOpt, tmOf, List.getD_cons_zero, List.getD_cons_succ, Nat.reduceEqDiff, if_true, if_false, reduceIte, Nat.reduceAdd, Nat.reduceMul, binA, intOp, eqOp, nilOf, lenA_slice, callA, AV.cells, undefA, Option.map_some, Option.map_none, Bool.false_eq_true, reduceCtorEq, beq_false, beq_true, g_true, g_false, mg_true, mg_false, Bool.not_true, Bool.not_false, decide_true, decide_false, not_true_eq_false, not_false_eq_true, List.nil_append, List.cons_append, List.append_nil, Option.isNone_some, Option.isNone_none, List.getElem?_cons_zero, List.getElem?_cons_succ, t10, t11, t16, g1, g2]
    refine res_ret (at_r W O.sorted (b2.same.mem_iff.1 (inlo _ hy))) ?_
    rintro r h d ⟨rfl, j, hj, rfl, hjy⟩
    obtain ⟨c, o, q1, _, q2, _⟩ := W.row j hj
    have Sc := W.cells _ (List.getElem_mem hj)
    rw [hjy] at Sc
    have hcl : ys[i].cells.length ≤ 65536 := g0.small (inlo _ hy)
    have q3 := Sc.len ys[i].cells.length (by simp) (by omega)
    have htt := tot_take hi'
    have htb : totOb (ys.take (i + 1)) ≤ totOb ys := tot_sub (List.take_sublist _ _)
    have w1 : IntKind.i64.wrap ((totOb (ys.take i) : Int) + 1) = (totOb (ys.take i) : Int) + 1 := wrap64 (by omega) (by omega)
    have w2 : IntKind.i64.wrap ((totOb (ys.take i) : Int) + 1 + (ys[i].cells.length : Int)) = (totOb (ys.take (i + 1)) : Int) := by
      unfold sizeOb at htt
      rw [wrap64 (by omega) (by omega)]; omega
    simp only [wk_skip, wk_region, wk_seq, wk_block, wk_cond, wk_exit, wk_ret, wk_draw, cnd_true, cnd_false, fin_nil, fin_seq, fin_seq_exit, fin_seq_ret, fin_seq_panic, fin_block, fin_block_exit, fin_block_ret, fin_block_panic, fin_loop, fin_loop_exit, fin_loop_ret, fin_loop_panic, ops_nil, ops_cons, ops_guard, res_val, res_new, main_nil, main_cons, main_guard, mres_val, mres_new, AOp.ev, AOpd.ev, evAll, evParts, evOpt, put_get, put_none, wantA, ARes.ofOpt, tmOf, List.getD_cons_zero, List.getD_cons_succ, Nat.reduceEqDiff, if_true, if_false, reduceIte, Nat.reduceAdd, Nat.reduceMul, binA, intOp, eqOp, nilOf, lenA_slice, callA, AV.cells, undefA, Option.map_some, Option.map_none, Bool.false_eq_true, reduceCtorEq, beq_false, beq_true, g_true, g_false, mg_true, mg_false, Bool.not_true, Bool.not_false, decide_true, decide_false, not_true_eq_false, not_false_eq_true, List.nil_append, List.cons_append, List.append_nil, Option.isNone_some, Option.isNone_none, List.getElem?_cons_zero, List.getElem?_cons_succ, t9, t10, t11, t15, t16, nilCheck_ptr, W.ld0, q1, q2, q3, w1, w2, g1, g2]
    refine res_ret (len15_c H g' _) ?_
    rintro r h d ⟨rfl, n1, e1, rfl, hl⟩
    obtain ⟨rfl, rfl⟩ : n1 = ys[i].cells.length ∧ e1 = 0 := by
      rcases hl with ⟨hno, _⟩ | ⟨x, hx, hxn, h1, h2⟩
      · obtain ⟨x, hx, e⟩ := of_obs hyl
        exact absurd (by rw [e]) (hno x hx)
      · have : x.ob = ys[i] := g'.inj (mem_obs hx) hyl (by omega)
        rw [this] at h1
        exact ⟨h1, h2⟩
    simp only [wk_skip, wk_region, wk_seq, wk_block, wk_cond, wk_exit, wk_ret, wk_draw, cnd_true, cnd_false, fin_nil, fin_seq, fin_seq_exit, fin_seq_ret, fin_seq_panic, fin_block, fin_block_exit, fin_block_ret, fin_block_panic, fin_loop, fin_loop_exit, fin_loop_ret, fin_loop_panic, ops_nil, ops_cons, ops_guard, res_val, res_new, main_nil, main_cons, main_guard, mres_val, mres_new, AOp.ev, AOpd.ev, evAll, evParts, evOpt, put_get, put_none, wantA, ARes.ofOpt, tmOf, List.getD_cons_zero, List.getD_cons_succ, Nat.reduceEqDiff, if_true, if_false, reduceIte, Nat.reduceAdd, Nat.reduceMul, binA, intOp, eqOp, nilOf, lenA_slice, callA, AV.cells, undefA, Option.map_some, Option.map_none, Bool.false_eq_true, reduceCtorEq, beq_false, beq_true, g_true, g_false, mg_true, mg_false, Bool.not_true, Bool.not_false, decide_true, decide_false, not_true_eq_false, not_false_eq_true, List.nil_append, List.cons_append, List.append_nil, Option.isNone_some, Option.isNone_none, List.getElem?_cons_zero, List.getElem?_cons_succ, t9, t10, t11, t13, t15, t16, nilCheck_ptr, W.ld0, q1, q2, q3, g1, g2, hyn, Int.reduceEq]
    refine wk_loop (fun k' tm ds h' => ds = [] ∧ h' = h ∧ tm 2 = fv ∧ tm 9 = .ptr (some (hb, 0)) ∧ tm 10 = .ptr (some (wb, 0)) ∧ tm 11 = lv ∧ tm 13 = .int .i64 n ∧ tm 14 = .int .i64 e ∧ tm 15 = .int .i64 (totOb (ys.take (i + 1))) ∧ tm 16 = .int .i64 i ∧ tm 17 = .int .i64 j ∧ tm 18 = .int .i64 ys[i].cells.length ∧ ∃ u : Nat, tm 20 = .int .i64 u ∧ u + k' = ys[i].cells.length) ys[i].cells.length
      ⟨rfl, rfl, by simp [TM.put, t2], by simp [TM.put, t9], by simp [TM.put, t10], by simp [TM.put, t11], by simp [TM.put, t13], by simp [TM.put, t14], by simp [TM.put], by simp [TM.put, t16], by simp [TM.put], by simp [TM.put], 0, rfl, by simp⟩ ?_
    clear t2 t9 t10 t11 t13 t14 t15 t16 tm
    rintro k' tm ds h' ⟨rfl, rfl, t2, t9, t10, t11, t13, t14, t15, t16, t17, t18, u, t20, hk'⟩
    simp only [wk_skip, wk_region, wk_seq, wk_block, wk_cond, wk_exit, wk_ret, wk_draw, cnd_true, cnd_false, fin_nil, fin_seq, fin_seq_exit, fin_seq_ret, fin_seq_panic, fin_block, fin_block_exit, fin_block_ret, fin_block_panic, fin_loop, fin_loop_exit, fin_loop_ret, fin_loop_panic, ops_nil, ops_cons, ops_guard, res_val, res_new, main_nil, main_cons, main_guard, mres_val, mres_new, AOp.ev, AOpd.ev, evAll, evParts, evOpt, put_get, put_none, wantA, ARes.ofOpt, tmOf, List.getD_cons_zero, List.getD_cons_succ, Nat.reduceEqDiff, if_true, if_false, reduceIte, Nat.reduceAdd, Nat.reduceMul, binA, intOp, eqOp, nilOf, lenA_slice, callA, AV.cells, undefA, Option.map_some, Option.map_none, Bool.false_eq_true, reduceCtorEq, beq_false, beq_true, g_true, g_false, mg_true, mg_false, Bool.not_true, Bool.not_false, decide_true, decide_false, not_true_eq_false, not_false_eq_true, List.nil_append, List.cons_append, List.append_nil, Option.isNone_some, Option.isNone_none, List.getElem?_cons_zero, List.getElem?_cons_succ, t18, t20]
    refine cond_dec (fun hu => ?_) (fun hu => ?_)
    · have hu' : u < ys[i].cells.length := by omega
      have wru : IntKind.i64.wrap ((u : Int) + 1) = ((u + 1 : Nat) : Int) := by rw [wrap64 (by omega) (by omega)]; rfl
      obtain ⟨b2', o2, p1, _, p2⟩ := Sc.get u (by simpa using hu') .i64
      simp only [List.getElem_map] at p2
      simp only [wk_skip, wk_region, wk_seq, wk_block, wk_cond, wk_exit, wk_ret, wk_draw, cnd_true, cnd_false, fin_nil, fin_seq, fin_seq_exit, fin_seq_ret, fin_seq_panic, fin_block, fin_block_exit, fin_block_ret, fin_block_panic, fin_loop, fin_loop_exit, fin_loop_ret, fin_loop_panic, ops_nil, ops_cons, ops_guard, res_val, res_new, main_nil, main_cons, main_guard, mres_val, mres_new, AOp.ev, AOpd.ev, evAll, evParts, evOpt, put_get, put_none, wantA, ARes.ofOpt, tmOf, List.getD_cons_zero, List.getD_cons_succ, Nat.reduceEqDiff, if_true, if_false, reduceIte, Nat.reduceAdd, Nat.reduceMul, binA, intOp, eqOp, nilOf, lenA_slice, callA, AV.cells, undefA, Option.map_some, Option.map_none, Bool.false_eq_true, reduceCtorEq, beq_false, beq_true, g_true, g_false, mg_true, mg_false, Bool.not_true, Bool.not_false, decide_true, decide_false, not_true_eq_false, not_false_eq_true, List.nil_append, List.cons_append, List.append_nil, Option.isNone_some, Option.isNone_none, List.getElem?_cons_zero, List.getElem?_cons_succ, t9, t11, t16, t20, g1, g2]
      refine res_ret (get16_c H g' _ _) ?_
      rintro r h d ⟨rfl, n2, q, e2, rfl, hg⟩
      have : n2 = ys[i].cells[u] := by
        rcases hg with ⟨hno, _⟩ | ⟨x, hx, hxn, ⟨h1, _⟩ | ⟨v, hv, h1, _⟩⟩
        · exact absurd rfl (hno _ hyl)
        · have : x = ys[i] := g'.inj hx hyl (by omega)
          subst this; omega
        · have : x = ys[i] := g'.inj hx hyl (by omega)
          subst this
          have : v = u := by omega
          subst this
          rw [List.getElem?_eq_getElem hu'] at h1
          exact (Option.some.inj h1).symm
      subst this
      simp only [wk_skip, wk_region, wk_seq, wk_block, wk_cond, wk_exit, wk_ret, wk_draw, cnd_true, cnd_false, fin_nil, fin_seq, fin_seq_exit, fin_seq_ret, fin_seq_panic, fin_block, fin_block_exit, fin_block_ret, fin_block_panic, fin_loop, fin_loop_exit, fin_loop_ret, fin_loop_panic, ops_nil, ops_cons, ops_guard, res_val, res_new, main_nil, main_cons, main_guard, mres_val, mres_new, AOp.ev, AOpd.ev, evAll, evParts, evOpt, put_get, put_none, wantA, ARes.ofOpt, tmOf, List.getD_cons_zero, List.getD_cons_succ, Nat.reduceEqDiff, if_true, if_false, reduceIte, Nat.reduceAdd, Nat.reduceMul, binA, intOp, eqOp, nilOf, lenA_slice, callA, AV.cells, undefA, Option.map_some, Option.map_none, Bool.false_eq_true, reduceCtorEq, beq_false, beq_true, g_true, g_false, mg_true, mg_false, Bool.not_true, Bool.not_false, decide_true, decide_false, not_true_eq_false, not_false_eq_true, List.nil_append, List.cons_append, List.append_nil, Option.isNone_some, Option.isNone_none, List.getElem?_cons_zero, List.getElem?_cons_succ, t10, t17, t20, nilCheck_ptr, W.ld0, q1, q2, p1, p2, wru]
      exact meet ⟨k' - 1, by omega, rfl, rfl, by simp [TM.put, t2], by simp [TM.put, t9], by simp [TM.put, t10], by simp [TM.put, t11], by simp [TM.put, t13], by simp [TM.put, t14], by simp [TM.put, t15], by simp [TM.put, t16], by simp [TM.put, t17], by simp [TM.put, t18], u + 1, by simp [TM.put], by omega⟩
    · simp only [wk_skip, wk_region, wk_seq, wk_block, wk_cond, wk_exit, wk_ret, wk_draw, cnd_true, cnd_false, fin_nil, fin_seq, fin_seq_exit, fin_seq_ret, fin_seq_panic, fin_block, fin_block_exit, fin_block_ret, fin_block_panic, fin_loop, fin_loop_exit, fin_loop_ret, fin_loop_panic, ops_nil, ops_cons, ops_guard, res_val, res_new, main_nil, main_cons, main_guard, mres_val, mres_new, AOp.ev, AOpd.ev, evAll, evParts, evOpt, put_get, put_none, wantA, ARes.ofOpt, tmOf, List.getD_cons_zero, List.getD_cons_succ, Nat.reduceEqDiff, if_true, if_false, reduceIte, Nat.reduceAdd, Nat.reduceMul, binA, intOp, eqOp, nilOf, lenA_slice, callA, AV.cells, undefA, Option.map_some, Option.map_none, Bool.false_eq_true, reduceCtorEq, beq_false, beq_true, g_true, g_false, mg_true, mg_false, Bool.not_true, Bool.not_false, decide_true, decide_false, not_true_eq_false, not_false_eq_true, List.nil_append, List.cons_append, List.append_nil, Option.isNone_some, Option.isNone_none, List.getElem?_cons_zero, List.getElem?_cons_succ, t16, wri]
      exact meet ⟨k - 1, by omega, rfl, rfl, by simp [TM.put, t2], by simp [TM.put, t9], by simp [TM.put, t10], by simp [TM.put, t11], by simp [TM.put, t13], by simp [TM.put, t14], i + 1, by simp [TM.put], by omega, by simp [TM.put, t15]⟩
  · have hall : ys.take i = ys := List.take_of_length_le (by omega)
    rw [hall] at t15
    have w1 : IntKind.i64.wrap ((totOb ys : Int) + 1) = (totOb ys : Int) + 1 := wrap64 (by omega) (by omega)
    have w2 : IntKind.i64.wrap ((totOb ys : Int) + 1 + (refs.length : Int)) = (totOb ys : Int) + 1 + (refs.length : Int) := wrap64 (by omega) (by omega)
    rcases fin with ⟨rfl, hf⟩ | ⟨rfl, hf⟩
    · simp only [wk_skip, wk_region, wk_seq, wk_block, wk_cond, wk_exit, wk_ret, wk_draw, cnd_true, cnd_false, fin_nil, fin_seq, fin_seq_exit, fin_seq_ret, fin_seq_panic, fin_block, fin_block_exit, fin_block_ret, fin_block_panic, fin_loop, fin_loop_exit, fin_loop_ret, fin_loop_panic, ops_nil, ops_cons, ops_guard, res_val, res_new, main_nil, main_cons, main_guard, mres_val, mres_new, AOp.ev, AOpd.ev, evAll, evParts, evOpt, put_get, put_none, wantA, ARes.ofOpt, tmOf, List.getD_cons_zero, List.getD_cons_succ, Nat.reduceEqDiff, if_true, if_false, reduceIte, Nat.reduceAdd, Nat.reduceMul, binA, intOp, eqOp, nilOf, lenA_slice, callA, AV.cells, undefA, Option.map_some, Option.map_none, Bool.false_eq_true, reduceCtorEq, beq_false, beq_true, g_true, g_false, mg_true, mg_false, Bool.not_true, Bool.not_false, decide_true, decide_false, not_true_eq_false, not_false_eq_true, List.nil_append, List.cons_append, List.append_nil, Option.isNone_some, Option.isNone_none, List.getElem?_cons_zero, List.getElem?_cons_succ, t2, t10, t14, t15, lf, nilCheck_ptr, W.ld1, w1, w2, hf]
      exact fnEnd_ret1 (by simp [TM.put])
    · simp only [wk_skip, wk_region, wk_seq, wk_block, wk_cond, wk_exit, wk_ret, wk_draw, cnd_true, cnd_false, fin_nil, fin_seq, fin_seq_exit, fin_seq_ret, fin_seq_panic, fin_block, fin_block_exit, fin_block_ret, fin_block_panic, fin_loop, fin_loop_exit, fin_loop_ret, fin_loop_panic, ops_nil, ops_cons, ops_guard, res_val, res_new, main_nil, main_cons, main_guard, mres_val, mres_new, AOp.ev, AOpd.ev, evAll, evParts, evOpt, put_get, put_none, wantA, ARes.ofOpt, tmOf, List.getD_cons_zero, List.getD_cons_succ, Nat.reduceEqDiff, if_true, if_false, reduceIte, Nat.reduceAdd, Nat.reduceMul, binA, intOp, eqOp, nilOf, lenA_slice, callA, AV.cells, undefA, Option.map_some, Option.map_none, Bool.false_eq_true, reduceCtorEq, beq_false, beq_true, g_true, g_false, mg_true, mg_false, Bool.not_true, Bool.not_false, decide_true, decide_false, not_true_eq_false, not_false_eq_true, List.nil_append, List.cons_append, List.append_nil, Option.isNone_some, Option.isNone_none, List.getElem?_cons_zero, List.getElem?_cons_succ, t2, t10, t14, t15, lf, nilCheck_ptr, W.ld1, w1, w2, hf, Int.reduceEq]
      exact fnEnd_ret1 (by simp [TM.put])
end Go.Proofs.Ytnkdjfmidiffdaa
