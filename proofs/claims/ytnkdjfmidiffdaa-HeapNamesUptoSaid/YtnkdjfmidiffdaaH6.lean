/-
  Part of the proofs about the heap: an abstract memory, its compiled code, and the contracts of the functions over it.
  Conditions: each theorem names its own.
-/
import Derived.Test.YtnkdjfmidiffdaaH5
set_option linter.unusedSimpArgs false
set_option linter.unusedVariables false
namespace Go.Proofs.Ytnkdjfmidiffdaa
open Go Go.Proofs Go.Am
variable {N : Nat}

theorem store_one {h : AHeap} {b : Nat} {v u : AV} (e : h b = some (.cells [v] false)) (hu : u.oneCell = true) : storeA h 1 (.ptr (some (b, 0))) u = .val undefA (h.upd b (.cells [u] false)) := by
  simp only [storeA, e, oneCell_cells hu]
  rw [if_pos ⟨rfl, by simp, by simp [hu]⟩]; rfl
theorem load_one {h : AHeap} {b : Nat} {v : AV} {ro : Bool} (e : h b = some (.cells [v] ro)) : loadA h none (.ptr (some (b, 0))) = .val v h := by simp [loadA, e]

theorem names23_c {h : AHeap} {b M : Nat} {B used least : Int} {os : List HO} (H : HIn h b M B used least os) (g : HGood B used least (obsOf os)) :
    ARets Try.prog N 23 [.ptr (some (b, 0))] h fun r h' => ∃ v, r = .tuple [v, .bool true] ∧ More h h' ∧ Ints h' v (srt (namesOf (obsOf os))) := by
  refine acalls_of_wp c23_ok mixed (by show 1 ≤ 21; decide) (wk_start ?_)
  unfold c23
  have hsl : (srt (namesOf (obsOf os))).length ≤ 65536 := by
    have h1 := g.len; have h2 := g.tot
    rw [(srt_perm _).length_eq]
    simp [namesOf]; omega
  simp only [wk_skip, wk_region, wk_seq, wk_block, wk_cond, wk_exit, wk_ret, wk_draw, cnd_true, cnd_false, fin_nil, fin_seq, fin_seq_exit, fin_seq_ret, fin_seq_panic, fin_block, fin_block_exit, fin_block_ret, fin_block_panic, fin_loop, fin_loop_exit, fin_loop_ret, fin_loop_panic, ops_nil, ops_cons, ops_guard, res_val, res_new, main_nil, main_cons, main_guard, mres_val, mres_new, AOp.ev, AOpd.ev, evAll, evParts, evOpt, put_get, put_none, wantA, ARes.ofOpt, tmOf, List.getD_cons_zero, List.getD_cons_succ, Nat.reduceEqDiff, if_true, if_false, reduceIte, Nat.reduceAdd, Nat.reduceMul, binA, intOp, eqOp, nilOf, lenA_slice, callA, AV.cells, undefA, Option.map_some, Option.map_none, Bool.false_eq_true, reduceCtorEq, beq_false, beq_true, g_true, g_false, mg_true, mg_false, Bool.not_true, Bool.not_false, decide_true, decide_false, not_true_eq_false, not_false_eq_true, List.nil_append, List.cons_append, List.append_nil, Option.isNone_some, Option.isNone_none, List.getElem?_cons_zero, List.getElem?_cons_succ]
  intro b2 hb2 b3 hb3
  have n32 : b3 ≠ b2 := (upd_none hb3).1
  have m2 := More.upd hb2 (.cells [.slice none 0 0 0 true] false)
  have m3 := m2.trans (More.upd hb3 (.cells [.bool false] false))
  have e3 := AHeap.upd_same (h.upd b2 (.cells [.slice none 0 0 0 true] false)) b3 (.cells [.bool false] false)
  have e2 := (More.upd hb3 (.cells [.bool false] false)).at_ (AHeap.upd_same h b2 (.cells [.slice none 0 0 0 true] false))
  generalize (h.upd b2 (.cells [.slice none 0 0 0 true] false)).upd b3 (.cells [.bool false] false) = h1 at *
  refine res_ret (all38_c (H.more m3) g) ?_
  rintro fv h2 d2 ⟨m4, T⟩
  have e3' := m4.at_ e3
  have e2' := m4.at_ e2
  have hfv : ∃ gg first cap, fv = .func (.func gg) first cap := by obtain ⟨gg, f, c, e, _⟩ := T; exact ⟨gg, f, c, e⟩
  obtain ⟨gg, ff, cc, hfe⟩ := hfv
  have hne : binA .eql .func fv .nilFunc = some (.bool false) := by rw [hfe]; rfl
  simp only [binA] at hne
  have hnn : nilOf .func fv = some false := by rw [hfe]; rfl
  rw [hfe] at T
  simp only [wk_skip, wk_region, wk_seq, wk_block, wk_cond, wk_exit, wk_ret, wk_draw, cnd_true, cnd_false, fin_nil, fin_seq, fin_seq_exit, fin_seq_ret, fin_seq_panic, fin_block, fin_block_exit, fin_block_ret, fin_block_panic, fin_loop, fin_loop_exit, fin_loop_ret, fin_loop_panic, ops_nil, ops_cons, ops_guard, res_val, res_new, main_nil, main_cons, main_guard, mres_val, mres_new, AOp.ev, AOpd.ev, evAll, evParts, evOpt, put_get, put_none, wantA, ARes.ofOpt, tmOf, List.getD_cons_zero, List.getD_cons_succ, Nat.reduceEqDiff, if_true, if_false, reduceIte, Nat.reduceAdd, Nat.reduceMul, binA, intOp, eqOp, nilOf, lenA_slice, callA, AV.cells, undefA, Option.map_some, Option.map_none, Bool.false_eq_true, reduceCtorEq, beq_false, beq_true, g_true, g_false, mg_true, mg_false, Bool.not_true, Bool.not_false, decide_true, decide_false, not_true_eq_false, not_false_eq_true, List.nil_append, List.cons_append, List.append_nil, Option.isNone_some, Option.isNone_none, List.getElem?_cons_zero, List.getElem?_cons_succ, hfe]
  intro b5 hb5
  have m5 := More.upd hb5 (.cells [.slice none 0 0 0 true] false)
  have e25 := m5.at_ e2'
  have e35 := m5.at_ e3'
  have n52 : b5 ≠ b2 := fun e => by rw [e, e2'] at hb5; cases hb5
  have n53 : b5 ≠ b3 := fun e => by rw [e, e3'] at hb5; cases hb5
  refine wk_tells (fv := .func (.func gg) ff cc) (h0 := h2) rfl ?_ m5 T (fun D l K done S h' => K h' ∧ ∃ v, h' b5 = some (.cells [v] false) ∧ SliceAt h' 1 v (done.map (.int .i64)) ∧ l ≠ D ∧ l ≠ b5 ∧ D ≠ b5 ∧ h2 l = none ∧ h2 D = none ∧ done.length ≤ 65536 ∧
    (∀ c, blkOf v = some c → c ≠ l ∧ c ≠ D ∧ c ≠ b5 ∧ h2 c = none ∧ ∃ ds, h' c = some (.cells ds false)) ∧ ∀ c, S c ↔ c = l ∨ c = D ∨ c = b5 ∨ blkOf v = some c) ?_ ?_ ?_
  · simp only [wk_skip, wk_region, wk_seq, wk_block, wk_cond, wk_exit, wk_ret, wk_draw, cnd_true, cnd_false, fin_nil, fin_seq, fin_seq_exit, fin_seq_ret, fin_seq_panic, fin_block, fin_block_exit, fin_block_ret, fin_block_panic, fin_loop, fin_loop_exit, fin_loop_ret, fin_loop_panic, ops_nil, ops_cons, ops_guard, res_val, res_new, main_nil, main_cons, main_guard, mres_val, mres_new, AOp.ev, AOpd.ev, evAll, evParts, evOpt, put_get, put_none, wantA, ARes.ofOpt, tmOf, List.getD_cons_zero, List.getD_cons_succ, Nat.reduceEqDiff, if_true, if_false, reduceIte, Nat.reduceAdd, Nat.reduceMul, binA, intOp, eqOp, nilOf, lenA_slice, callA, AV.cells, undefA, Option.map_some, Option.map_none, Bool.false_eq_true, reduceCtorEq, beq_false, beq_true, g_true, g_false, mg_true, mg_false, Bool.not_true, Bool.not_false, decide_true, decide_false, not_true_eq_false, not_false_eq_true, List.nil_append, List.cons_append, List.append_nil, Option.isNone_some, Option.isNone_none, List.getElem?_cons_zero, List.getElem?_cons_succ]
  · intro T hT D l hD hl hne fn n ca cb lok K hK
    have T5 : T 5 = .ptr (some (b5, 0)) := by rw [hT]; simp [TM.put]
    clear hT
    subst hK
    obtain ⟨nD, hD'⟩ := upd_none hD
    obtain ⟨nl, hl'⟩ := upd_none hl
    refine ⟨⟨?_, ?_, ?_⟩, fun c => c = l ∨ c = D ∨ c = b5, ?_⟩
    · rintro done S h1 h2' ⟨⟨k1, k2⟩, v, a1, a2, a3, a4, a5, a6, a7, a8, a9, a10⟩ hk
      refine ⟨⟨by rw [hk l ((a10 l).2 (.inl rfl))]; exact k1, by rw [hk D ((a10 D).2 (.inr (.inl rfl)))]; exact k2⟩, v, by rw [hk b5 ((a10 b5).2 (.inr (.inr (.inl rfl))))]; exact a1, a2.keep fun c hc => hk c ((a10 c).2 (.inr (.inr (.inr hc)))), a3, a4, a5, a6, a7, a8, fun c hc => ?_, a10⟩
      rw [hk c ((a10 c).2 (.inr (.inr (.inr hc))))]; exact a9 c hc
    · rintro done S h1 ⟨⟨k1, k2⟩, v, a1, a2, a3, a4, a5, a6, a7, a8, a9, a10⟩ c hc
      rcases (a10 c).1 hc with rfl | rfl | rfl | hc
      · exact ⟨by rw [k1]; simp, a6⟩
      · exact ⟨by rw [k2]; simp, a7⟩
      · exact ⟨by rw [a1]; simp, hb5⟩
      · obtain ⟨_, _, _, e, ds, e2⟩ := a9 c hc
        exact ⟨by rw [e2]; simp, e⟩
    · rintro done nn S h1 hlt ⟨⟨k1, k2⟩, v, a1, a2, a3, a4, a5, a6, a7, a8, a9, a10⟩ m1
      refine yrets_of_wk mixed lok rfl k1 ?_
      have hb1 : (h1.upd l (.loop .busy none fn T n [12] ca cb)) b5 = some (.cells [v] false) := by rw [AHeap.upd_other _ _ fun e => a4 e.symm]; exact a1
      have hld := load_one hb1
      simp only [wk_skip, wk_region, wk_seq, wk_block, wk_cond, wk_exit, wk_ret, wk_draw, cnd_true, cnd_false, fin_nil, fin_seq, fin_seq_exit, fin_seq_ret, fin_seq_panic, fin_block, fin_block_exit, fin_block_ret, fin_block_panic, fin_loop, fin_loop_exit, fin_loop_ret, fin_loop_panic, ops_nil, ops_cons, ops_guard, res_val, res_new, main_nil, main_cons, main_guard, mres_val, mres_new, AOp.ev, AOpd.ev, evAll, evParts, evOpt, put_get, put_none, wantA, ARes.ofOpt, tmOf, List.getD_cons_zero, List.getD_cons_succ, Nat.reduceEqDiff, if_true, if_false, reduceIte, Nat.reduceAdd, Nat.reduceMul, binA, intOp, eqOp, nilOf, lenA_slice, callA, AV.cells, undefA, Option.map_some, Option.map_none, Bool.false_eq_true, reduceCtorEq, beq_false, beq_true, g_true, g_false, mg_true, mg_false, Bool.not_true, Bool.not_false, decide_true, decide_false, not_true_eq_false, not_false_eq_true, List.nil_append, List.cons_append, List.append_nil, Option.isNone_some, Option.isNone_none, List.getElem?_cons_zero, List.getElem?_cons_succ, putAll, T5, hld, fill_int, k1, true_and]
      intro bb hbb
      obtain ⟨n3, hbb'⟩ := upd_none hbb
      have G1 : Grown h2 (h1.upd l (.loop .busy none fn T n [12] ca cb)) 1 v (done.map (.int .i64)) :=
        ⟨fun c hc => (AHeap.upd_other _ _ (by intro e; rw [e] at hc; exact hc a6)).trans (m1 c hc), a2.keep fun c hc => AHeap.upd_other _ _ (a9 c hc).1, fun c hc => ⟨(a9 c hc).2.2.2.1, by rw [AHeap.upd_other _ _ (a9 c hc).1]; exact (a9 c hc).2.2.2.2⟩⟩
      refine res_append (bytes := 8) (G1.grow (More.upd hbb _)) (slice_one rfl) (by omega) (by simp; omega) (by omega) (by simp [AV.oneCell]) rfl ?_
      intro v' h4 G4 d4 k4 o4
      have hl4 : h4 l = some (.loop .busy none fn T n [12] ca cb) := by
        rw [k4 l (by rw [AHeap.upd_other _ _ fun e => n3 e.symm, AHeap.upd_same]; simp) fun e => (a9 l e).1 rfl, AHeap.upd_other _ _ fun e => n3 e.symm, AHeap.upd_same]
      have old : ∀ c, h1 c ≠ none → c ≠ l → blkOf v ≠ some c → h4 c = h1 c := fun c hc hcl hcv => by
        have hcb : c ≠ bb := by intro e; rw [e] at hc; exact hc hbb'
        have e1 : ((h1.upd l (.loop .busy none fn T n [12] ca cb)).upd bb (.cells [.int .i64 nn] false)) c = h1 c := by rw [AHeap.upd_other _ _ hcb, AHeap.upd_other _ _ hcl]
        rw [k4 c (by rw [e1]; exact hc) hcv, e1]
      have hb4 : h4 b5 = some (.cells [v] false) := by rw [old b5 (by rw [a1]; simp) (fun e => a4 e.symm) fun e => (a9 b5 e).2.2.1 rfl]; exact a1
      have hst := store_one hb4 (SliceAt_cell G4.at_)
      have ld2 := load_one (AHeap.upd_same h4 b5 (.cells [v'] false))
      have len2 : ∀ q : AHeap, lenA q .slice v' = some (.int .i64 ((done.length + 1 : Nat) : Int)) := fun q => by
        have := G4.at_.len (done.length + 1) (by simp) (by omega)
        obtain ⟨p, sz', len, cap, ex, hrv, _⟩ := G4.at_.out
        rw [hrv] at this ⊢; exact this
      have hbig : ¬ (65536 : Int) < ((done.length + 1 : Nat) : Int) := by omega
      simp only [wk_skip, wk_region, wk_seq, wk_block, wk_cond, wk_exit, wk_ret, wk_draw, cnd_true, cnd_false, fin_nil, fin_seq, fin_seq_exit, fin_seq_ret, fin_seq_panic, fin_block, fin_block_exit, fin_block_ret, fin_block_panic, fin_loop, fin_loop_exit, fin_loop_ret, fin_loop_panic, ops_nil, ops_cons, ops_guard, res_val, res_new, main_nil, main_cons, main_guard, mres_val, mres_new, AOp.ev, AOpd.ev, evAll, evParts, evOpt, put_get, put_none, wantA, ARes.ofOpt, tmOf, List.getD_cons_zero, List.getD_cons_succ, Nat.reduceEqDiff, if_true, if_false, reduceIte, Nat.reduceAdd, Nat.reduceMul, binA, intOp, eqOp, nilOf, lenA_slice, callA, AV.cells, undefA, Option.map_some, Option.map_none, Bool.false_eq_true, reduceCtorEq, beq_false, beq_true, g_true, g_false, mg_true, mg_false, Bool.not_true, Bool.not_false, decide_true, decide_false, not_true_eq_false, not_false_eq_true, List.nil_append, List.cons_append, List.append_nil, Option.isNone_some, Option.isNone_none, List.getElem?_cons_zero, List.getElem?_cons_succ, T5, hst, ld2, len2, hbig]
      have v'1 : ∀ c, blkOf v' = some c → c ≠ l ∧ c ≠ D ∧ c ≠ b5 ∧ h2 c = none := fun c hc => by
        refine ⟨fun e => ?_, fun e => ?_, fun e => ?_, (G4.own c hc).1⟩
        · subst e; rcases o4 c hc with e | e
          · exact (a9 c e).1 rfl
          · rw [AHeap.upd_other _ _ fun e => n3 e.symm, AHeap.upd_same] at e; cases e
        · subst e; rcases o4 c hc with e | e
          · exact (a9 c e).2.1 rfl
          · rw [(upd_none (upd_none e).2).2] at k2; cases k2
        · subst e; rcases o4 c hc with e | e
          · exact (a9 c e).2.2.1 rfl
          · rw [(upd_none (upd_none e).2).2] at a1; cases a1
      have fin : ∀ c, c ≠ l → c ≠ b5 → ((h4.upd b5 (.cells [v'] false)).upd l (.loop .ready none fn T n [12] ca cb)) c = h4 c := fun c h1 h2 => by rw [AHeap.upd_other _ _ h1, AHeap.upd_other _ _ h2]
      refine ⟨by rw [AHeap.upd_other _ _ a4]; exact hl4, rfl, fun c => c = l ∨ c = D ∨ c = b5 ∨ blkOf v' = some c, ⟨⟨AHeap.upd_same _ _ _, ?_⟩, v', ?_, ?_, a3, a4, a5, a6, a7, by simp; omega, fun c hc => ⟨(v'1 c hc).1, (v'1 c hc).2.1, (v'1 c hc).2.2.1, (v'1 c hc).2.2.2, ?_⟩, fun c => Iff.rfl⟩, fun c hc hS => ?_, fun c hc => ?_⟩
      · rw [fin D (fun e => a3 e.symm) a5, old D (by rw [k2]; simp) (fun e => a3 e.symm) fun e => (a9 D e).2.1 rfl]; exact k2
      · rw [AHeap.upd_other _ _ fun e => a4 e.symm]; exact AHeap.upd_same _ _ _
      · rw [List.map_append]
        exact G4.at_.keep fun c hc => fin c (v'1 c hc).1 (v'1 c hc).2.2.1
      · rw [fin c (v'1 c hc).1 (v'1 c hc).2.2.1]; exact (G4.own c hc).2
      · have h1' : c ≠ l := fun e => hS ((a10 c).2 (.inl e))
        have h2' : c ≠ b5 := fun e => hS ((a10 c).2 (.inr (.inr (.inl e))))
        rw [fin c h1' h2', old c hc h1' fun e => hS ((a10 c).2 (.inr (.inr (.inr e))))]
      · rcases hc with e | e | e | e
        · exact .inl ((a10 c).2 (.inl e))
        · exact .inl ((a10 c).2 (.inr (.inl e)))
        · exact .inl ((a10 c).2 (.inr (.inr (.inl e))))
        · rcases o4 c e with e | e
          · exact .inl ((a10 c).2 (.inr (.inr (.inr e))))
          · exact .inr (upd_none (upd_none e).2).2
    · refine ⟨⟨AHeap.upd_same _ _ _, by rw [AHeap.upd_other _ _ fun e => hne e.symm]; exact AHeap.upd_same _ _ _⟩, .slice none 0 0 0 true, by rw [AHeap.upd_other _ _ fun e => nl e.symm, AHeap.upd_other _ _ fun e => nD e.symm]; exact AHeap.upd_same _ _ _, SliceAt.nil _ _ _ _, hne, nl, nD, hl', hD', Nat.zero_le _, fun c hc => (by cases hc), fun c => ?_⟩
      simp [blkOf]
  · rintro D l K done S h' ⟨hk, _⟩; exact hk
  · rintro D l K done S h' hDl hg ⟨hk, v, a1, a2, a3, a4, a5, a6, a7, a8, a9, a10⟩ m hD x
    subst hg
    have keepx : ∀ c, c ≠ l → (h'.upd l x) c = h' c := fun c h1 => AHeap.upd_other _ _ h1
    have l2 : l ≠ b2 := fun e => by rw [e, e2'] at a6; cases a6
    have l3 : l ≠ b3 := fun e => by rw [e, e3'] at a6; cases a6
    have x5 : (h'.upd l x) b5 = some (.cells [v] false) := (keepx b5 fun e => a4 e.symm).trans a1
    have x2 : (h'.upd l x) b2 = some (.cells [.slice none 0 0 0 true] false) := (keepx b2 fun e => l2 e.symm).trans (m.at_ e2')
    have x3 : (h'.upd l x) b3 = some (.cells [.bool false] false) := (keepx b3 fun e => l3 e.symm).trans (m.at_ e3')
    have s1 := store_one x2 (SliceAt_cell a2)
    have x3' : ((h'.upd l x).upd b2 (.cells [v] false)) b3 = some (.cells [.bool false] false) := by rw [AHeap.upd_other _ _ n32]; exact x3
    have s2 := store_one x3' (u := .bool true) rfl
    simp only [wk_skip, wk_region, wk_seq, wk_block, wk_cond, wk_exit, wk_ret, wk_draw, cnd_true, cnd_false, fin_nil, fin_seq, fin_seq_exit, fin_seq_ret, fin_seq_panic, fin_block, fin_block_exit, fin_block_ret, fin_block_panic, fin_loop, fin_loop_exit, fin_loop_ret, fin_loop_panic, ops_nil, ops_cons, ops_guard, res_val, res_new, main_nil, main_cons, main_guard, mres_val, mres_new, AOp.ev, AOpd.ev, evAll, evParts, evOpt, put_get, put_none, wantA, ARes.ofOpt, tmOf, List.getD_cons_zero, List.getD_cons_succ, Nat.reduceEqDiff, if_true, if_false, reduceIte, Nat.reduceAdd, Nat.reduceMul, binA, intOp, eqOp, nilOf, lenA_slice, callA, AV.cells, undefA, Option.map_some, Option.map_none, Bool.false_eq_true, reduceCtorEq, beq_false, beq_true, g_true, g_false, mg_true, mg_false, Bool.not_true, Bool.not_false, decide_true, decide_false, not_true_eq_false, not_false_eq_true, List.nil_append, List.cons_append, List.append_nil, Option.isNone_some, Option.isNone_none, List.getElem?_cons_zero, List.getElem?_cons_succ, load_one x5, s1, s2]
    have D2 : D ≠ b2 := fun e => by rw [e, e2'] at a7; cases a7
    have D3 : D ≠ b3 := fun e => by rw [e, e3'] at a7; cases a7
    refine ⟨by rw [AHeap.upd_other _ _ D3, AHeap.upd_other _ _ D2, AHeap.upd_other _ _ hDl]; exact hD, ?_⟩
    have f2 : (((((h'.upd l x).upd b2 (.cells [v] false)).upd b3 (.cells [.bool true] false)).upd D (.raw (.deferred none)))) b2 = some (.cells [v] false) := by
      rw [AHeap.upd_other _ _ fun e => D2 e.symm, AHeap.upd_other _ _ fun e => n32 e.symm, AHeap.upd_same]
    have f3 : (((((h'.upd l x).upd b2 (.cells [v] false)).upd b3 (.cells [.bool true] false)).upd D (.raw (.deferred none)))) b3 = some (.cells [.bool true] false) := by
      rw [AHeap.upd_other _ _ fun e => D3 e.symm, AHeap.upd_same]
    refine ⟨[v, .bool true], ?_, v, rfl, fun c hc => ?_, ?_⟩
    · simp only [resAll, resA, wk_skip, wk_region, wk_seq, wk_block, wk_cond, wk_exit, wk_ret, wk_draw, cnd_true, cnd_false, fin_nil, fin_seq, fin_seq_exit, fin_seq_ret, fin_seq_panic, fin_block, fin_block_exit, fin_block_ret, fin_block_panic, fin_loop, fin_loop_exit, fin_loop_ret, fin_loop_panic, ops_nil, ops_cons, ops_guard, res_val, res_new, main_nil, main_cons, main_guard, mres_val, mres_new, AOp.ev, AOpd.ev, evAll, evParts, evOpt, put_get, put_none, wantA, ARes.ofOpt, tmOf, List.getD_cons_zero, List.getD_cons_succ, Nat.reduceEqDiff, if_true, if_false, reduceIte, Nat.reduceAdd, Nat.reduceMul, binA, intOp, eqOp, nilOf, lenA_slice, callA, AV.cells, undefA, Option.map_some, Option.map_none, Bool.false_eq_true, reduceCtorEq, beq_false, beq_true, g_true, g_false, mg_true, mg_false, Bool.not_true, Bool.not_false, decide_true, decide_false, not_true_eq_false, not_false_eq_true, List.nil_append, List.cons_append, List.append_nil, Option.isNone_some, Option.isNone_none, List.getElem?_cons_zero, List.getElem?_cons_succ, load_one f2, load_one f3]
    · have hc1 : h1 c ≠ none := by rw [m3 c hc]; exact hc
      have hc2 : h2 c ≠ none := by rw [m4 c hc1]; exact hc1
      have q1 : c ≠ D := by intro e; rw [e] at hc2; exact hc2 a7
      have q2 : c ≠ b3 := by intro e; rw [e] at hc; exact hc (upd_none hb3).2
      have q3 : c ≠ b2 := by intro e; rw [e] at hc; exact hc hb2
      have q4 : c ≠ l := by intro e; rw [e] at hc2; exact hc2 a6
      rw [AHeap.upd_other _ _ q1, AHeap.upd_other _ _ q2, AHeap.upd_other _ _ q3, AHeap.upd_other _ _ q4, m c hc2, m4 c hc1, m3 c hc]
    · refine a2.keep fun c hc => ?_
      obtain ⟨q1, q2, q3, q4, _⟩ := a9 c hc
      have q5 : c ≠ b2 := fun e => by rw [e, e2'] at q4; cases q4
      have q6 : c ≠ b3 := fun e => by rw [e, e3'] at q4; cases q4
      rw [AHeap.upd_other _ _ q2, AHeap.upd_other _ _ q6, AHeap.upd_other _ _ q5, AHeap.upd_other _ _ q1]
end Go.Proofs.Ytnkdjfmidiffdaa
namespace Go.Proofs.Ytnkdjfmidiffdaa
open Go Go.Proofs Go.Am
variable {N : Nat}

theorem ld_three {h : AHeap} {b : Nat} {a0 a1 a2 : AV} {ro : Bool} (e : h b = some (.cells [a0, a1, a2] ro)) :
    loadA h none (.ptr (some (b, 0 + 0))) = .val a0 h ∧ loadA h none (.ptr (some (b, 0 + 1))) = .val a1 h ∧ loadA h none (.ptr (some (b, 0 + 2))) = .val a2 h := by
  simp [loadA, e]
theorem store_three {h : AHeap} {b : Nat} {z0 z1 z2 a0 a1 a2 : AV} (e : h b = some (.cells [z0, z1, z2] false)) (h0 : a0.oneCell = true) (h1 : a1.oneCell = true) (h2 : a2.oneCell = true) :
    storeA h 3 (.ptr (some (b, 0))) (.agg [a0, a1, a2]) = .val undefA (h.upd b (.cells [a0, a1, a2] false)) := by
  simp [storeA, e, AV.cells, h0, h1, h2, setL]

theorem rows_names {lo : List Ob} {xs : List Row} (p : lo.Perm (obR xs)) (hs : (xs.map fun x => x.1.name).Pairwise (· < ·)) (hn : (lo.map (·.name)).Nodup) : srt (namesOf lo) = xs.map fun x => (x.1.name : Int) := by
  refine rising_eq (srt_strict (names_nodup hn)) ?_ fun n => ?_
  · have : (xs.map fun x => (x.1.name : Int)) = (xs.map fun x => x.1.name).map fun n : Nat => (n : Int) := by simp
    rw [this, List.pairwise_map]
    exact hs.imp fun h => by omega
  · rw [srt_mem]
    have h1 : (namesOf lo).Perm (namesOf (obR xs)) := p.map _
    rw [h1.mem_iff]
    simp [namesOf]

theorem alike28_c {h0 h : AHeap} {hb wb : Nat} {B : Int} {lo : List Ob} {xs : List Row} {ρ1 ρ2 : Nat → Nat} (b : Both h0 h hb wb B lo xs ρ1 ρ2) : ARets Try.prog N 28 [.ptr (some (hb, 0)), .ptr (some (wb, 0))] h fun r h' => r = .bool true ∧ More h h' := by
  refine acalls_of_wp c28_ok mixed (by show 2 ≤ 115; decide) (wk_start ?_)
  unfold c28
  obtain ⟨M, used, least, os, hos, H, g, O⟩ := id b.heap
  obtain ⟨L, W, Ow⟩ := id b.ref
  subst hos
  have few := W.few
  have hnm := rows_names b.same Ow.sorted g.names
  simp only [wk_skip, wk_region, wk_seq, wk_block, wk_cond, wk_exit, wk_ret, wk_draw, cnd_true, cnd_false, fin_nil, fin_seq, fin_seq_exit, fin_seq_ret, fin_seq_panic, fin_block, fin_block_exit, fin_block_ret, fin_block_panic, fin_loop, fin_loop_exit, fin_loop_ret, fin_loop_panic, ops_nil, ops_cons, ops_guard, res_val, res_new, main_nil, main_cons, main_guard, mres_val, mres_new, AOp.ev, AOpd.ev, evAll, evParts, evOpt, put_get, put_none, wantA, ARes.ofOpt, tmOf, List.getD_cons_zero, List.getD_cons_succ, Nat.reduceEqDiff, if_true, if_false, reduceIte, Nat.reduceAdd, Nat.reduceMul, binA, intOp, eqOp, nilOf, lenA_slice, callA, AV.cells, undefA, Option.map_some, Option.map_none, Bool.false_eq_true, reduceCtorEq, beq_false, beq_true, g_true, g_false, mg_true, mg_false, Bool.not_true, Bool.not_false, decide_true, decide_false, not_true_eq_false, not_false_eq_true, List.nil_append, List.cons_append, List.append_nil, Option.isNone_some, Option.isNone_none, List.getElem?_cons_zero, List.getElem?_cons_succ]
  refine res_ret (names23_c H g) ?_
  rintro r h1 d1 ⟨v, rfl, m1, S1⟩
  rw [hnm] at S1
  have H1 := H.more m1
  have W1 := W.more m1
  have hlen := S1.len xs.length (by simp) (by omega)
  simp only [wk_skip, wk_region, wk_seq, wk_block, wk_cond, wk_exit, wk_ret, wk_draw, cnd_true, cnd_false, fin_nil, fin_seq, fin_seq_exit, fin_seq_ret, fin_seq_panic, fin_block, fin_block_exit, fin_block_ret, fin_block_panic, fin_loop, fin_loop_exit, fin_loop_ret, fin_loop_panic, ops_nil, ops_cons, ops_guard, res_val, res_new, main_nil, main_cons, main_guard, mres_val, mres_new, AOp.ev, AOpd.ev, evAll, evParts, evOpt, put_get, put_none, wantA, ARes.ofOpt, tmOf, List.getD_cons_zero, List.getD_cons_succ, Nat.reduceEqDiff, if_true, if_false, reduceIte, Nat.reduceAdd, Nat.reduceMul, binA, intOp, eqOp, nilOf, lenA_slice, callA, AV.cells, undefA, Option.map_some, Option.map_none, Bool.false_eq_true, reduceCtorEq, beq_false, beq_true, g_true, g_false, mg_true, mg_false, Bool.not_true, Bool.not_false, decide_true, decide_false, not_true_eq_false, not_false_eq_true, List.nil_append, List.cons_append, List.append_nil, Option.isNone_some, Option.isNone_none, List.getElem?_cons_zero, List.getElem?_cons_succ]
  refine res_ret (used21_c H1) ?_
  rintro r h2 d2 ⟨rfl, rfl⟩
  simp only [wk_skip, wk_region, wk_seq, wk_block, wk_cond, wk_exit, wk_ret, wk_draw, cnd_true, cnd_false, fin_nil, fin_seq, fin_seq_exit, fin_seq_ret, fin_seq_panic, fin_block, fin_block_exit, fin_block_ret, fin_block_panic, fin_loop, fin_loop_exit, fin_loop_ret, fin_loop_panic, ops_nil, ops_cons, ops_guard, res_val, res_new, main_nil, main_cons, main_guard, mres_val, mres_new, AOp.ev, AOpd.ev, evAll, evParts, evOpt, put_get, put_none, wantA, ARes.ofOpt, tmOf, List.getD_cons_zero, List.getD_cons_succ, Nat.reduceEqDiff, if_true, if_false, reduceIte, Nat.reduceAdd, Nat.reduceMul, binA, intOp, eqOp, nilOf, lenA_slice, callA, AV.cells, undefA, Option.map_some, Option.map_none, Bool.false_eq_true, reduceCtorEq, beq_false, beq_true, g_true, g_false, mg_true, mg_false, Bool.not_true, Bool.not_false, decide_true, decide_false, not_true_eq_false, not_false_eq_true, List.nil_append, List.cons_append, List.append_nil, Option.isNone_some, Option.isNone_none, List.getElem?_cons_zero, List.getElem?_cons_succ]
  refine res_call (used_c W1) ?_ ?_
  · rintro u h2 ⟨rfl, he⟩
    cases he
    have htt : used = total xs := by rw [g.used_, tot_perm b.same]
    have hnu : ¬ (¬ used = (total xs : Int)) := fun h => h htt
    simp only [wk_skip, wk_region, wk_seq, wk_block, wk_cond, wk_exit, wk_ret, wk_draw, cnd_true, cnd_false, fin_nil, fin_seq, fin_seq_exit, fin_seq_ret, fin_seq_panic, fin_block, fin_block_exit, fin_block_ret, fin_block_panic, fin_loop, fin_loop_exit, fin_loop_ret, fin_loop_panic, ops_nil, ops_cons, ops_guard, res_val, res_new, main_nil, main_cons, main_guard, mres_val, mres_new, AOp.ev, AOpd.ev, evAll, evParts, evOpt, put_get, put_none, wantA, ARes.ofOpt, tmOf, List.getD_cons_zero, List.getD_cons_succ, Nat.reduceEqDiff, if_true, if_false, reduceIte, Nat.reduceAdd, Nat.reduceMul, binA, intOp, eqOp, nilOf, lenA_slice, callA, AV.cells, undefA, Option.map_some, Option.map_none, Bool.false_eq_true, reduceCtorEq, beq_false, beq_true, g_true, g_false, mg_true, mg_false, Bool.not_true, Bool.not_false, decide_true, decide_false, not_true_eq_false, not_false_eq_true, List.nil_append, List.cons_append, List.append_nil, Option.isNone_some, Option.isNone_none, List.getElem?_cons_zero, List.getElem?_cons_succ, htt, hlen, nilCheck_ptr, W1.ld0, W1.len]
    refine wk_loop (fun k tm ds h3 => ds = [] ∧ tm 0 = .ptr (some (hb, 0)) ∧ tm 1 = .ptr (some (wb, 0)) ∧ tm 5 = v ∧ More h2 h3 ∧ ∃ i : Nat, tm 7 = .int .i64 i ∧ i + k = xs.length) xs.length ⟨rfl, rfl, rfl, rfl, .refl _, 0, rfl, by simp⟩ ?_
    rintro k tm ds h3 ⟨rfl, t0, t1, t5, m3, i, t7, hk⟩
    have m03 := m1.trans m3
    have H3 := H.more m03
    have W3 := W.more m03
    have S3 : Ints h3 v _ := slice_more S1 m3
    have hlen3 := S3.len xs.length (by simp) (by omega)
    simp only [wk_skip, wk_region, wk_seq, wk_block, wk_cond, wk_exit, wk_ret, wk_draw, cnd_true, cnd_false, fin_nil, fin_seq, fin_seq_exit, fin_seq_ret, fin_seq_panic, fin_block, fin_block_exit, fin_block_ret, fin_block_panic, fin_loop, fin_loop_exit, fin_loop_ret, fin_loop_panic, ops_nil, ops_cons, ops_guard, res_val, res_new, main_nil, main_cons, main_guard, mres_val, mres_new, AOp.ev, AOpd.ev, evAll, evParts, evOpt, put_get, put_none, wantA, ARes.ofOpt, tmOf, List.getD_cons_zero, List.getD_cons_succ, Nat.reduceEqDiff, if_true, if_false, reduceIte, Nat.reduceAdd, Nat.reduceMul, binA, intOp, eqOp, nilOf, lenA_slice, callA, AV.cells, undefA, Option.map_some, Option.map_none, Bool.false_eq_true, reduceCtorEq, beq_false, beq_true, g_true, g_false, mg_true, mg_false, Bool.not_true, Bool.not_false, decide_true, decide_false, not_true_eq_false, not_false_eq_true, List.nil_append, List.cons_append, List.append_nil, Option.isNone_some, Option.isNone_none, List.getElem?_cons_zero, List.getElem?_cons_succ, t0, t1, t5, t7, hlen3]
    refine cond_dec (fun hi => ?_) (fun hi => ?_)
    · have hi' : i < xs.length := by omega
      have hxi := List.getElem_mem hi'
      have wri : IntKind.i64.wrap ((i : Int) + 1) = ((i + 1 : Nat) : Int) := by rw [wrap64 (by omega) (by omega)]; rfl
      obtain ⟨c, o, g1, _, _, _, g5⟩ := W3.row i hi'
      obtain ⟨c1, o1, q1, _, q2⟩ := S3.get i (by simpa using hi') .i64
      simp only [List.getElem_map] at q2
      simp only [wk_skip, wk_region, wk_seq, wk_block, wk_cond, wk_exit, wk_ret, wk_draw, cnd_true, cnd_false, fin_nil, fin_seq, fin_seq_exit, fin_seq_ret, fin_seq_panic, fin_block, fin_block_exit, fin_block_ret, fin_block_panic, fin_loop, fin_loop_exit, fin_loop_ret, fin_loop_panic, ops_nil, ops_cons, ops_guard, res_val, res_new, main_nil, main_cons, main_guard, mres_val, mres_new, AOp.ev, AOpd.ev, evAll, evParts, evOpt, put_get, put_none, wantA, ARes.ofOpt, tmOf, List.getD_cons_zero, List.getD_cons_succ, Nat.reduceEqDiff, if_true, if_false, reduceIte, Nat.reduceAdd, Nat.reduceMul, binA, intOp, eqOp, nilOf, lenA_slice, callA, AV.cells, undefA, Option.map_some, Option.map_none, Bool.false_eq_true, reduceCtorEq, beq_false, beq_true, g_true, g_false, mg_true, mg_false, Bool.not_true, Bool.not_false, decide_true, decide_false, not_true_eq_false, not_false_eq_true, List.nil_append, List.cons_append, List.append_nil, Option.isNone_some, Option.isNone_none, List.getElem?_cons_zero, List.getElem?_cons_succ, t1, t7, nilCheck_ptr, W3.ld0, g1, g5]
      intro b8 hb8
      have m8 := More.upd hb8 (.cells [.int .i64 0, .slice none 0 0 0 true, .slice none 0 0 0 true] false)
      have st := store_three (h := h3.upd b8 (.cells [.int .i64 0, .slice none 0 0 0 true, .slice none 0 0 0 true] false)) (AHeap.upd_same _ _ _) (a0 := .int .i64 xs[i].1.name) (a1 := xs[i].2.1) (a2 := xs[i].2.2) rfl (SliceAt_cell (W3.cells _ hxi)) (SliceAt_cell (W3.refs _ hxi))
      rw [AHeap.upd_upd] at st
      simp only [wk_skip, wk_region, wk_seq, wk_block, wk_cond, wk_exit, wk_ret, wk_draw, cnd_true, cnd_false, fin_nil, fin_seq, fin_seq_exit, fin_seq_ret, fin_seq_panic, fin_block, fin_block_exit, fin_block_ret, fin_block_panic, fin_loop, fin_loop_exit, fin_loop_ret, fin_loop_panic, ops_nil, ops_cons, ops_guard, res_val, res_new, main_nil, main_cons, main_guard, mres_val, mres_new, AOp.ev, AOpd.ev, evAll, evParts, evOpt, put_get, put_none, wantA, ARes.ofOpt, tmOf, List.getD_cons_zero, List.getD_cons_succ, Nat.reduceEqDiff, if_true, if_false, reduceIte, Nat.reduceAdd, Nat.reduceMul, binA, intOp, eqOp, nilOf, lenA_slice, callA, AV.cells, undefA, Option.map_some, Option.map_none, Bool.false_eq_true, reduceCtorEq, beq_false, beq_true, g_true, g_false, mg_true, mg_false, Bool.not_true, Bool.not_false, decide_true, decide_false, not_true_eq_false, not_false_eq_true, List.nil_append, List.cons_append, List.append_nil, Option.isNone_some, Option.isNone_none, List.getElem?_cons_zero, List.getElem?_cons_succ, st, t0, t5, t7]
      have m4 : More h3 (h3.upd b8 (.cells [.int .i64 xs[i].1.name, xs[i].2.1, xs[i].2.2] false)) := More.upd hb8 _
      have e8 := AHeap.upd_same h3 b8 (.cells [.int .i64 xs[i].1.name, xs[i].2.1, xs[i].2.2] false)
      generalize h3.upd b8 (.cells [.int .i64 xs[i].1.name, xs[i].2.1, xs[i].2.2] false) = h4 at *
      have m04 := m03.trans m4
      have H4 := H.more m04
      have W4 := W.more m04
      have q2' := loadA_more m4 q2
      obtain ⟨l0, l1, l2⟩ := ld_three e8
      simp only [wk_skip, wk_region, wk_seq, wk_block, wk_cond, wk_exit, wk_ret, wk_draw, cnd_true, cnd_false, fin_nil, fin_seq, fin_seq_exit, fin_seq_ret, fin_seq_panic, fin_block, fin_block_exit, fin_block_ret, fin_block_panic, fin_loop, fin_loop_exit, fin_loop_ret, fin_loop_panic, ops_nil, ops_cons, ops_guard, res_val, res_new, main_nil, main_cons, main_guard, mres_val, mres_new, AOp.ev, AOpd.ev, evAll, evParts, evOpt, put_get, put_none, wantA, ARes.ofOpt, tmOf, List.getD_cons_zero, List.getD_cons_succ, Nat.reduceEqDiff, if_true, if_false, reduceIte, Nat.reduceAdd, Nat.reduceMul, binA, intOp, eqOp, nilOf, lenA_slice, callA, AV.cells, undefA, Option.map_some, Option.map_none, Bool.false_eq_true, reduceCtorEq, beq_false, beq_true, g_true, g_false, mg_true, mg_false, Bool.not_true, Bool.not_false, decide_true, decide_false, not_true_eq_false, not_false_eq_true, List.nil_append, List.cons_append, List.append_nil, Option.isNone_some, Option.isNone_none, List.getElem?_cons_zero, List.getElem?_cons_succ, q1, q2']
      refine res_ret (len15_c H4 g _) ?_
      rintro r h5 d5 ⟨rfl, n, e, rfl, hl⟩
      have hin : xs[i].1 ∈ obsOf os := b.same.mem_iff.2 (obR_mem.2 ⟨_, hxi, rfl⟩)
      have hl' : n = xs[i].1.cells.length ∧ e = 0 := by
        rcases hl with ⟨hno, _⟩ | ⟨x, hx, hxn, rfl, rfl⟩
        · obtain ⟨y, hy, e⟩ := of_obs hin
          exact absurd (by rw [e]) (hno y hy)
        · have : x.ob = xs[i].1 := g.inj (mem_obs hx) hin (by omega)
          rw [this]; exact ⟨rfl, rfl⟩
      obtain ⟨rfl, rfl⟩ := hl'
      have hcl := W.small _ hxi
      have hsm := W.same _ hxi
      have cl := (W4.cells _ hxi).len xs[i].1.cells.length (by simp) (by omega)
      simp only [wk_skip, wk_region, wk_seq, wk_block, wk_cond, wk_exit, wk_ret, wk_draw, cnd_true, cnd_false, fin_nil, fin_seq, fin_seq_exit, fin_seq_ret, fin_seq_panic, fin_block, fin_block_exit, fin_block_ret, fin_block_panic, fin_loop, fin_loop_exit, fin_loop_ret, fin_loop_panic, ops_nil, ops_cons, ops_guard, res_val, res_new, main_nil, main_cons, main_guard, mres_val, mres_new, AOp.ev, AOpd.ev, evAll, evParts, evOpt, put_get, put_none, wantA, ARes.ofOpt, tmOf, List.getD_cons_zero, List.getD_cons_succ, Nat.reduceEqDiff, if_true, if_false, reduceIte, Nat.reduceAdd, Nat.reduceMul, binA, intOp, eqOp, nilOf, lenA_slice, callA, AV.cells, undefA, Option.map_some, Option.map_none, Bool.false_eq_true, reduceCtorEq, beq_false, beq_true, g_true, g_false, mg_true, mg_false, Bool.not_true, Bool.not_false, decide_true, decide_false, not_true_eq_false, not_false_eq_true, List.nil_append, List.cons_append, List.append_nil, Option.isNone_some, Option.isNone_none, List.getElem?_cons_zero, List.getElem?_cons_succ, t0, t5, t7, q1, q2', l0, l1, l2, cl]
      refine wk_loop (fun k2 tm ds h6 => ds = [] ∧ h6 = h5 ∧ tm 0 = .ptr (some (hb, 0)) ∧ tm 1 = .ptr (some (wb, 0)) ∧ tm 5 = v ∧ tm 7 = .int .i64 i ∧ tm 8 = .ptr (some (b8, 0)) ∧ tm 9 = .int .i64 xs[i].1.cells.length ∧ ∃ j : Nat, tm 11 = .int .i64 j ∧ j + k2 = xs[i].1.cells.length) xs[i].1.cells.length
        ⟨rfl, rfl, by simp [TM.put, t0], by simp [TM.put, t1], by simp [TM.put, t5], by simp [TM.put, t7], by simp [TM.put], by simp [TM.put], 0, by simp [TM.put], by simp⟩ ?_
      clear t0 t1 t5 t7 tm
      rintro k2 tm ds h6 ⟨rfl, rfl, t0, t1, t5, t7, t8, t9, j, t11, hk2⟩
      simp only [wk_skip, wk_region, wk_seq, wk_block, wk_cond, wk_exit, wk_ret, wk_draw, cnd_true, cnd_false, fin_nil, fin_seq, fin_seq_exit, fin_seq_ret, fin_seq_panic, fin_block, fin_block_exit, fin_block_ret, fin_block_panic, fin_loop, fin_loop_exit, fin_loop_ret, fin_loop_panic, ops_nil, ops_cons, ops_guard, res_val, res_new, main_nil, main_cons, main_guard, mres_val, mres_new, AOp.ev, AOpd.ev, evAll, evParts, evOpt, put_get, put_none, wantA, ARes.ofOpt, tmOf, List.getD_cons_zero, List.getD_cons_succ, Nat.reduceEqDiff, if_true, if_false, reduceIte, Nat.reduceAdd, Nat.reduceMul, binA, intOp, eqOp, nilOf, lenA_slice, callA, AV.cells, undefA, Option.map_some, Option.map_none, Bool.false_eq_true, reduceCtorEq, beq_false, beq_true, g_true, g_false, mg_true, mg_false, Bool.not_true, Bool.not_false, decide_true, decide_false, not_true_eq_false, not_false_eq_true, List.nil_append, List.cons_append, List.append_nil, Option.isNone_some, Option.isNone_none, List.getElem?_cons_zero, List.getElem?_cons_succ, t9, t11]
      refine cond_dec (fun hj => ?_) (fun hj => ?_)
      · have hj' : j < xs[i].1.cells.length := by omega
        have hjr : j < xs[i].1.refs.length := by omega
        have wrj : IntKind.i64.wrap ((j : Int) + 1) = ((j + 1 : Nat) : Int) := by rw [wrap64 (by omega) (by omega)]; rfl
        simp only [wk_skip, wk_region, wk_seq, wk_block, wk_cond, wk_exit, wk_ret, wk_draw, cnd_true, cnd_false, fin_nil, fin_seq, fin_seq_exit, fin_seq_ret, fin_seq_panic, fin_block, fin_block_exit, fin_block_ret, fin_block_panic, fin_loop, fin_loop_exit, fin_loop_ret, fin_loop_panic, ops_nil, ops_cons, ops_guard, res_val, res_new, main_nil, main_cons, main_guard, mres_val, mres_new, AOp.ev, AOpd.ev, evAll, evParts, evOpt, put_get, put_none, wantA, ARes.ofOpt, tmOf, List.getD_cons_zero, List.getD_cons_succ, Nat.reduceEqDiff, if_true, if_false, reduceIte, Nat.reduceAdd, Nat.reduceMul, binA, intOp, eqOp, nilOf, lenA_slice, callA, AV.cells, undefA, Option.map_some, Option.map_none, Bool.false_eq_true, reduceCtorEq, beq_false, beq_true, g_true, g_false, mg_true, mg_false, Bool.not_true, Bool.not_false, decide_true, decide_false, not_true_eq_false, not_false_eq_true, List.nil_append, List.cons_append, List.append_nil, Option.isNone_some, Option.isNone_none, List.getElem?_cons_zero, List.getElem?_cons_succ, t0, t5, t7, t11, q1, q2']
        refine res_ret (get16_c H4 g _ _) ?_
        rintro r h7 d7 ⟨rfl, n, q, e, rfl, hg⟩
        have hg' : GetSaid (obsOf os) xs[i].1.name j xs[i].1.cells[j] xs[i].1.refs[j] 0 := .inr ⟨xs[i].1, hin, rfl, .inr ⟨j, rfl, by simp [hj'], by simp [hjr], rfl⟩⟩
        obtain ⟨rfl, rfl, rfl⟩ := get_one g.names hg hg'
        obtain ⟨c2, o2, r1, _, r2⟩ := (W4.cells _ hxi).get j (by simpa using hj') .i64
        obtain ⟨c3, o3, s1, _, s2⟩ := (W4.refs _ hxi).get j (by simpa using hjr) .i64
        simp only [List.getElem_map] at r2 s2
        simp only [wk_skip, wk_region, wk_seq, wk_block, wk_cond, wk_exit, wk_ret, wk_draw, cnd_true, cnd_false, fin_nil, fin_seq, fin_seq_exit, fin_seq_ret, fin_seq_panic, fin_block, fin_block_exit, fin_block_ret, fin_block_panic, fin_loop, fin_loop_exit, fin_loop_ret, fin_loop_panic, ops_nil, ops_cons, ops_guard, res_val, res_new, main_nil, main_cons, main_guard, mres_val, mres_new, AOp.ev, AOpd.ev, evAll, evParts, evOpt, put_get, put_none, wantA, ARes.ofOpt, tmOf, List.getD_cons_zero, List.getD_cons_succ, Nat.reduceEqDiff, if_true, if_false, reduceIte, Nat.reduceAdd, Nat.reduceMul, binA, intOp, eqOp, nilOf, lenA_slice, callA, AV.cells, undefA, Option.map_some, Option.map_none, Bool.false_eq_true, reduceCtorEq, beq_false, beq_true, g_true, g_false, mg_true, mg_false, Bool.not_true, Bool.not_false, decide_true, decide_false, not_true_eq_false, not_false_eq_true, List.nil_append, List.cons_append, List.append_nil, Option.isNone_some, Option.isNone_none, List.getElem?_cons_zero, List.getElem?_cons_succ, t8, t11, l0, l1, l2, r1, r2, s1, s2, wrj]
        exact meet ⟨k2 - 1, by omega, rfl, rfl, by simp [TM.put, t0], by simp [TM.put, t1], by simp [TM.put, t5], by simp [TM.put, t7], by simp [TM.put, t8], by simp [TM.put, t9], j + 1, by simp [TM.put], by omega⟩
      · simp only [wk_skip, wk_region, wk_seq, wk_block, wk_cond, wk_exit, wk_ret, wk_draw, cnd_true, cnd_false, fin_nil, fin_seq, fin_seq_exit, fin_seq_ret, fin_seq_panic, fin_block, fin_block_exit, fin_block_ret, fin_block_panic, fin_loop, fin_loop_exit, fin_loop_ret, fin_loop_panic, ops_nil, ops_cons, ops_guard, res_val, res_new, main_nil, main_cons, main_guard, mres_val, mres_new, AOp.ev, AOpd.ev, evAll, evParts, evOpt, put_get, put_none, wantA, ARes.ofOpt, tmOf, List.getD_cons_zero, List.getD_cons_succ, Nat.reduceEqDiff, if_true, if_false, reduceIte, Nat.reduceAdd, Nat.reduceMul, binA, intOp, eqOp, nilOf, lenA_slice, callA, AV.cells, undefA, Option.map_some, Option.map_none, Bool.false_eq_true, reduceCtorEq, beq_false, beq_true, g_true, g_false, mg_true, mg_false, Bool.not_true, Bool.not_false, decide_true, decide_false, not_true_eq_false, not_false_eq_true, List.nil_append, List.cons_append, List.append_nil, Option.isNone_some, Option.isNone_none, List.getElem?_cons_zero, List.getElem?_cons_succ, t7, wri]
        exact meet ⟨k - 1, by omega, rfl, by simp [TM.put, t0], by simp [TM.put, t1], by simp [TM.put, t5], m3.trans m4, i + 1, by simp [TM.put], by omega⟩
    · simp only [wk_skip, wk_region, wk_seq, wk_block, wk_cond, wk_exit, wk_ret, wk_draw, cnd_true, cnd_false, fin_nil, fin_seq, fin_seq_exit, fin_seq_ret, fin_seq_panic, fin_block, fin_block_exit, fin_block_ret, fin_block_panic, fin_loop, fin_loop_exit, fin_loop_ret, fin_loop_panic, ops_nil, ops_cons, ops_guard, res_val, res_new, main_nil, main_cons, main_guard, mres_val, mres_new, AOp.ev, AOpd.ev, evAll, evParts, evOpt, put_get, put_none, wantA, ARes.ofOpt, tmOf, List.getD_cons_zero, List.getD_cons_succ, Nat.reduceEqDiff, if_true, if_false, reduceIte, Nat.reduceAdd, Nat.reduceMul, binA, intOp, eqOp, nilOf, lenA_slice, callA, AV.cells, undefA, Option.map_some, Option.map_none, Bool.false_eq_true, reduceCtorEq, beq_false, beq_true, g_true, g_false, mg_true, mg_false, Bool.not_true, Bool.not_false, decide_true, decide_false, not_true_eq_false, not_false_eq_true, List.nil_append, List.cons_append, List.append_nil, Option.isNone_some, Option.isNone_none, List.getElem?_cons_zero, List.getElem?_cons_succ]
      exact fnEnd_ret1 ⟨by simp [TM.put], m03⟩
  · rintro u h2 ⟨_, e⟩; cases e
end Go.Proofs.Ytnkdjfmidiffdaa
