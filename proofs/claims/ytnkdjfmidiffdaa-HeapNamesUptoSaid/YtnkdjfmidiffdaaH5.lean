/-
  Part of the proofs about the heap: an abstract memory, its compiled code, and the contracts of the functions over it.
  Conditions: each theorem names its own.
-/
import Derived.Test.YtnkdjfmidiffdaaH4
set_option linter.unusedSimpArgs false
set_option linter.unusedVariables false
namespace Go.Proofs.Ytnkdjfmidiffdaa
open Go Go.Proofs Go.Am
variable {N : Nat}

/-! ### The heap and its list stand for the same objects. -/
abbrev obR (xs : List Row) : List Ob := xs.map (·.1)
theorem obR_mem {xs : List Row} {o : Ob} : o ∈ obR xs ↔ ∃ x ∈ xs, x.1 = o := List.mem_map

structure Both (h0 h : AHeap) (hb wb : Nat) (B : Int) (lo : List Ob) (xs : List Row) (ρ1 ρ2 : Nat → Nat) : Prop where
  heap : HRep h hb B lo ρ1
  ref : WRep h wb B xs ρ2
  same : lo.Perm (obR xs)
  apart : ∀ c, ρ1 c = 0 ∨ ρ2 c = 0
  new : ∀ c, ρ1 c ≠ 0 ∨ ρ2 c ≠ 0 → h0 c = none
def Pair (h0 h : AHeap) (hb wb : Nat) (B : Int) : Prop := ∃ lo xs ρ1 ρ2, Both h0 h hb wb B lo xs ρ1 ρ2

theorem HRep.good {h : AHeap} {b : Nat} {B : Int} {l : List Ob} {ρ : Nat → Nat} (R : HRep h b B l ρ) : ∃ used least, HGood B used least l := by
  obtain ⟨M, u, le, os, e, H, g, O⟩ := R
  exact ⟨u, le, g⟩
theorem HRep.dom {h : AHeap} {b : Nat} {B : Int} {l : List Ob} {ρ : Nat → Nat} (R : HRep h b B l ρ) : ∀ c, ρ c ≠ 0 → h c ≠ none := by
  obtain ⟨M, u, le, os, e, H, g, O⟩ := R
  exact O.dom
theorem WRep.dom {h : AHeap} {b : Nat} {B : Int} {xs : List Row} {ρ : Nat → Nat} (R : WRep h b B xs ρ) : ∀ c, ρ c ≠ 0 → h c ≠ none := by
  obtain ⟨L, W, O⟩ := R
  exact O.dom
theorem WIn.keep {h h' : AHeap} {b : Nat} {L : AV} {B : Int} {xs : List Row} {ρ : Nat → Nat} (W : WIn h b L B xs) (O : WOwn h b L xs ρ) (k : ∀ c, ρ c ≠ 0 → h' c = h c) : WIn h' b L B xs ∧ WOwn h' b L xs ρ := by
  refine ⟨⟨by rw [k b (by rw [O.top]; omega)]; exact W.top, W.list.keep fun c hc => k c (by rw [(O.lst c hc).1]; omega), fun x hx => (W.cells x hx).keep fun c hc => k c (by rw [(O.cel x hx c hc).1]; omega), fun x hx => (W.refs x hx).keep fun c hc => k c (by rw [O.rfs x hx c hc]; omega), W.same, W.few, W.small⟩,
    ⟨O.top, fun c hc => ⟨(O.lst c hc).1, by rw [k c (by rw [(O.lst c hc).1]; omega)]; exact (O.lst c hc).2⟩, fun x hx c hc => ⟨(O.cel x hx c hc).1, by rw [k c (by rw [(O.cel x hx c hc).1]; omega)]; exact (O.cel x hx c hc).2⟩, O.rfs, fun c hc => by rw [k c hc]; exact O.dom c hc, O.sorted, O.pos⟩⟩
theorem WRep.keep {h h' : AHeap} {b : Nat} {B : Int} {xs : List Row} {ρ : Nat → Nat} (R : WRep h b B xs ρ) (k : ∀ c, ρ c ≠ 0 → h' c = h c) : WRep h' b B xs ρ := by
  obtain ⟨L, W, O⟩ := R
  obtain ⟨W', O'⟩ := W.keep O k
  exact ⟨L, W', O'⟩

/-- The heap alone has changed. -/
theorem Both.heap' {h0 h h' : AHeap} {hb wb : Nat} {B : Int} {lo lo' : List Ob} {xs : List Row} {ρ1 ρ1' ρ2 : Nat → Nat} (b : Both h0 h hb wb B lo xs ρ1 ρ2) (R : HRep h' hb B lo' ρ1') (o : Off ρ1 h h') (m : Mine ρ1 ρ1' h) : WRep h' wb B xs ρ2 ∧ (∀ c, ρ1' c = 0 ∨ ρ2 c = 0) ∧ (Dom h0 h → ∀ c, ρ1' c ≠ 0 ∨ ρ2 c ≠ 0 → h0 c = none) := by
  refine ⟨b.ref.keep fun c hc => o c ((b.apart c).resolve_right hc) (b.ref.dom c hc), fun c => ?_, fun d c hc => ?_⟩
  · by_cases e : ρ1' c = 0
    · exact .inl e
    · by_cases e2 : ρ2 c = 0
      · exact .inr e2
      · rcases m c e with h1 | h1
        · rcases b.apart c with h2 | h2
          · exact absurd h2 h1
          · exact absurd h2 e2
        · exact absurd h1 (b.ref.dom c e2)
  · rcases hc with hc | hc
    · rcases m c hc with h1 | h1
      · exact b.new c (.inl h1)
      · cases e : h0 c with
        | none => rfl
        | some y => exact absurd h1 (d.dom c (by rw [e]; simp))
    · exact b.new c (.inr hc)
theorem Both.ref' {h0 h h' : AHeap} {hb wb : Nat} {B : Int} {lo : List Ob} {xs xs' : List Row} {ρ1 ρ2 ρ2' : Nat → Nat} (R1 : HRep h hb B lo ρ1) (ap : ∀ c, ρ1 c = 0 ∨ ρ2 c = 0) (new : ∀ c, ρ1 c ≠ 0 ∨ ρ2 c ≠ 0 → h0 c = none) (d : Dom h0 h) (R : WRep h' wb B xs' ρ2') (o : Off ρ2 h h') (m : Mine ρ2 ρ2' h) (s : lo.Perm (obR xs')) : Both h0 h' hb wb B lo xs' ρ1 ρ2' := by
  refine ⟨R1.keep fun c hc => o c ((ap c).resolve_left hc) (R1.dom c hc), R, s, fun c => ?_, fun c hc => ?_⟩
  · by_cases e : ρ2' c = 0
    · exact .inr e
    · by_cases e2 : ρ1 c = 0
      · exact .inl e2
      · rcases m c e with h1 | h1
        · rcases ap c with h2 | h2
          · exact absurd h2 e2
          · exact absurd h2 h1
        · exact absurd h1 (R1.dom c e2)
  · rcases hc with hc | hc
    · exact new c (.inl hc)
    · rcases m c hc with h1 | h1
      · exact new c (.inr h1)
      · cases e : h0 c with
        | none => rfl
        | some y => exact absurd h1 (d.dom c (by rw [e]; simp))
/-- Nothing of either has changed. -/
theorem Both.keep {h0 h h' : AHeap} {hb wb : Nat} {B : Int} {lo : List Ob} {xs : List Row} {ρ1 ρ2 : Nat → Nat} (b : Both h0 h hb wb B lo xs ρ1 ρ2) (k : ∀ c, ρ1 c ≠ 0 ∨ ρ2 c ≠ 0 → h' c = h c) : Both h0 h' hb wb B lo xs ρ1 ρ2 :=
  ⟨b.heap.keep fun c hc => k c (.inl hc), b.ref.keep fun c hc => k c (.inr hc), b.same, b.apart, b.new⟩
theorem Both.more {h0 h h' : AHeap} {hb wb : Nat} {B : Int} {lo : List Ob} {xs : List Row} {ρ1 ρ2 : Nat → Nat} (b : Both h0 h hb wb B lo xs ρ1 ρ2) (m : More h h') : Both h0 h' hb wb B lo xs ρ1 ρ2 :=
  b.keep fun c hc => m c (hc.elim (b.heap.dom c) (b.ref.dom c))

/-! ### What is asked of the objects is answered alike. -/
theorem get_perm {l m : List Ob} (p : l.Perm m) {o i : Int} {n : Nat} {r : Bool} {e : Int} (h : GetSaid l o i n r e) : GetSaid m o i n r e := by
  rcases h with ⟨h1, h2⟩ | ⟨x, hx, h2⟩
  · exact .inl ⟨fun x hx => h1 x (p.mem_iff.2 hx), h2⟩
  · exact .inr ⟨x, p.mem_iff.1 hx, h2⟩
theorem get_one {l : List Ob} (hn : (l.map (·.name)).Nodup) {o i : Int} {n n' : Nat} {r r' : Bool} {e e' : Int} (h : GetSaid l o i n r e) (h' : GetSaid l o i n' r' e') : n = n' ∧ r = r' ∧ e = e' := by
  rcases h with ⟨h1, rfl, rfl, rfl⟩ | ⟨x, hx, hxn, h2⟩ <;> rcases h' with ⟨h1', rfl, rfl, rfl⟩ | ⟨x', hx', hxn', h2'⟩
  · exact ⟨rfl, rfl, rfl⟩
  · exact absurd hxn' (h1 x' hx')
  · exact absurd hxn (h1' x hx)
  · have := nodup_inj hn hx hx' (by omega)
    subst this
    rcases h2 with ⟨h2, rfl, rfl, rfl⟩ | ⟨j, rfl, a1, a2, rfl⟩ <;> rcases h2' with ⟨h2', rfl, rfl, rfl⟩ | ⟨j', e1, b1, b2, rfl⟩
    · exact ⟨rfl, rfl, rfl⟩
    · have := (List.getElem?_eq_some_iff.1 b1).1; omega
    · have := (List.getElem?_eq_some_iff.1 a1).1; omega
    · have : j = j' := by omega
      subst this
      rw [a1] at b1; rw [a2] at b2
      cases b1; cases b2; exact ⟨rfl, rfl, rfl⟩
theorem cell_get {xs : List Row} {o i : Int} {n : Nat} {r : Bool} {e : Int} (h : CellSaid xs o i n r e) : GetSaid (obR xs) o i n r e := by
  rcases h with ⟨h1, h2⟩ | ⟨k, hk, hn, h2⟩
  · refine .inl ⟨fun x hx => ?_, h2⟩
    obtain ⟨y, hy, rfl⟩ := obR_mem.1 hx
    exact h1 y hy
  · exact .inr ⟨xs[k].1, obR_mem.2 ⟨_, List.getElem_mem hk, rfl⟩, hn, h2⟩
theorem rows_nodup {xs : List Row} (hs : (xs.map fun x => x.1.name).Pairwise (· < ·)) : ((obR xs).map (·.name)).Nodup := by
  rw [List.map_map]
  exact hs.imp fun h => by omega

theorem putRow_obs {xs : List Row} (hs : (xs.map fun x => x.1.name).Pairwise (· < ·)) (k j n : Nat) (hk : k < xs.length) : obR (putRow xs k j n) = putObs (obR xs) xs[k].1.name j n := by
  unfold putRow
  rw [List.getElem?_eq_getElem hk]
  simp only [putObs]
  apply List.ext_getElem (by simp)
  intro i h1 h2
  simp only [List.getElem_map, List.getElem_set]
  by_cases e : k = i
  · subst e; simp
  · rw [if_neg e, if_neg]
    intro e2
    simp at h1
    exact e (names_inj hs hk h1 e2.symm)

theorem known_perm {l : List Ob} {xs : List Row} (p : l.Perm (obR xs)) {roots : List Int} : KnownN l roots ↔ Known xs roots := by
  constructor
  · intro h r hr
    rcases h r hr with h | ⟨o, ho, e⟩
    · exact .inl h
    · obtain ⟨x, hx, rfl⟩ := obR_mem.1 (p.mem_iff.1 ho)
      exact .inr ⟨x, hx, e⟩
  · intro h r hr
    rcases h r hr with h | ⟨x, hx, e⟩
    · exact .inl h
    · exact .inr ⟨x.1, p.mem_iff.2 (obR_mem.2 ⟨x, hx, rfl⟩), e⟩
theorem rch_perm {l : List Ob} {xs : List Row} (p : l.Perm (obR xs)) {B u le : Int} (g : HGood B u le l) {roots : List Int} {m : Nat} : RchN l roots m ↔ ∃ k, ∃ hk : k < xs.length, xs[k].1.name = m ∧ Rch xs roots k := by
  have idx : ∀ o ∈ l, ∃ k, ∃ hk : k < xs.length, xs[k].1 = o := fun o ho => by
    obtain ⟨x, hx, rfl⟩ := obR_mem.1 (p.mem_iff.1 ho)
    obtain ⟨k, hk, rfl⟩ := List.mem_iff_getElem.1 hx
    exact ⟨k, hk, rfl⟩
  have mem : ∀ k (hk : k < xs.length), xs[k].1 ∈ l := fun k hk => p.mem_iff.2 (obR_mem.2 ⟨_, List.getElem_mem hk, rfl⟩)
  constructor
  · intro h
    induction h with
    | root o ho hr =>
      obtain ⟨k, hk, rfl⟩ := idx o ho
      exact ⟨k, hk, rfl, .root k hk hr⟩
    | step o o' j h ho ho' hr hc ih =>
      obtain ⟨k, hk, e, hkr⟩ := ih
      obtain ⟨m, hm, rfl⟩ := idx o' ho'
      have : xs[k].1 = o := g.inj (mem k hk) ho e
      subst this
      refine ⟨m, hm, rfl, .step k j m hkr ⟨hk, hm, hr, _, hc, ?_⟩⟩
      have := g.few _ ho'
      rw [wrap64 (by omega) (by omega)]
  · rintro ⟨k, hk, rfl, h⟩
    have key : ∀ k, Rch xs roots k → ∀ hk : k < xs.length, RchN l roots xs[k].1.name := fun k h => by
      induction h with
      | root k hk hr => exact fun _ => .root _ (mem k hk) hr
      | step k j m _ hl ih =>
        obtain ⟨hk, hm, hr, c, hc, e⟩ := hl
        intro _
        rcases g.closed _ (mem k hk) j c hr hc with rfl | ⟨o', ho', rfl⟩
        · have := g.pos _ (mem m hm)
          rw [wrap64 (by omega) (by omega)] at e; omega
        · have h1 := g.few _ ho'
          rw [wrap64 (by omega) (by omega)] at e
          have : xs[m].1 = o' := g.inj (mem m hm) ho' (by omega)
          exact .step xs[k].1 xs[m].1 j (ih hk) (mem k hk) (mem m hm) hr (by rw [this]; exact hc)
    exact key k h hk
open Classical in
theorem kept_live {l : List Ob} {xs : List Row} (p : l.Perm (obR xs)) {B u le : Int} (g : HGood B u le l) (hs : (xs.map fun x => x.1.name).Pairwise (· < ·)) {roots : List Int} {on : List Bool} (ho : on.length = xs.length) (hon : ∀ k, on[k]? = some true ↔ Rch xs roots k) : (liveOb l roots).Perm (obR (kept xs on)) := by
  have h1 : (liveOb l roots).Perm ((obR xs).filter fun o => decide (RchN l roots o.name)) := p.filter _
  refine h1.trans (.of_eq ?_)
  have at_ : ∀ k (hk : k < xs.length), RchN l roots xs[k].1.name ↔ on[k]? = some true := fun k hk => by
    rw [rch_perm p g, hon]
    constructor
    · rintro ⟨k', hk', e, h⟩
      have := names_inj hs hk' hk e
      subst this; exact h
    · exact fun h => ⟨k, hk, rfl, h⟩
  have gen : ∀ (ys : List Row) (bs : List Bool), bs.length = ys.length → (∀ k (hk : k < ys.length), RchN l roots ys[k].1.name ↔ bs[k]? = some true) → (obR ys).filter (fun o => decide (RchN l roots o.name)) = obR (kept ys bs) := by
    intro ys
    induction ys with
    | nil => intro bs _ _; simp [kept]
    | cons y ys ih =>
      intro bs hb hi
      cases bs with
      | nil => simp at hb
      | cons b bs =>
        have h0 := hi 0 (by simp)
        simp only [List.getElem_cons_zero, List.getElem?_cons_zero, Option.some.injEq] at h0
        have ih' := ih bs (by simpa using hb) fun k hk => by
          have := hi (k + 1) (by simpa using hk)
          simpa using this
        simp only [List.map_cons, List.filter_cons] at ih' ⊢
        rw [ih']
        unfold kept
        simp only [List.zip_cons_cons, List.filter_cons]
        by_cases e : RchN l roots y.1.name
        · rw [if_pos (by simpa using e), if_pos (by simpa using h0.1 e)]; rfl
        · rw [if_neg (by simpa using e), if_neg (by simpa using fun h => e (h0.2 h))]
  exact gen xs on ho at_
theorem tot_perm {l : List Ob} {xs : List Row} (p : l.Perm (obR xs)) : totOb l = total xs := by
  unfold totOb total
  rw [(p.map sizeOb).sum_nat, List.map_map]
  rfl
theorem gap_least {l : List Ob} {xs : List Row} (p : l.Perm (obR xs)) (hs : (xs.map fun x => x.1.name).Pairwise (· < ·)) (hp : ∀ x ∈ xs, 1 ≤ x.1.name) {k m : Nat} (hg : Gap xs k) (hm : LeastFree l m) : m = k + 1 := by
  have has : ∀ n, (∃ o ∈ l, o.name = n) ↔ ∃ i, ∃ hi : i < xs.length, xs[i].1.name = n := fun n => by
    constructor
    · rintro ⟨o, ho, rfl⟩
      obtain ⟨x, hx, rfl⟩ := obR_mem.1 (p.mem_iff.1 ho)
      obtain ⟨i, hi, rfl⟩ := List.mem_iff_getElem.1 hx
      exact ⟨i, hi, rfl⟩
    · rintro ⟨i, hi, rfl⟩
      exact ⟨_, p.mem_iff.2 (obR_mem.2 ⟨_, List.getElem_mem hi, rfl⟩), rfl⟩
  have pw := List.pairwise_iff_getElem.1 hs
  rcases Nat.lt_trichotomy m (k + 1) with h | h | h
  · have hmk : m - 1 < k := by have := hm.1; omega
    have hlt : m - 1 < xs.length := by have := hg.1; omega
    have := hg.2.1 (m - 1) hlt hmk
    obtain ⟨o, ho, e⟩ := (has m).2 ⟨m - 1, hlt, by have := hm.1; omega⟩
    exact absurd e (hm.2.1 o ho)
  · exact h
  · obtain ⟨i, hi, e⟩ := (has (k + 1)).1 (hm.2.2 (k + 1) (by omega) h)
    by_cases hik : i < k
    · have := hg.2.1 i hi hik; omega
    · have hkl : k < xs.length := by omega
      have h1 := hg.2.2 hkl
      by_cases e2 : i = k
      · subst e2; exact absurd e h1
      · have h2 := pw k i (by simpa using hkl) (by simpa using hi) (by omega)
        simp at h2
        -- the k-th name is at least k + 1
        have up : ∀ (j : Nat) (hj : j < xs.length), j + 1 ≤ xs[j].1.name := by
          intro j
          induction j with
          | zero => intro hj; exact hp _ (List.getElem_mem hj)
          | succ j ih =>
            intro hj
            have h1 := ih (by omega)
            have h2 := pw j (j + 1) (by simp; omega) (by simpa using hj) (by omega)
            simp at h2; omega
        have := up k hkl
        omega
theorem ins_perm {l : List Ob} {xs : List Row} (p : l.Perm (obR xs)) (k : Nat) (x : Row) : (l ++ [x.1]).Perm (obR (insAt xs k x)) := by
  unfold insAt
  have h1 : (l ++ [x.1]).Perm (x.1 :: obR xs) := (List.perm_append_comm).trans (p.cons _)
  refine h1.trans ?_
  have : obR (xs.take k ++ x :: xs.drop k) = obR (xs.take k) ++ x.1 :: obR (xs.drop k) := by simp
  rw [this]
  have h2 : obR xs = obR (xs.take k) ++ obR (xs.drop k) := by rw [← List.map_append, List.take_append_drop]
  rw [h2]
  exact List.perm_middle.symm
end Go.Proofs.Ytnkdjfmidiffdaa
namespace Go.Proofs.Ytnkdjfmidiffdaa
open Go Go.Proofs Go.Am
variable {N : Nat}

theorem ints13_c {h : AHeap} {v : AV} {cs : List AV} (S : SliceAt h 1 v cs) (hl : cs.length ≤ 4000000000) (ho : cs.all AV.oneCell = true) : ARets Try.prog N 13 [v] h (fun r h' => Grown h h' 1 r cs) := by
  refine acalls_of_wp c13_ok mixed (by show 1 ≤ 6; decide) (wk_start ?_)
  unfold c13
  simp only [wk_skip, wk_region, wk_seq, wk_block, wk_cond, wk_exit, wk_ret, wk_draw, cnd_true, cnd_false, fin_nil, fin_seq, fin_seq_exit, fin_seq_ret, fin_seq_panic, fin_block, fin_block_exit, fin_block_ret, fin_block_panic, fin_loop, fin_loop_exit, fin_loop_ret, fin_loop_panic, ops_nil, ops_cons, ops_guard, res_val, res_new, main_nil, main_cons, main_guard, mres_val, mres_new, AOp.ev, AOpd.ev, evAll, evParts, evOpt, put_get, put_none, wantA, ARes.ofOpt, tmOf, List.getD_cons_zero, List.getD_cons_succ, Nat.reduceEqDiff, if_true, if_false, reduceIte, Nat.reduceAdd, Nat.reduceMul, binA, intOp, eqOp, nilOf, lenA_slice, callA, AV.cells, undefA, Option.map_some, Option.map_none, Bool.false_eq_true, reduceCtorEq, beq_false, beq_true, g_true, g_false, mg_true, mg_false, Bool.not_true, Bool.not_false, decide_true, decide_false, not_true_eq_false, not_false_eq_true, List.nil_append, List.cons_append, List.append_nil, Option.isNone_some, Option.isNone_none, List.getElem?_cons_zero, List.getElem?_cons_succ, fill_nil]
  intro b hb
  have G := Grown.make (sz := 1) (n := 0) (ex := true) hb (x := []) (by simp)
  refine res_append (bytes := 8) G (slice_more S G.more) (by omega) (by simp; omega) (by omega) rfl ho ?_
  intro v' h' G' _ _ _
  simp only [wk_skip, wk_region, wk_seq, wk_block, wk_cond, wk_exit, wk_ret, wk_draw, cnd_true, cnd_false, fin_nil, fin_seq, fin_seq_exit, fin_seq_ret, fin_seq_panic, fin_block, fin_block_exit, fin_block_ret, fin_block_panic, fin_loop, fin_loop_exit, fin_loop_ret, fin_loop_panic, ops_nil, ops_cons, ops_guard, res_val, res_new, main_nil, main_cons, main_guard, mres_val, mres_new, AOp.ev, AOpd.ev, evAll, evParts, evOpt, put_get, put_none, wantA, ARes.ofOpt, tmOf, List.getD_cons_zero, List.getD_cons_succ, Nat.reduceEqDiff, if_true, if_false, reduceIte, Nat.reduceAdd, Nat.reduceMul, binA, intOp, eqOp, nilOf, lenA_slice, callA, AV.cells, undefA, Option.map_some, Option.map_none, Bool.false_eq_true, reduceCtorEq, beq_false, beq_true, g_true, g_false, mg_true, mg_false, Bool.not_true, Bool.not_false, decide_true, decide_false, not_true_eq_false, not_false_eq_true, List.nil_append, List.cons_append, List.append_nil, Option.isNone_some, Option.isNone_none, List.getElem?_cons_zero, List.getElem?_cons_succ]
  exact fnEnd_ret1 (by simpa [TM.put] using G')

theorem same18_c {h : AHeap} {v w : AV} {l m : List Int} (S : Ints h v l) (T : Ints h w m) (hl : l.length ≤ 4000000000) (hm : m.length ≤ 4000000000) : ARets Try.prog N 18 [v, w] h (fun r h' => h' = h ∧ r = .bool (decide (l = m))) := by
  refine acalls_of_wp c18_ok mixed (by show 2 ≤ 26; decide) (wk_start ?_)
  unfold c18
  have h1 := S.len l.length (by simp) (by omega)
  have h2 := T.len m.length (by simp) (by omega)
  simp only [wk_skip, wk_region, wk_seq, wk_block, wk_cond, wk_exit, wk_ret, wk_draw, cnd_true, cnd_false, fin_nil, fin_seq, fin_seq_exit, fin_seq_ret, fin_seq_panic, fin_block, fin_block_exit, fin_block_ret, fin_block_panic, fin_loop, fin_loop_exit, fin_loop_ret, fin_loop_panic, ops_nil, ops_cons, ops_guard, res_val, res_new, main_nil, main_cons, main_guard, mres_val, mres_new, AOp.ev, AOpd.ev, evAll, evParts, evOpt, put_get, put_none, wantA, ARes.ofOpt, tmOf, List.getD_cons_zero, List.getD_cons_succ, Nat.reduceEqDiff, if_true, if_false, reduceIte, Nat.reduceAdd, Nat.reduceMul, binA, intOp, eqOp, nilOf, lenA_slice, callA, AV.cells, undefA, Option.map_some, Option.map_none, Bool.false_eq_true, reduceCtorEq, beq_false, beq_true, g_true, g_false, mg_true, mg_false, Bool.not_true, Bool.not_false, decide_true, decide_false, not_true_eq_false, not_false_eq_true, List.nil_append, List.cons_append, List.append_nil, Option.isNone_some, Option.isNone_none, List.getElem?_cons_zero, List.getElem?_cons_succ, h1, h2]
  refine cond_ndec (fun hne => ?_) (fun heq => ?_)
  · simp only [wk_skip, wk_region, wk_seq, wk_block, wk_cond, wk_exit, wk_ret, wk_draw, cnd_true, cnd_false, fin_nil, fin_seq, fin_seq_exit, fin_seq_ret, fin_seq_panic, fin_block, fin_block_exit, fin_block_ret, fin_block_panic, fin_loop, fin_loop_exit, fin_loop_ret, fin_loop_panic, ops_nil, ops_cons, ops_guard, res_val, res_new, main_nil, main_cons, main_guard, mres_val, mres_new, AOp.ev, AOpd.ev, evAll, evParts, evOpt, put_get, put_none, wantA, ARes.ofOpt, tmOf, List.getD_cons_zero, List.getD_cons_succ, Nat.reduceEqDiff, if_true, if_false, reduceIte, Nat.reduceAdd, Nat.reduceMul, binA, intOp, eqOp, nilOf, lenA_slice, callA, AV.cells, undefA, Option.map_some, Option.map_none, Bool.false_eq_true, reduceCtorEq, beq_false, beq_true, g_true, g_false, mg_true, mg_false, Bool.not_true, Bool.not_false, decide_true, decide_false, not_true_eq_false, not_false_eq_true, List.nil_append, List.cons_append, List.append_nil, Option.isNone_some, Option.isNone_none, List.getElem?_cons_zero, List.getElem?_cons_succ]
    have hn : l ≠ m := fun e => hne (by rw [e])
    exact fnEnd_ret1 ⟨rfl, by simp [TM.put, hn]⟩
  have hlm : l.length = m.length := by omega
  simp only [wk_skip, wk_region, wk_seq, wk_block, wk_cond, wk_exit, wk_ret, wk_draw, cnd_true, cnd_false, fin_nil, fin_seq, fin_seq_exit, fin_seq_ret, fin_seq_panic, fin_block, fin_block_exit, fin_block_ret, fin_block_panic, fin_loop, fin_loop_exit, fin_loop_ret, fin_loop_panic, ops_nil, ops_cons, ops_guard, res_val, res_new, main_nil, main_cons, main_guard, mres_val, mres_new, AOp.ev, AOpd.ev, evAll, evParts, evOpt, put_get, put_none, wantA, ARes.ofOpt, tmOf, List.getD_cons_zero, List.getD_cons_succ, Nat.reduceEqDiff, if_true, if_false, reduceIte, Nat.reduceAdd, Nat.reduceMul, binA, intOp, eqOp, nilOf, lenA_slice, callA, AV.cells, undefA, Option.map_some, Option.map_none, Bool.false_eq_true, reduceCtorEq, beq_false, beq_true, g_true, g_false, mg_true, mg_false, Bool.not_true, Bool.not_false, decide_true, decide_false, not_true_eq_false, not_false_eq_true, List.nil_append, List.cons_append, List.append_nil, Option.isNone_some, Option.isNone_none, List.getElem?_cons_zero, List.getElem?_cons_succ]
  refine wk_loop (fun k tm ds h' => ds = [] ∧ h' = h ∧ tm 0 = v ∧ tm 1 = w ∧ ∃ i : Nat, tm 5 = .int .i64 i ∧ i + k = l.length ∧ l.take i = m.take i) l.length ⟨rfl, rfl, rfl, rfl, 0, rfl, by simp, by simp⟩ ?_
  rintro k tm ds h' ⟨rfl, rfl, t0, t1, i, t5, hk, hs⟩
  simp only [wk_skip, wk_region, wk_seq, wk_block, wk_cond, wk_exit, wk_ret, wk_draw, cnd_true, cnd_false, fin_nil, fin_seq, fin_seq_exit, fin_seq_ret, fin_seq_panic, fin_block, fin_block_exit, fin_block_ret, fin_block_panic, fin_loop, fin_loop_exit, fin_loop_ret, fin_loop_panic, ops_nil, ops_cons, ops_guard, res_val, res_new, main_nil, main_cons, main_guard, mres_val, mres_new, AOp.ev, AOpd.ev, evAll, evParts, evOpt, put_get, put_none, wantA, ARes.ofOpt, tmOf, List.getD_cons_zero, List.getD_cons_succ, Nat.reduceEqDiff, if_true, if_false, reduceIte, Nat.reduceAdd, Nat.reduceMul, binA, intOp, eqOp, nilOf, lenA_slice, callA, AV.cells, undefA, Option.map_some, Option.map_none, Bool.false_eq_true, reduceCtorEq, beq_false, beq_true, g_true, g_false, mg_true, mg_false, Bool.not_true, Bool.not_false, decide_true, decide_false, not_true_eq_false, not_false_eq_true, List.nil_append, List.cons_append, List.append_nil, Option.isNone_some, Option.isNone_none, List.getElem?_cons_zero, List.getElem?_cons_succ, t0, t1, t5, h1]
  refine cond_dec (fun hi => ?_) (fun hi => ?_)
  · have hi' : i < l.length := by omega
    have hi2 : i < m.length := by omega
    have wri : IntKind.i64.wrap ((i : Int) + 1) = ((i + 1 : Nat) : Int) := by rw [wrap64 (by omega) (by omega)]; rfl
    obtain ⟨c, o, g1, _, g2⟩ := S.get i (by simpa using hi') .i64
    obtain ⟨c', o', g1', _, g2'⟩ := T.get i (by simpa using hi2) .i64
    simp only [List.getElem_map] at g2 g2'
    simp only [wk_skip, wk_region, wk_seq, wk_block, wk_cond, wk_exit, wk_ret, wk_draw, cnd_true, cnd_false, fin_nil, fin_seq, fin_seq_exit, fin_seq_ret, fin_seq_panic, fin_block, fin_block_exit, fin_block_ret, fin_block_panic, fin_loop, fin_loop_exit, fin_loop_ret, fin_loop_panic, ops_nil, ops_cons, ops_guard, res_val, res_new, main_nil, main_cons, main_guard, mres_val, mres_new, AOp.ev, AOpd.ev, evAll, evParts, evOpt, put_get, put_none, wantA, ARes.ofOpt, tmOf, List.getD_cons_zero, List.getD_cons_succ, Nat.reduceEqDiff, if_true, if_false, reduceIte, Nat.reduceAdd, Nat.reduceMul, binA, intOp, eqOp, nilOf, lenA_slice, callA, AV.cells, undefA, Option.map_some, Option.map_none, Bool.false_eq_true, reduceCtorEq, beq_false, beq_true, g_true, g_false, mg_true, mg_false, Bool.not_true, Bool.not_false, decide_true, decide_false, not_true_eq_false, not_false_eq_true, List.nil_append, List.cons_append, List.append_nil, Option.isNone_some, Option.isNone_none, List.getElem?_cons_zero, List.getElem?_cons_succ, t0, t1, t5, g1, g2, g1', g2']
    refine cond_ndec (fun hne => ?_) (fun heq => ?_)
    · simp only [wk_skip, wk_region, wk_seq, wk_block, wk_cond, wk_exit, wk_ret, wk_draw, cnd_true, cnd_false, fin_nil, fin_seq, fin_seq_exit, fin_seq_ret, fin_seq_panic, fin_block, fin_block_exit, fin_block_ret, fin_block_panic, fin_loop, fin_loop_exit, fin_loop_ret, fin_loop_panic, ops_nil, ops_cons, ops_guard, res_val, res_new, main_nil, main_cons, main_guard, mres_val, mres_new, AOp.ev, AOpd.ev, evAll, evParts, evOpt, put_get, put_none, wantA, ARes.ofOpt, tmOf, List.getD_cons_zero, List.getD_cons_succ, Nat.reduceEqDiff, if_true, if_false, reduceIte, Nat.reduceAdd, Nat.reduceMul, binA, intOp, eqOp, nilOf, lenA_slice, callA, AV.cells, undefA, Option.map_some, Option.map_none, Bool.false_eq_true, reduceCtorEq, beq_false, beq_true, g_true, g_false, mg_true, mg_false, Bool.not_true, Bool.not_false, decide_true, decide_false, not_true_eq_false, not_false_eq_true, List.nil_append, List.cons_append, List.append_nil, Option.isNone_some, Option.isNone_none, List.getElem?_cons_zero, List.getElem?_cons_succ]
      have hn : l ≠ m := fun e => hne (by subst e; rfl)
      exact fnEnd_ret1 ⟨rfl, by simp [TM.put, hn]⟩
    · simp only [wk_skip, wk_region, wk_seq, wk_block, wk_cond, wk_exit, wk_ret, wk_draw, cnd_true, cnd_false, fin_nil, fin_seq, fin_seq_exit, fin_seq_ret, fin_seq_panic, fin_block, fin_block_exit, fin_block_ret, fin_block_panic, fin_loop, fin_loop_exit, fin_loop_ret, fin_loop_panic, ops_nil, ops_cons, ops_guard, res_val, res_new, main_nil, main_cons, main_guard, mres_val, mres_new, AOp.ev, AOpd.ev, evAll, evParts, evOpt, put_get, put_none, wantA, ARes.ofOpt, tmOf, List.getD_cons_zero, List.getD_cons_succ, Nat.reduceEqDiff, if_true, if_false, reduceIte, Nat.reduceAdd, Nat.reduceMul, binA, intOp, eqOp, nilOf, lenA_slice, callA, AV.cells, undefA, Option.map_some, Option.map_none, Bool.false_eq_true, reduceCtorEq, beq_false, beq_true, g_true, g_false, mg_true, mg_false, Bool.not_true, Bool.not_false, decide_true, decide_false, not_true_eq_false, not_false_eq_true, List.nil_append, List.cons_append, List.append_nil, Option.isNone_some, Option.isNone_none, List.getElem?_cons_zero, List.getElem?_cons_succ, t5, wri]
      refine meet ⟨k - 1, by omega, rfl, rfl, by simp [TM.put, t0], by simp [TM.put, t1], i + 1, by simp [TM.put], by omega, ?_⟩
      rw [List.take_add_one, List.take_add_one, hs, List.getElem?_eq_getElem hi', List.getElem?_eq_getElem hi2, heq]
  · simp only [wk_skip, wk_region, wk_seq, wk_block, wk_cond, wk_exit, wk_ret, wk_draw, cnd_true, cnd_false, fin_nil, fin_seq, fin_seq_exit, fin_seq_ret, fin_seq_panic, fin_block, fin_block_exit, fin_block_ret, fin_block_panic, fin_loop, fin_loop_exit, fin_loop_ret, fin_loop_panic, ops_nil, ops_cons, ops_guard, res_val, res_new, main_nil, main_cons, main_guard, mres_val, mres_new, AOp.ev, AOpd.ev, evAll, evParts, evOpt, put_get, put_none, wantA, ARes.ofOpt, tmOf, List.getD_cons_zero, List.getD_cons_succ, Nat.reduceEqDiff, if_true, if_false, reduceIte, Nat.reduceAdd, Nat.reduceMul, binA, intOp, eqOp, nilOf, lenA_slice, callA, AV.cells, undefA, Option.map_some, Option.map_none, Bool.false_eq_true, reduceCtorEq, beq_false, beq_true, g_true, g_false, mg_true, mg_false, Bool.not_true, Bool.not_false, decide_true, decide_false, not_true_eq_false, not_false_eq_true, List.nil_append, List.cons_append, List.append_nil, Option.isNone_some, Option.isNone_none, List.getElem?_cons_zero, List.getElem?_cons_succ]
    rw [List.take_of_length_le (by omega), List.take_of_length_le (by omega)] at hs
    exact fnEnd_ret1 ⟨rfl, by simp [TM.put, hs]⟩

theorem set_put {lo : List Ob} {xs : List Row} (p : lo.Perm (obR xs)) {B u le : Int} (g : HGood B u le lo) (hs : (xs.map fun x => x.1.name).Pairwise (· < ·)) {o i : Int} {n : Nat} {e e' : Int} {lo' : List Ob} {ys : List Row} (S : SetSaid lo o i n e lo') (P : PutSaid xs o i n e' ys) : e = e' ∧ lo'.Perm (obR ys) := by
  have one : ∀ {m m' : Nat} {r r' : Bool} {a a' : Int}, GetSaid lo o i m r a → CellSaid xs o i m' r' a' → m = m' ∧ r = r' ∧ a = a' := fun h1 h2 => get_one g.names h1 (get_perm p.symm (cell_get h2))
  rcases S with ⟨h1, rfl, m, r, hg⟩ | ⟨m, r, hg, hS⟩ <;> rcases P with ⟨k1, rfl, m', r', hc⟩ | ⟨m', r', hc, hP⟩
  · exact ⟨(one hg hc).2.2, p⟩
  · exact absurd (one hg hc).2.2 h1
  · exact absurd (one hg hc).2.2.symm k1
  · obtain ⟨rfl, rfl, _⟩ := one hg hc
    rcases hS with ⟨rfl, rfl, a1, a2, a3⟩ | ⟨rfl, a1, j, k, rfl, rfl, rfl⟩ <;> rcases hP with ⟨rfl, rfl, b1, b2, b3⟩ | ⟨rfl, b1, k', j', hk', hn, hj, hjl, rfl⟩
    · exact ⟨rfl, p⟩
    · obtain ⟨_, x, hx, hxn⟩ := b1 a1 a2
      exact absurd hxn (a3 _ (p.mem_iff.2 (obR_mem.2 ⟨x, hx, rfl⟩)))
    · obtain ⟨y, hy, hyn⟩ := a1 b1 b2
      rcases b3 with b3 | b3
      · have := g.few y hy; omega
      · obtain ⟨x, hx, rfl⟩ := obR_mem.1 (p.mem_iff.1 hy)
        exact absurd hyn (b3 x hx)
    · refine ⟨rfl, ?_⟩
      have hjj : j = j' := by omega
      have hkk : k = xs[k'].1.name := by omega
      subst hjj hkk
      rw [putRow_obs hs k' j n hk']
      exact p.map _

/-- What collecting leaves and answers. -/
def CollN (l : List Ob) (roots : List Int) (n e : Int) (l' : List Ob) : Prop := (¬ KnownN l roots ∧ n = 0 ∧ e = 15 ∧ l' = l) ∨ (KnownN l roots ∧ e = 0 ∧ n = (l.length : Int) - (liveOb l roots).length ∧ l' = liveOb l roots)
theorem coll_alike {lo : List Ob} {xs : List Row} (p : lo.Perm (obR xs)) {B' u le : Int} (g : HGood B' u le lo) (hs : (xs.map fun x => x.1.name).Pairwise (· < ·)) {roots : List Int} {n e : Int} {lo' : List Ob} (hc : CollN lo roots n e lo') {h3 h4 : AHeap} {wb : Nat} {B : Int} {ρ2 : Nat → Nat} (R : WRep h3 wb B xs ρ2) {n' e' : Int} (hC : CollectSaid h3 h4 wb B xs ρ2 roots n' e') :
    n = n' ∧ e = e' ∧ ∃ ys ρ2', lo'.Perm (obR ys) ∧ WRep h4 wb B ys ρ2' ∧ Off ρ2 h3 h4 ∧ Mine ρ2 ρ2' h3 := by
  rcases hc with ⟨hk, rfl, rfl, rfl⟩ | ⟨hk, rfl, rfl, rfl⟩ <;> rcases hC with ⟨hk', rfl, rfl, rfl⟩ | ⟨hk', rfl, on, ho, hon, rfl, ρ', R', o', m'⟩
  · exact ⟨rfl, rfl, xs, ρ2, p, R, .refl _ _, .refl _ _⟩
  · exact absurd ((known_perm p).2 hk') hk
  · exact absurd ((known_perm p).1 hk) hk'
  · have hp := kept_live p g hs ho hon
    have h1 := hp.length_eq
    have h2 := p.length_eq
    simp at h1 h2
    exact ⟨by omega, rfl, _, ρ', hp, R', o', m'⟩

theorem room_alike {lo : List Ob} {xs : List Row} (p : lo.Perm (obR xs)) {B' u le : Int} (g : HGood B' u le lo) (hs : (xs.map fun x => x.1.name).Pairwise (· < ·)) {B : Int} {n : Nat} {roots : List Int} {l1 : List Ob} {ys : List Row} (h : RoomN lo B n roots l1) (k : Room xs B n roots ys) : l1.Perm (obR ys) := by
  have ht := tot_perm p
  rcases h with ⟨h1, rfl⟩ | ⟨h1, rfl⟩ <;> rcases k with ⟨k1, rfl⟩ | ⟨k1, on, ho, hon, rfl⟩
  · exact p
  · omega
  · omega
  · exact kept_live p g hs ho hon
/-- Both allocate alike. -/
def AllocBoth (n e : Int) (lo' : List Ob) (h3 : AHeap) (wb : Nat) (B : Int) (ρ2 : Nat → Nat) : AEnd → AHeap → Prop := fun x h4 => ∃ ys ρ2', x = .ret (.tuple [.int .i64 n, .int .i64 e]) ∧ lo'.Perm (obR ys) ∧ WRep h4 wb B ys ρ2' ∧ Off ρ2 h3 h4 ∧ Mine ρ2 ρ2' h3
theorem alloc_alike {lo : List Ob} {xs : List Row} (p : lo.Perm (obR xs)) {B' u le : Int} (g : HGood B' u le lo) {h3 : AHeap} {wb : Nat} {B : Int} (hB : B ≤ 65536) {ρ2 : Nat → Nat} (R : WRep h3 wb B xs ρ2) {refs : List Bool} {roots : List Int} {n e : Int} {lo' : List Ob} (hA : AllocSaid lo B refs roots n e lo')
    {rv v : AV} (HR : SliceAt h3 1 rv (refs.map .bool)) (H : Ints h3 v roots) (hl : roots.length ≤ 4000000000) (hr : refs.length ≤ 4000000000) (ov : ∀ c, blkOf v = some c → ρ2 c = 0) (orv : ∀ c, blkOf rv = some c → ρ2 c = 0) :
    ACalls Try.prog N 43 [.ptr (some (wb, 0)), rv, v] h3 (AllocBoth n e lo' h3 wb B ρ2) := by
  obtain ⟨L, W, O⟩ := id R
  refine alloc_c hB R HR H (by omega) (by omega) ov orv _ ?_ ?_ ?_ ?_
  · intro h1
    rcases hA with ⟨_, rfl, rfl, rfl⟩ | ⟨h, _⟩ | ⟨h, _⟩
    · exact ⟨xs, ρ2, rfl, p, R, .refl _ _, .refl _ _⟩
    · omega
    · omega
  · intro h1 h2
    rcases hA with ⟨h, _⟩ | ⟨_, _, rfl, rfl, rfl⟩ | ⟨_, h, _⟩
    · omega
    · exact ⟨xs, ρ2, rfl, p, R, .refl _ _, .refl _ _⟩
    · exact absurd ((known_perm p).1 h) h2
  · intro h1 h2 ys ρ' h' hroom R' o' m' hfull
    rcases hA with ⟨h, _⟩ | ⟨_, h, _⟩ | ⟨_, _, l1, hr1, ⟨h4, rfl, rfl, rfl⟩ | ⟨h4, rfl, m, rfl, _⟩⟩
    · omega
    · exact absurd ((known_perm p).2 h2) h
    · exact ⟨ys, ρ', rfl, room_alike p g O.sorted hr1 hroom, R', o', m'⟩
    · have := tot_perm (room_alike p g O.sorted hr1 hroom); omega
  · intro h1 h2 ys ρ' h' k cv rv' hroom hfits hgap R' o' m'
    rcases hA with ⟨h, _⟩ | ⟨_, h, _⟩ | ⟨_, _, l1, hr1, ⟨h4, rfl, rfl, rfl⟩ | ⟨h4, rfl, m, rfl, hlf, rfl⟩⟩
    · omega
    · exact absurd ((known_perm p).2 h2) h
    · have := tot_perm (room_alike p g O.sorted hr1 hroom); omega
    · have hp := room_alike p g O.sorted hr1 hroom
      have hys : (ys.map fun x => x.1.name).Pairwise (· < ·) ∧ ∀ x ∈ ys, 1 ≤ x.1.name := by
        rcases hroom with ⟨_, rfl⟩ | ⟨_, on, ho, _, rfl⟩
        · exact ⟨O.sorted, O.pos⟩
        · exact ⟨O.sorted.sublist ((kept_sublist ho).map _), fun x hx => O.pos x (kept_sub x hx)⟩
      have := gap_least hp hys.1 hys.2 hgap hlf
      subst this
      exact ⟨_, ρ', rfl, ins_perm hp k (⟨k + 1, List.replicate refs.length 0, refs⟩, cv, rv'), R', o', m'⟩

/-- An act. -/
structure ActD where
  kind : Int
  o : Int
  i : Int
  n : Nat
  refs : List Bool
  roots : List Int
def ActAt (h : AHeap) (v : List AV) (a : ActD) : Prop := ∃ fv rv, v = [.int .i64 a.kind, .int .i64 a.o, .int .i64 a.i, .int .u64 a.n, fv, rv] ∧ RSlice h 1 fv (a.refs.map .bool) ∧ RSlice h 1 rv (a.roots.map (.int .i64)) ∧ a.n < 18446744073709551616 ∧ a.refs.length ≤ 2000000 ∧ a.roots.length ≤ 2000000
theorem ActAt.dom {h h' : AHeap} {v : List AV} {a : ActD} (A : ActAt h v a) (d : Dom h h') : ActAt h' v a := by
  obtain ⟨fv, rv, e, s1, s2, r⟩ := A
  exact ⟨fv, rv, e, s1.dom d, s2.dom d, r⟩
theorem Both.free {h0 h : AHeap} {hb wb : Nat} {B : Int} {lo : List Ob} {xs : List Row} {ρ1 ρ2 : Nat → Nat} (b : Both h0 h hb wb B lo xs ρ1 ρ2) {c : Nat} (hc : h0 c ≠ none) : ρ1 c = 0 ∧ ρ2 c = 0 := by
  refine ⟨?_, ?_⟩
  · by_cases e : ρ1 c = 0
    · exact e
    · exact absurd (b.new c (.inl e)) hc
  · by_cases e : ρ2 c = 0
    · exact e
    · exact absurd (b.new c (.inr e)) hc
theorem Both.free' {h0 h : AHeap} {hb wb : Nat} {B : Int} {lo : List Ob} {xs : List Row} {ρ1 ρ2 : Nat → Nat} (b : Both h0 h hb wb B lo xs ρ1 ρ2) {c : Nat} (hc : h c = none) : ρ1 c = 0 ∧ ρ2 c = 0 := by
  refine ⟨?_, ?_⟩
  · by_cases e : ρ1 c = 0
    · exact e
    · exact absurd hc (b.heap.dom c e)
  · by_cases e : ρ2 c = 0
    · exact e
    · exact absurd hc (b.ref.dom c e)
theorem ld_six {h : AHeap} {b : Nat} {a0 a1 a2 a3 a4 a5 : AV} {ro : Bool} (e : h b = some (.cells [a0, a1, a2, a3, a4, a5] ro)) :
    loadA h none (.ptr (some (b, 0 + 0))) = .val a0 h ∧ loadA h none (.ptr (some (b, 0 + 1))) = .val a1 h ∧ loadA h none (.ptr (some (b, 0 + 2))) = .val a2 h ∧ loadA h none (.ptr (some (b, 0 + 3))) = .val a3 h ∧ loadA h none (.ptr (some (b, 0 + 4))) = .val a4 h ∧ loadA h none (.ptr (some (b, 0 + 5))) = .val a5 h := by
  simp [loadA, e]
theorem stab_load {tm : TM} {h h' : AHeap} {n : Option Nat} {a : AOpd} {dst : Option Nat} {g : Option (Nat × Bool)} {af : List Nat} (hh : ∀ b o, a.ev tm = .ptr (some (b, o)) → h b ≠ none → h' b = h b) : stab tm h h' ⟨dst, .load n a, g, af⟩ := fun _ => by
  simp only [AOp.kind]
  intro d hd he
  exact loadA_at hh he

theorem act27_c {h0 h : AHeap} {hb wb : Nat} {B : Int} {lo : List Ob} {xs : List Row} {ρ1 ρ2 : Nat → Nat} (b : Both h0 h hb wb B lo xs ρ1 ρ2) (d0 : Dom h0 h) (hB : B ≤ 65536) {cs : List AV} {a : ActD} (A : ActAt h0 cs a) :
    ARets Try.prog N 27 [.ptr (some (hb, 0)), .ptr (some (wb, 0)), .agg cs] h fun r h' => r = .bool true ∧ Pair h0 h' hb wb B := by
  refine acalls_of_wp c27_ok mixed (by show 3 ≤ 201; decide) (wk_start ?_)
  unfold c27
  obtain ⟨fv, rv, rfl, Sf, Sr, hn64, hlf, hlr⟩ := A
  simp only [wk_skip, wk_region, wk_seq, wk_block, wk_cond, wk_exit, wk_ret, wk_draw, cnd_true, cnd_false, fin_nil, fin_seq, fin_seq_exit, fin_seq_ret, fin_seq_panic, fin_block, fin_block_exit, fin_block_ret, fin_block_panic, fin_loop, fin_loop_exit, fin_loop_ret, fin_loop_panic, ops_nil, ops_cons, ops_guard, res_val, res_new, main_nil, main_cons, main_guard, mres_val, mres_new, AOp.ev, AOpd.ev, evAll, evParts, evOpt, put_get, put_none, wantA, ARes.ofOpt, tmOf, List.getD_cons_zero, List.getD_cons_succ, Nat.reduceEqDiff, if_true, if_false, reduceIte, Nat.reduceAdd, Nat.reduceMul, binA, intOp, eqOp, nilOf, lenA_slice, callA, AV.cells, undefA, Option.map_some, Option.map_none, Bool.false_eq_true, reduceCtorEq, beq_false, beq_true, g_true, g_false, mg_true, mg_false, Bool.not_true, Bool.not_false, decide_true, decide_false, not_true_eq_false, not_false_eq_true, List.nil_append, List.cons_append, List.append_nil, Option.isNone_some, Option.isNone_none, List.getElem?_cons_zero, List.getElem?_cons_succ]
  intro bx hbx
  have mx := More.upd hbx (.cells [.int .i64 a.kind, .int .i64 a.o, .int .i64 a.i, .int .u64 a.n, fv, rv] false)
  have b1 := b.more mx
  have dx : Dom h0 _ := d0.trans (Dom.new hbx (.cells [.int .i64 a.kind, .int .i64 a.o, .int .i64 a.i, .int .u64 a.n, fv, rv] false))
  have hx : (h.upd bx (.cells [.int .i64 a.kind, .int .i64 a.o, .int .i64 a.i, .int .u64 a.n, fv, rv] false)) bx = _ := AHeap.upd_same _ _ _
  have fx := b.free' hbx
  generalize h.upd bx (.cells [.int .i64 a.kind, .int .i64 a.o, .int .i64 a.i, .int .u64 a.n, fv, rv] false) = h1 at *
  have Sf1 := Sf.dom dx
  have Sr1 := Sr.dom dx
  have dom0 : ∀ v c, (∃ cs, SliceAt h0 1 v cs) → blkOf v = some c → ρ1 c = 0 ∧ ρ2 c = 0 := fun v c ⟨cs, s⟩ hc => b.free (s.dom hc)
  obtain ⟨M, used, least, os, hos, H, g, O⟩ := id b1.heap
  obtain ⟨L, W, Ow⟩ := id b1.ref
  have hrl : ∀ (v : AV) (h' : AHeap) (l : List Int), Ints h' v l → l.length ≤ 2000000 → True := fun _ _ _ _ _ => trivial
  simp only [wk_skip, wk_region, wk_seq, wk_block, wk_cond, wk_exit, wk_ret, wk_draw, cnd_true, cnd_false, fin_nil, fin_seq, fin_seq_exit, fin_seq_ret, fin_seq_panic, fin_block, fin_block_exit, fin_block_ret, fin_block_panic, fin_loop, fin_loop_exit, fin_loop_ret, fin_loop_panic, ops_nil, ops_cons, ops_guard, res_val, res_new, main_nil, main_cons, main_guard, mres_val, mres_new, AOp.ev, AOpd.ev, evAll, evParts, evOpt, put_get, put_none, wantA, ARes.ofOpt, tmOf, List.getD_cons_zero, List.getD_cons_succ, Nat.reduceEqDiff, if_true, if_false, reduceIte, Nat.reduceAdd, Nat.reduceMul, binA, intOp, eqOp, nilOf, lenA_slice, callA, AV.cells, undefA, Option.map_some, Option.map_none, Bool.false_eq_true, reduceCtorEq, beq_false, beq_true, g_true, g_false, mg_true, mg_false, Bool.not_true, Bool.not_false, decide_true, decide_false, not_true_eq_false, not_false_eq_true, List.nil_append, List.cons_append, List.append_nil, Option.isNone_some, Option.isNone_none, List.getElem?_cons_zero, List.getElem?_cons_succ, (ld_six hx).1]
  refine cond_dec (fun k1 => ?_) (fun k1 => ?_)
  · -- Get
    simp only [wk_skip, wk_region, wk_seq, wk_block, wk_cond, wk_exit, wk_ret, wk_draw, cnd_true, cnd_false, fin_nil, fin_seq, fin_seq_exit, fin_seq_ret, fin_seq_panic, fin_block, fin_block_exit, fin_block_ret, fin_block_panic, fin_loop, fin_loop_exit, fin_loop_ret, fin_loop_panic, ops_nil, ops_cons, ops_guard, res_val, res_new, main_nil, main_cons, main_guard, mres_val, mres_new, AOp.ev, AOpd.ev, evAll, evParts, evOpt, put_get, put_none, wantA, ARes.ofOpt, tmOf, List.getD_cons_zero, List.getD_cons_succ, Nat.reduceEqDiff, if_true, if_false, reduceIte, Nat.reduceAdd, Nat.reduceMul, binA, intOp, eqOp, nilOf, lenA_slice, callA, AV.cells, undefA, Option.map_some, Option.map_none, Bool.false_eq_true, reduceCtorEq, beq_false, beq_true, g_true, g_false, mg_true, mg_false, Bool.not_true, Bool.not_false, decide_true, decide_false, not_true_eq_false, not_false_eq_true, List.nil_append, List.cons_append, List.append_nil, Option.isNone_some, Option.isNone_none, List.getElem?_cons_zero, List.getElem?_cons_succ, (ld_six hx).2.1, (ld_six hx).2.2.1]
    refine res_ret (get16_c H (hos ▸ g) a.o a.i) ?_
    rintro r h2 d2 ⟨rfl, n, q, e, rfl, hg⟩
    simp only [wk_skip, wk_region, wk_seq, wk_block, wk_cond, wk_exit, wk_ret, wk_draw, cnd_true, cnd_false, fin_nil, fin_seq, fin_seq_exit, fin_seq_ret, fin_seq_panic, fin_block, fin_block_exit, fin_block_ret, fin_block_panic, fin_loop, fin_loop_exit, fin_loop_ret, fin_loop_panic, ops_nil, ops_cons, ops_guard, res_val, res_new, main_nil, main_cons, main_guard, mres_val, mres_new, AOp.ev, AOpd.ev, evAll, evParts, evOpt, put_get, put_none, wantA, ARes.ofOpt, tmOf, List.getD_cons_zero, List.getD_cons_succ, Nat.reduceEqDiff, if_true, if_false, reduceIte, Nat.reduceAdd, Nat.reduceMul, binA, intOp, eqOp, nilOf, lenA_slice, callA, AV.cells, undefA, Option.map_some, Option.map_none, Bool.false_eq_true, reduceCtorEq, beq_false, beq_true, g_true, g_false, mg_true, mg_false, Bool.not_true, Bool.not_false, decide_true, decide_false, not_true_eq_false, not_false_eq_true, List.nil_append, List.cons_append, List.append_nil, Option.isNone_some, Option.isNone_none, List.getElem?_cons_zero, List.getElem?_cons_succ, (ld_six hx).2.1, (ld_six hx).2.2.1]
    refine res_call (cell_c W a.o a.i) ?_ ?_
    · rintro u h3 ⟨rfl, n', q', e', he, hc⟩
      cases he
      rw [hos] at hg
      obtain ⟨rfl, rfl, rfl⟩ := get_one g.names hg (get_perm b.same.symm (cell_get hc))
      simp only [wk_skip, wk_region, wk_seq, wk_block, wk_cond, wk_exit, wk_ret, wk_draw, cnd_true, cnd_false, fin_nil, fin_seq, fin_seq_exit, fin_seq_ret, fin_seq_panic, fin_block, fin_block_exit, fin_block_ret, fin_block_panic, fin_loop, fin_loop_exit, fin_loop_ret, fin_loop_panic, ops_nil, ops_cons, ops_guard, res_val, res_new, main_nil, main_cons, main_guard, mres_val, mres_new, AOp.ev, AOpd.ev, evAll, evParts, evOpt, put_get, put_none, wantA, ARes.ofOpt, tmOf, List.getD_cons_zero, List.getD_cons_succ, Nat.reduceEqDiff, if_true, if_false, reduceIte, Nat.reduceAdd, Nat.reduceMul, binA, intOp, eqOp, nilOf, lenA_slice, callA, AV.cells, undefA, Option.map_some, Option.map_none, Bool.false_eq_true, reduceCtorEq, beq_false, beq_true, g_true, g_false, mg_true, mg_false, Bool.not_true, Bool.not_false, decide_true, decide_false, not_true_eq_false, not_false_eq_true, List.nil_append, List.cons_append, List.append_nil, Option.isNone_some, Option.isNone_none, List.getElem?_cons_zero, List.getElem?_cons_succ]
      exact fnEnd_ret1 ⟨by simp [TM.put], lo, xs, ρ1, ρ2, b1⟩
    · rintro u h3 ⟨_, _, _, _, e, _⟩; cases e
  simp only [wk_skip, wk_region, wk_seq, wk_block, wk_cond, wk_exit, wk_ret, wk_draw, cnd_true, cnd_false, fin_nil, fin_seq, fin_seq_exit, fin_seq_ret, fin_seq_panic, fin_block, fin_block_exit, fin_block_ret, fin_block_panic, fin_loop, fin_loop_exit, fin_loop_ret, fin_loop_panic, ops_nil, ops_cons, ops_guard, res_val, res_new, main_nil, main_cons, main_guard, mres_val, mres_new, AOp.ev, AOpd.ev, evAll, evParts, evOpt, put_get, put_none, wantA, ARes.ofOpt, tmOf, List.getD_cons_zero, List.getD_cons_succ, Nat.reduceEqDiff, if_true, if_false, reduceIte, Nat.reduceAdd, Nat.reduceMul, binA, intOp, eqOp, nilOf, lenA_slice, callA, AV.cells, undefA, Option.map_some, Option.map_none, Bool.false_eq_true, reduceCtorEq, beq_false, beq_true, g_true, g_false, mg_true, mg_false, Bool.not_true, Bool.not_false, decide_true, decide_false, not_true_eq_false, not_false_eq_true, List.nil_append, List.cons_append, List.append_nil, Option.isNone_some, Option.isNone_none, List.getElem?_cons_zero, List.getElem?_cons_succ]
  refine cond_dec (fun k2 => ?_) (fun k2 => ?_)
  · -- Set
    simp only [wk_skip, wk_region, wk_seq, wk_block, wk_cond, wk_exit, wk_ret, wk_draw, cnd_true, cnd_false, fin_nil, fin_seq, fin_seq_exit, fin_seq_ret, fin_seq_panic, fin_block, fin_block_exit, fin_block_ret, fin_block_panic, fin_loop, fin_loop_exit, fin_loop_ret, fin_loop_panic, ops_nil, ops_cons, ops_guard, res_val, res_new, main_nil, main_cons, main_guard, mres_val, mres_new, AOp.ev, AOpd.ev, evAll, evParts, evOpt, put_get, put_none, wantA, ARes.ofOpt, tmOf, List.getD_cons_zero, List.getD_cons_succ, Nat.reduceEqDiff, if_true, if_false, reduceIte, Nat.reduceAdd, Nat.reduceMul, binA, intOp, eqOp, nilOf, lenA_slice, callA, AV.cells, undefA, Option.map_some, Option.map_none, Bool.false_eq_true, reduceCtorEq, beq_false, beq_true, g_true, g_false, mg_true, mg_false, Bool.not_true, Bool.not_false, decide_true, decide_false, not_true_eq_false, not_false_eq_true, List.nil_append, List.cons_append, List.append_nil, Option.isNone_some, Option.isNone_none, List.getElem?_cons_zero, List.getElem?_cons_succ, (ld_six hx).2.1, (ld_six hx).2.2.1, (ld_six hx).2.2.2.1]
    refine mres_ret (set29_c b1.heap a.o a.i a.n hn64) ?_
    rintro r h2 d2 ⟨e, lo', rfl, hS, R2, off2⟩
    have h2x := off2 bx fx.1 (by rw [hx]; simp)
    have hx2 : h2 bx = some (.cells [.int .i64 a.kind, .int .i64 a.o, .int .i64 a.i, .int .u64 a.n, fv, rv] false) := h2x.trans hx
    obtain ⟨r1, r2, r3⟩ := b1.heap' R2 off2 (.refl _ _)
    refine ⟨⟨stab_load fun b o e _ => ?_, stab_load fun b o e _ => ?_, stab_load fun b o e _ => ?_, trivial⟩, ?_⟩
    · simp only [wk_skip, wk_region, wk_seq, wk_block, wk_cond, wk_exit, wk_ret, wk_draw, cnd_true, cnd_false, fin_nil, fin_seq, fin_seq_exit, fin_seq_ret, fin_seq_panic, fin_block, fin_block_exit, fin_block_ret, fin_block_panic, fin_loop, fin_loop_exit, fin_loop_ret, fin_loop_panic, ops_nil, ops_cons, ops_guard, res_val, res_new, main_nil, main_cons, main_guard, mres_val, mres_new, AOp.ev, AOpd.ev, evAll, evParts, evOpt, put_get, put_none, wantA, ARes.ofOpt, tmOf, List.getD_cons_zero, List.getD_cons_succ, Nat.reduceEqDiff, if_true, if_false, reduceIte, Nat.reduceAdd, Nat.reduceMul, binA, intOp, eqOp, nilOf, lenA_slice, callA, AV.cells, undefA, Option.map_some, Option.map_none, Bool.false_eq_true, reduceCtorEq, beq_false, beq_true, g_true, g_false, mg_true, mg_false, Bool.not_true, Bool.not_false, decide_true, decide_false, not_true_eq_false, not_false_eq_true, List.nil_append, List.cons_append, List.append_nil, Option.isNone_some, Option.isNone_none, List.getElem?_cons_zero, List.getElem?_cons_succ, AV.ptr.injEq, Option.some.injEq, Prod.mk.injEq] at e; rw [← e.1]; exact h2x
    · simp only [wk_skip, wk_region, wk_seq, wk_block, wk_cond, wk_exit, wk_ret, wk_draw, cnd_true, cnd_false, fin_nil, fin_seq, fin_seq_exit, fin_seq_ret, fin_seq_panic, fin_block, fin_block_exit, fin_block_ret, fin_block_panic, fin_loop, fin_loop_exit, fin_loop_ret, fin_loop_panic, ops_nil, ops_cons, ops_guard, res_val, res_new, main_nil, main_cons, main_guard, mres_val, mres_new, AOp.ev, AOpd.ev, evAll, evParts, evOpt, put_get, put_none, wantA, ARes.ofOpt, tmOf, List.getD_cons_zero, List.getD_cons_succ, Nat.reduceEqDiff, if_true, if_false, reduceIte, Nat.reduceAdd, Nat.reduceMul, binA, intOp, eqOp, nilOf, lenA_slice, callA, AV.cells, undefA, Option.map_some, Option.map_none, Bool.false_eq_true, reduceCtorEq, beq_false, beq_true, g_true, g_false, mg_true, mg_false, Bool.not_true, Bool.not_false, decide_true, decide_false, not_true_eq_false, not_false_eq_true, List.nil_append, List.cons_append, List.append_nil, Option.isNone_some, Option.isNone_none, List.getElem?_cons_zero, List.getElem?_cons_succ, AV.ptr.injEq, Option.some.injEq, Prod.mk.injEq] at e; rw [← e.1]; exact h2x
    · simp only [wk_skip, wk_region, wk_seq, wk_block, wk_cond, wk_exit, wk_ret, wk_draw, cnd_true, cnd_false, fin_nil, fin_seq, fin_seq_exit, fin_seq_ret, fin_seq_panic, fin_block, fin_block_exit, fin_block_ret, fin_block_panic, fin_loop, fin_loop_exit, fin_loop_ret, fin_loop_panic, ops_nil, ops_cons, ops_guard, res_val, res_new, main_nil, main_cons, main_guard, mres_val, mres_new, AOp.ev, AOpd.ev, evAll, evParts, evOpt, put_get, put_none, wantA, ARes.ofOpt, tmOf, List.getD_cons_zero, List.getD_cons_succ, Nat.reduceEqDiff, if_true, if_false, reduceIte, Nat.reduceAdd, Nat.reduceMul, binA, intOp, eqOp, nilOf, lenA_slice, callA, AV.cells, undefA, Option.map_some, Option.map_none, Bool.false_eq_true, reduceCtorEq, beq_false, beq_true, g_true, g_false, mg_true, mg_false, Bool.not_true, Bool.not_false, decide_true, decide_false, not_true_eq_false, not_false_eq_true, List.nil_append, List.cons_append, List.append_nil, Option.isNone_some, Option.isNone_none, List.getElem?_cons_zero, List.getElem?_cons_succ, AV.ptr.injEq, Option.some.injEq, Prod.mk.injEq] at e; rw [← e.1]; exact h2x
    simp only [wk_skip, wk_region, wk_seq, wk_block, wk_cond, wk_exit, wk_ret, wk_draw, cnd_true, cnd_false, fin_nil, fin_seq, fin_seq_exit, fin_seq_ret, fin_seq_panic, fin_block, fin_block_exit, fin_block_ret, fin_block_panic, fin_loop, fin_loop_exit, fin_loop_ret, fin_loop_panic, ops_nil, ops_cons, ops_guard, res_val, res_new, main_nil, main_cons, main_guard, mres_val, mres_new, AOp.ev, AOpd.ev, evAll, evParts, evOpt, put_get, put_none, wantA, ARes.ofOpt, tmOf, List.getD_cons_zero, List.getD_cons_succ, Nat.reduceEqDiff, if_true, if_false, reduceIte, Nat.reduceAdd, Nat.reduceMul, binA, intOp, eqOp, nilOf, lenA_slice, callA, AV.cells, undefA, Option.map_some, Option.map_none, Bool.false_eq_true, reduceCtorEq, beq_false, beq_true, g_true, g_false, mg_true, mg_false, Bool.not_true, Bool.not_false, decide_true, decide_false, not_true_eq_false, not_false_eq_true, List.nil_append, List.cons_append, List.append_nil, Option.isNone_some, Option.isNone_none, List.getElem?_cons_zero, List.getElem?_cons_succ]
    refine res_call (put_c r1 a.o a.i a.n hn64) ?_ ?_
    · rintro u h3 ⟨e', ys, he, hP, R3, off3⟩
      cases he
      obtain ⟨rfl, hp⟩ := set_put b.same g Ow.sorted hS hP
      simp only [wk_skip, wk_region, wk_seq, wk_block, wk_cond, wk_exit, wk_ret, wk_draw, cnd_true, cnd_false, fin_nil, fin_seq, fin_seq_exit, fin_seq_ret, fin_seq_panic, fin_block, fin_block_exit, fin_block_ret, fin_block_panic, fin_loop, fin_loop_exit, fin_loop_ret, fin_loop_panic, ops_nil, ops_cons, ops_guard, res_val, res_new, main_nil, main_cons, main_guard, mres_val, mres_new, AOp.ev, AOpd.ev, evAll, evParts, evOpt, put_get, put_none, wantA, ARes.ofOpt, tmOf, List.getD_cons_zero, List.getD_cons_succ, Nat.reduceEqDiff, if_true, if_false, reduceIte, Nat.reduceAdd, Nat.reduceMul, binA, intOp, eqOp, nilOf, lenA_slice, callA, AV.cells, undefA, Option.map_some, Option.map_none, Bool.false_eq_true, reduceCtorEq, beq_false, beq_true, g_true, g_false, mg_true, mg_false, Bool.not_true, Bool.not_false, decide_true, decide_false, not_true_eq_false, not_false_eq_true, List.nil_append, List.cons_append, List.append_nil, Option.isNone_some, Option.isNone_none, List.getElem?_cons_zero, List.getElem?_cons_succ]
      exact fnEnd_ret1 ⟨by simp [TM.put], lo', ys, ρ1, ρ2, Both.ref' (xs := xs) R2 r2 (r3 dx) (dx.trans d2) R3 off3 (.refl _ _) hp⟩
    · rintro u h3 ⟨_, _, e, _⟩; cases e
  simp only [wk_skip, wk_region, wk_seq, wk_block, wk_cond, wk_exit, wk_ret, wk_draw, cnd_true, cnd_false, fin_nil, fin_seq, fin_seq_exit, fin_seq_ret, fin_seq_panic, fin_block, fin_block_exit, fin_block_ret, fin_block_panic, fin_loop, fin_loop_exit, fin_loop_ret, fin_loop_panic, ops_nil, ops_cons, ops_guard, res_val, res_new, main_nil, main_cons, main_guard, mres_val, mres_new, AOp.ev, AOpd.ev, evAll, evParts, evOpt, put_get, put_none, wantA, ARes.ofOpt, tmOf, List.getD_cons_zero, List.getD_cons_succ, Nat.reduceEqDiff, if_true, if_false, reduceIte, Nat.reduceAdd, Nat.reduceMul, binA, intOp, eqOp, nilOf, lenA_slice, callA, AV.cells, undefA, Option.map_some, Option.map_none, Bool.false_eq_true, reduceCtorEq, beq_false, beq_true, g_true, g_false, mg_true, mg_false, Bool.not_true, Bool.not_false, decide_true, decide_false, not_true_eq_false, not_false_eq_true, List.nil_append, List.cons_append, List.append_nil, Option.isNone_some, Option.isNone_none, List.getElem?_cons_zero, List.getElem?_cons_succ]
  refine cond_dec (fun k3 => ?_) (fun k3 => ?_)
  · -- Len
    simp only [wk_skip, wk_region, wk_seq, wk_block, wk_cond, wk_exit, wk_ret, wk_draw, cnd_true, cnd_false, fin_nil, fin_seq, fin_seq_exit, fin_seq_ret, fin_seq_panic, fin_block, fin_block_exit, fin_block_ret, fin_block_panic, fin_loop, fin_loop_exit, fin_loop_ret, fin_loop_panic, ops_nil, ops_cons, ops_guard, res_val, res_new, main_nil, main_cons, main_guard, mres_val, mres_new, AOp.ev, AOpd.ev, evAll, evParts, evOpt, put_get, put_none, wantA, ARes.ofOpt, tmOf, List.getD_cons_zero, List.getD_cons_succ, Nat.reduceEqDiff, if_true, if_false, reduceIte, Nat.reduceAdd, Nat.reduceMul, binA, intOp, eqOp, nilOf, lenA_slice, callA, AV.cells, undefA, Option.map_some, Option.map_none, Bool.false_eq_true, reduceCtorEq, beq_false, beq_true, g_true, g_false, mg_true, mg_false, Bool.not_true, Bool.not_false, decide_true, decide_false, not_true_eq_false, not_false_eq_true, List.nil_append, List.cons_append, List.append_nil, Option.isNone_some, Option.isNone_none, List.getElem?_cons_zero, List.getElem?_cons_succ, (ld_six hx).2.1]
    refine res_ret (len15_c H (hos ▸ g) a.o) ?_
    rintro r h2 d2 ⟨rfl, n, e, rfl, hl⟩
    simp only [wk_skip, wk_region, wk_seq, wk_block, wk_cond, wk_exit, wk_ret, wk_draw, cnd_true, cnd_false, fin_nil, fin_seq, fin_seq_exit, fin_seq_ret, fin_seq_panic, fin_block, fin_block_exit, fin_block_ret, fin_block_panic, fin_loop, fin_loop_exit, fin_loop_ret, fin_loop_panic, ops_nil, ops_cons, ops_guard, res_val, res_new, main_nil, main_cons, main_guard, mres_val, mres_new, AOp.ev, AOpd.ev, evAll, evParts, evOpt, put_get, put_none, wantA, ARes.ofOpt, tmOf, List.getD_cons_zero, List.getD_cons_succ, Nat.reduceEqDiff, if_true, if_false, reduceIte, Nat.reduceAdd, Nat.reduceMul, binA, intOp, eqOp, nilOf, lenA_slice, callA, AV.cells, undefA, Option.map_some, Option.map_none, Bool.false_eq_true, reduceCtorEq, beq_false, beq_true, g_true, g_false, mg_true, mg_false, Bool.not_true, Bool.not_false, decide_true, decide_false, not_true_eq_false, not_false_eq_true, List.nil_append, List.cons_append, List.append_nil, Option.isNone_some, Option.isNone_none, List.getElem?_cons_zero, List.getElem?_cons_succ, (ld_six hx).2.1]
    refine res_call (at_c W a.o) ?_ ?_
    · rintro u h3 ⟨rfl, q, he, hq⟩
      cases he
      simp only [wk_skip, wk_region, wk_seq, wk_block, wk_cond, wk_exit, wk_ret, wk_draw, cnd_true, cnd_false, fin_nil, fin_seq, fin_seq_exit, fin_seq_ret, fin_seq_panic, fin_block, fin_block_exit, fin_block_ret, fin_block_panic, fin_loop, fin_loop_exit, fin_loop_ret, fin_loop_panic, ops_nil, ops_cons, ops_guard, res_val, res_new, main_nil, main_cons, main_guard, mres_val, mres_new, AOp.ev, AOpd.ev, evAll, evParts, evOpt, put_get, put_none, wantA, ARes.ofOpt, tmOf, List.getD_cons_zero, List.getD_cons_succ, Nat.reduceEqDiff, if_true, if_false, reduceIte, Nat.reduceAdd, Nat.reduceMul, binA, intOp, eqOp, nilOf, lenA_slice, callA, AV.cells, undefA, Option.map_some, Option.map_none, Bool.false_eq_true, reduceCtorEq, beq_false, beq_true, g_true, g_false, mg_true, mg_false, Bool.not_true, Bool.not_false, decide_true, decide_false, not_true_eq_false, not_false_eq_true, List.nil_append, List.cons_append, List.append_nil, Option.isNone_some, Option.isNone_none, List.getElem?_cons_zero, List.getElem?_cons_succ]
      refine cond_dec (fun hneg => ?_) (fun hneg => ?_)
      · have hno := hq.neg.1 hneg
        rcases hl with ⟨_, rfl, rfl⟩ | ⟨x, hxo, hxn, _⟩
        · simp only [wk_skip, wk_region, wk_seq, wk_block, wk_cond, wk_exit, wk_ret, wk_draw, cnd_true, cnd_false, fin_nil, fin_seq, fin_seq_exit, fin_seq_ret, fin_seq_panic, fin_block, fin_block_exit, fin_block_ret, fin_block_panic, fin_loop, fin_loop_exit, fin_loop_ret, fin_loop_panic, ops_nil, ops_cons, ops_guard, res_val, res_new, main_nil, main_cons, main_guard, mres_val, mres_new, AOp.ev, AOpd.ev, evAll, evParts, evOpt, put_get, put_none, wantA, ARes.ofOpt, tmOf, List.getD_cons_zero, List.getD_cons_succ, Nat.reduceEqDiff, if_true, if_false, reduceIte, Nat.reduceAdd, Nat.reduceMul, binA, intOp, eqOp, nilOf, lenA_slice, callA, AV.cells, undefA, Option.map_some, Option.map_none, Bool.false_eq_true, reduceCtorEq, beq_false, beq_true, g_true, g_false, mg_true, mg_false, Bool.not_true, Bool.not_false, decide_true, decide_false, not_true_eq_false, not_false_eq_true, List.nil_append, List.cons_append, List.append_nil, Option.isNone_some, Option.isNone_none, List.getElem?_cons_zero, List.getElem?_cons_succ]
          exact fnEnd_ret1 ⟨by simp [TM.put], lo, xs, ρ1, ρ2, b1⟩
        · have : x.ob ∈ obR xs := b.same.mem_iff.1 (hos ▸ mem_obs hxo)
          obtain ⟨y, hy, e⟩ := obR_mem.1 this
          exact absurd ⟨y, hy, by rw [e]; exact hxn⟩ hno
      · rcases hq with ⟨rfl, _⟩ | ⟨k, hk, rfl, hkn⟩
        · omega
        · rcases hl with ⟨hno, rfl, rfl⟩ | ⟨x, hxo, hxn, rfl, rfl⟩
          · have : xs[k].1 ∈ obsOf os := by rw [hos]; exact b.same.mem_iff.2 (obR_mem.2 ⟨_, List.getElem_mem hk, rfl⟩)
            obtain ⟨y, hy, e⟩ := of_obs this
            exact absurd (by rw [e]; exact hkn) (hno y hy)
          · have hob : x.ob = xs[k].1 := by
              refine g.inj (hos ▸ mem_obs hxo) (b.same.mem_iff.2 (obR_mem.2 ⟨_, List.getElem_mem hk, rfl⟩)) (by omega)
            obtain ⟨c, o, g1, _, g2, _⟩ := W.row k hk
            have g3 := (W.cells _ (List.getElem_mem hk)).len xs[k].1.cells.length (by simp) (by omega)
            simp only [wk_skip, wk_region, wk_seq, wk_block, wk_cond, wk_exit, wk_ret, wk_draw, cnd_true, cnd_false, fin_nil, fin_seq, fin_seq_exit, fin_seq_ret, fin_seq_panic, fin_block, fin_block_exit, fin_block_ret, fin_block_panic, fin_loop, fin_loop_exit, fin_loop_ret, fin_loop_panic, ops_nil, ops_cons, ops_guard, res_val, res_new, main_nil, main_cons, main_guard, mres_val, mres_new, AOp.ev, AOpd.ev, evAll, evParts, evOpt, put_get, put_none, wantA, ARes.ofOpt, tmOf, List.getD_cons_zero, List.getD_cons_succ, Nat.reduceEqDiff, if_true, if_false, reduceIte, Nat.reduceAdd, Nat.reduceMul, binA, intOp, eqOp, nilOf, lenA_slice, callA, AV.cells, undefA, Option.map_some, Option.map_none, Bool.false_eq_true, reduceCtorEq, beq_false, beq_true, g_true, g_false, mg_true, mg_false, Bool.not_true, Bool.not_false, decide_true, decide_false, not_true_eq_false, not_false_eq_true, List.nil_append, List.cons_append, List.append_nil, Option.isNone_some, Option.isNone_none, List.getElem?_cons_zero, List.getElem?_cons_succ, nilCheck_ptr, W.ld0, g1, g2, g3, hob]
            exact fnEnd_ret1 ⟨by simp [TM.put], lo, xs, ρ1, ρ2, b1⟩
    · rintro u h3 ⟨_, _, e, _⟩; cases e
  simp only [wk_skip, wk_region, wk_seq, wk_block, wk_cond, wk_exit, wk_ret, wk_draw, cnd_true, cnd_false, fin_nil, fin_seq, fin_seq_exit, fin_seq_ret, fin_seq_panic, fin_block, fin_block_exit, fin_block_ret, fin_block_panic, fin_loop, fin_loop_exit, fin_loop_ret, fin_loop_panic, ops_nil, ops_cons, ops_guard, res_val, res_new, main_nil, main_cons, main_guard, mres_val, mres_new, AOp.ev, AOpd.ev, evAll, evParts, evOpt, put_get, put_none, wantA, ARes.ofOpt, tmOf, List.getD_cons_zero, List.getD_cons_succ, Nat.reduceEqDiff, if_true, if_false, reduceIte, Nat.reduceAdd, Nat.reduceMul, binA, intOp, eqOp, nilOf, lenA_slice, callA, AV.cells, undefA, Option.map_some, Option.map_none, Bool.false_eq_true, reduceCtorEq, beq_false, beq_true, g_true, g_false, mg_true, mg_false, Bool.not_true, Bool.not_false, decide_true, decide_false, not_true_eq_false, not_false_eq_true, List.nil_append, List.cons_append, List.append_nil, Option.isNone_some, Option.isNone_none, List.getElem?_cons_zero, List.getElem?_cons_succ]
  refine cond_dec (fun k4 => ?_) (fun k4 => ?_)
  · -- Collect
    simp only [wk_skip, wk_region, wk_seq, wk_block, wk_cond, wk_exit, wk_ret, wk_draw, cnd_true, cnd_false, fin_nil, fin_seq, fin_seq_exit, fin_seq_ret, fin_seq_panic, fin_block, fin_block_exit, fin_block_ret, fin_block_panic, fin_loop, fin_loop_exit, fin_loop_ret, fin_loop_panic, ops_nil, ops_cons, ops_guard, res_val, res_new, main_nil, main_cons, main_guard, mres_val, mres_new, AOp.ev, AOpd.ev, evAll, evParts, evOpt, put_get, put_none, wantA, ARes.ofOpt, tmOf, List.getD_cons_zero, List.getD_cons_succ, Nat.reduceEqDiff, if_true, if_false, reduceIte, Nat.reduceAdd, Nat.reduceMul, binA, intOp, eqOp, nilOf, lenA_slice, callA, AV.cells, undefA, Option.map_some, Option.map_none, Bool.false_eq_true, reduceCtorEq, beq_false, beq_true, g_true, g_false, mg_true, mg_false, Bool.not_true, Bool.not_false, decide_true, decide_false, not_true_eq_false, not_false_eq_true, List.nil_append, List.cons_append, List.append_nil, Option.isNone_some, Option.isNone_none, List.getElem?_cons_zero, List.getElem?_cons_succ, (ld_six hx).2.2.2.2.2]
    refine res_ret (ints13_c Sr1.at_ (by simp; omega) (by simp [AV.oneCell])) ?_
    intro w h2 d2 G2
    have b2 := b1.more G2.more
    have hx2 : h2 bx = _ := G2.more.at_ hx
    simp only [wk_skip, wk_region, wk_seq, wk_block, wk_cond, wk_exit, wk_ret, wk_draw, cnd_true, cnd_false, fin_nil, fin_seq, fin_seq_exit, fin_seq_ret, fin_seq_panic, fin_block, fin_block_exit, fin_block_ret, fin_block_panic, fin_loop, fin_loop_exit, fin_loop_ret, fin_loop_panic, ops_nil, ops_cons, ops_guard, res_val, res_new, main_nil, main_cons, main_guard, mres_val, mres_new, AOp.ev, AOpd.ev, evAll, evParts, evOpt, put_get, put_none, wantA, ARes.ofOpt, tmOf, List.getD_cons_zero, List.getD_cons_succ, Nat.reduceEqDiff, if_true, if_false, reduceIte, Nat.reduceAdd, Nat.reduceMul, binA, intOp, eqOp, nilOf, lenA_slice, callA, AV.cells, undefA, Option.map_some, Option.map_none, Bool.false_eq_true, reduceCtorEq, beq_false, beq_true, g_true, g_false, mg_true, mg_false, Bool.not_true, Bool.not_false, decide_true, decide_false, not_true_eq_false, not_false_eq_true, List.nil_append, List.cons_append, List.append_nil, Option.isNone_some, Option.isNone_none, List.getElem?_cons_zero, List.getElem?_cons_succ]
    refine res_ret (collect22_c b2.heap G2.at_ (by omega)) ?_
    rintro r h3 d3 ⟨n, e, rfl, off3, hc⟩
    have hx3 : h3 bx = _ := (off3 bx fx.1 (by rw [hx2]; simp)).trans hx2
    obtain ⟨lo', R3, hC⟩ : ∃ lo', HRep h3 hb B lo' ρ1 ∧ CollN lo a.roots n e lo' := by
      rcases hc with ⟨h1, h2, h3, h4⟩ | ⟨h1, h2, h3, h4⟩
      · exact ⟨_, h4, .inl ⟨h1, h2, h3, rfl⟩⟩
      · exact ⟨_, h4, .inr ⟨h1, h2, h3, rfl⟩⟩
    obtain ⟨r1, r2, r3⟩ := b2.heap' R3 off3 (.refl _ _)
    have dd := (dx.trans d2).trans d3
    simp only [wk_skip, wk_region, wk_seq, wk_block, wk_cond, wk_exit, wk_ret, wk_draw, cnd_true, cnd_false, fin_nil, fin_seq, fin_seq_exit, fin_seq_ret, fin_seq_panic, fin_block, fin_block_exit, fin_block_ret, fin_block_panic, fin_loop, fin_loop_exit, fin_loop_ret, fin_loop_panic, ops_nil, ops_cons, ops_guard, res_val, res_new, main_nil, main_cons, main_guard, mres_val, mres_new, AOp.ev, AOpd.ev, evAll, evParts, evOpt, put_get, put_none, wantA, ARes.ofOpt, tmOf, List.getD_cons_zero, List.getD_cons_succ, Nat.reduceEqDiff, if_true, if_false, reduceIte, Nat.reduceAdd, Nat.reduceMul, binA, intOp, eqOp, nilOf, lenA_slice, callA, AV.cells, undefA, Option.map_some, Option.map_none, Bool.false_eq_true, reduceCtorEq, beq_false, beq_true, g_true, g_false, mg_true, mg_false, Bool.not_true, Bool.not_false, decide_true, decide_false, not_true_eq_false, not_false_eq_true, List.nil_append, List.cons_append, List.append_nil, Option.isNone_some, Option.isNone_none, List.getElem?_cons_zero, List.getElem?_cons_succ, (ld_six hx3).2.2.2.2.2]
    refine res_call (collect_c r1 (Sr1.dom (d2.trans d3)).at_ (by omega)) ?_ ?_
    · rintro w h4 ⟨n', e', he, hcs⟩
      cases he
      obtain ⟨rfl, rfl, ys, ρ2', hp, R4, off4, m4⟩ := coll_alike b.same g Ow.sorted hC r1 hcs
      simp only [wk_skip, wk_region, wk_seq, wk_block, wk_cond, wk_exit, wk_ret, wk_draw, cnd_true, cnd_false, fin_nil, fin_seq, fin_seq_exit, fin_seq_ret, fin_seq_panic, fin_block, fin_block_exit, fin_block_ret, fin_block_panic, fin_loop, fin_loop_exit, fin_loop_ret, fin_loop_panic, ops_nil, ops_cons, ops_guard, res_val, res_new, main_nil, main_cons, main_guard, mres_val, mres_new, AOp.ev, AOpd.ev, evAll, evParts, evOpt, put_get, put_none, wantA, ARes.ofOpt, tmOf, List.getD_cons_zero, List.getD_cons_succ, Nat.reduceEqDiff, if_true, if_false, reduceIte, Nat.reduceAdd, Nat.reduceMul, binA, intOp, eqOp, nilOf, lenA_slice, callA, AV.cells, undefA, Option.map_some, Option.map_none, Bool.false_eq_true, reduceCtorEq, beq_false, beq_true, g_true, g_false, mg_true, mg_false, Bool.not_true, Bool.not_false, decide_true, decide_false, not_true_eq_false, not_false_eq_true, List.nil_append, List.cons_append, List.append_nil, Option.isNone_some, Option.isNone_none, List.getElem?_cons_zero, List.getElem?_cons_succ]
      exact fnEnd_ret1 ⟨by simp [TM.put], lo', ys, ρ1, ρ2', Both.ref' (xs := xs) R3 r2 (r3 (dx.trans d2)) dd R4 off4 m4 hp⟩
    · rintro w h4 ⟨_, _, e, _⟩; cases e
  simp only [wk_skip, wk_region, wk_seq, wk_block, wk_cond, wk_exit, wk_ret, wk_draw, cnd_true, cnd_false, fin_nil, fin_seq, fin_seq_exit, fin_seq_ret, fin_seq_panic, fin_block, fin_block_exit, fin_block_ret, fin_block_panic, fin_loop, fin_loop_exit, fin_loop_ret, fin_loop_panic, ops_nil, ops_cons, ops_guard, res_val, res_new, main_nil, main_cons, main_guard, mres_val, mres_new, AOp.ev, AOpd.ev, evAll, evParts, evOpt, put_get, put_none, wantA, ARes.ofOpt, tmOf, List.getD_cons_zero, List.getD_cons_succ, Nat.reduceEqDiff, if_true, if_false, reduceIte, Nat.reduceAdd, Nat.reduceMul, binA, intOp, eqOp, nilOf, lenA_slice, callA, AV.cells, undefA, Option.map_some, Option.map_none, Bool.false_eq_true, reduceCtorEq, beq_false, beq_true, g_true, g_false, mg_true, mg_false, Bool.not_true, Bool.not_false, decide_true, decide_false, not_true_eq_false, not_false_eq_true, List.nil_append, List.cons_append, List.append_nil, Option.isNone_some, Option.isNone_none, List.getElem?_cons_zero, List.getElem?_cons_succ]
  refine cond_dec (fun k5 => ?_) (fun k5 => ?_)
  · -- Reach
    simp only [wk_skip, wk_region, wk_seq, wk_block, wk_cond, wk_exit, wk_ret, wk_draw, cnd_true, cnd_false, fin_nil, fin_seq, fin_seq_exit, fin_seq_ret, fin_seq_panic, fin_block, fin_block_exit, fin_block_ret, fin_block_panic, fin_loop, fin_loop_exit, fin_loop_ret, fin_loop_panic, ops_nil, ops_cons, ops_guard, res_val, res_new, main_nil, main_cons, main_guard, mres_val, mres_new, AOp.ev, AOpd.ev, evAll, evParts, evOpt, put_get, put_none, wantA, ARes.ofOpt, tmOf, List.getD_cons_zero, List.getD_cons_succ, Nat.reduceEqDiff, if_true, if_false, reduceIte, Nat.reduceAdd, Nat.reduceMul, binA, intOp, eqOp, nilOf, lenA_slice, callA, AV.cells, undefA, Option.map_some, Option.map_none, Bool.false_eq_true, reduceCtorEq, beq_false, beq_true, g_true, g_false, mg_true, mg_false, Bool.not_true, Bool.not_false, decide_true, decide_false, not_true_eq_false, not_false_eq_true, List.nil_append, List.cons_append, List.append_nil, Option.isNone_some, Option.isNone_none, List.getElem?_cons_zero, List.getElem?_cons_succ, (ld_six hx).2.2.2.2.2]
    refine res_ret (ints13_c Sr1.at_ (by simp; omega) (by simp [AV.oneCell])) ?_
    intro w h2 d2 G2
    have b2 := b1.more G2.more
    have hx2 : h2 bx = _ := G2.more.at_ hx
    have H2 := H.more G2.more
    simp only [wk_skip, wk_region, wk_seq, wk_block, wk_cond, wk_exit, wk_ret, wk_draw, cnd_true, cnd_false, fin_nil, fin_seq, fin_seq_exit, fin_seq_ret, fin_seq_panic, fin_block, fin_block_exit, fin_block_ret, fin_block_panic, fin_loop, fin_loop_exit, fin_loop_ret, fin_loop_panic, ops_nil, ops_cons, ops_guard, res_val, res_new, main_nil, main_cons, main_guard, mres_val, mres_new, AOp.ev, AOpd.ev, evAll, evParts, evOpt, put_get, put_none, wantA, ARes.ofOpt, tmOf, List.getD_cons_zero, List.getD_cons_succ, Nat.reduceEqDiff, if_true, if_false, reduceIte, Nat.reduceAdd, Nat.reduceMul, binA, intOp, eqOp, nilOf, lenA_slice, callA, AV.cells, undefA, Option.map_some, Option.map_none, Bool.false_eq_true, reduceCtorEq, beq_false, beq_true, g_true, g_false, mg_true, mg_false, Bool.not_true, Bool.not_false, decide_true, decide_false, not_true_eq_false, not_false_eq_true, List.nil_append, List.cons_append, List.append_nil, Option.isNone_some, Option.isNone_none, List.getElem?_cons_zero, List.getElem?_cons_succ]
    refine res_ret (reach17_c H2 (hos ▸ g) G2.at_ (by omega)) ?_
    rintro r h3 d3 ⟨v, e, rfl, hr⟩
    obtain ⟨m3, l3, hl3, S3, hr⟩ : More h2 h3 ∧ ∃ l3 : List Int, l3.length ≤ 65536 ∧ Ints h3 v l3 ∧ ((¬ KnownN lo a.roots ∧ e = 15 ∧ l3 = []) ∨ (KnownN lo a.roots ∧ e = 0 ∧ l3.Pairwise (· < ·) ∧ ∀ n : Int, n ∈ l3 ↔ ∃ k : Nat, n = k ∧ RchN lo a.roots k)) := by
      rw [hos] at hr
      rcases hr with ⟨h1, h2, h3⟩ | ⟨h1, h2, l, h3, h4, h5, h6⟩
      · exact ⟨h3.more, [], by simp, h3.at_, .inl ⟨h1, h2, rfl⟩⟩
      · exact ⟨h3.more, l, h5, h3.at_, .inr ⟨h1, h2, h4, h6⟩⟩
    have b3 := b2.more m3
    have hx3 : h3 bx = _ := m3.at_ hx2
    have W3 := (W.more G2.more).more m3
    simp only [wk_skip, wk_region, wk_seq, wk_block, wk_cond, wk_exit, wk_ret, wk_draw, cnd_true, cnd_false, fin_nil, fin_seq, fin_seq_exit, fin_seq_ret, fin_seq_panic, fin_block, fin_block_exit, fin_block_ret, fin_block_panic, fin_loop, fin_loop_exit, fin_loop_ret, fin_loop_panic, ops_nil, ops_cons, ops_guard, res_val, res_new, main_nil, main_cons, main_guard, mres_val, mres_new, AOp.ev, AOpd.ev, evAll, evParts, evOpt, put_get, put_none, wantA, ARes.ofOpt, tmOf, List.getD_cons_zero, List.getD_cons_succ, Nat.reduceEqDiff, if_true, if_false, reduceIte, Nat.reduceAdd, Nat.reduceMul, binA, intOp, eqOp, nilOf, lenA_slice, callA, AV.cells, undefA, Option.map_some, Option.map_none, Bool.false_eq_true, reduceCtorEq, beq_false, beq_true, g_true, g_false, mg_true, mg_false, Bool.not_true, Bool.not_false, decide_true, decide_false, not_true_eq_false, not_false_eq_true, List.nil_append, List.cons_append, List.append_nil, Option.isNone_some, Option.isNone_none, List.getElem?_cons_zero, List.getElem?_cons_succ, (ld_six hx3).2.2.2.2.2]
    refine res_call (reach_c W3 (Sr1.dom (d2.trans d3)).at_ (by omega) Ow.sorted) ?_ ?_
    · rintro u h4 ⟨v', e', he, hr'⟩
      cases he
      obtain ⟨m4, l4, hl4, S4, hee⟩ : More h3 h4 ∧ ∃ l4 : List Int, l4.length ≤ 65536 ∧ Ints h4 v' l4 ∧ e = e' ∧ l3 = l4 := by
        have few := W.few
        rcases hr with ⟨h1, rfl, rfl⟩ | ⟨h1, rfl, h2, h3⟩ <;> rcases hr' with ⟨k1, rfl, rfl, rfl⟩ | ⟨k1, rfl, on, ho, hon, G4⟩
        · exact ⟨.refl _, [], by simp, SliceAt.nil _ _ _ _, rfl, rfl⟩
        · exact absurd ((known_perm b.same).2 k1) h1
        · exact absurd ((known_perm b.same).1 h1) k1
        · refine ⟨G4.more, picked xs on, ?_, G4.at_, rfl, ?_⟩
          · unfold picked
            rw [List.length_map]
            refine Nat.le_trans (List.length_filter_le _ _) ?_
            simp; omega
          · have hpk : picked xs on = namesOf (obR (kept xs on)) := by simp [picked, namesOf, kept]
            have hsub : (obR (kept xs on)).map (·.name) = (kept xs on).map fun x => x.1.name := by rw [List.map_map]; rfl
            refine rising_eq h2 ?_ fun n => ?_
            · rw [hpk]
              have : namesOf (obR (kept xs on)) = ((kept xs on).map fun x => x.1.name).map fun n : Nat => (n : Int) := by simp [namesOf]
              rw [this, List.pairwise_map]
              exact (Ow.sorted.sublist ((kept_sublist ho).map _)).imp fun h => by omega
            · rw [h3]
              constructor
              · rintro ⟨k, rfl, hk⟩
                obtain ⟨i, hi, rfl, hik⟩ := (rch_perm b.same g).1 hk
                have hoi := (hon i).2 hik
                rw [hpk]
                refine List.mem_map.2 ⟨xs[i].1, obR_mem.2 ⟨xs[i], ?_, rfl⟩, rfl⟩
                obtain ⟨hi2, e⟩ := List.getElem?_eq_some_iff.1 hoi
                exact List.mem_map.2 ⟨(xs[i], on[i]), List.mem_filter.2 ⟨List.mem_iff_getElem.2 ⟨i, by simp; omega, by simp⟩, e⟩, rfl⟩
              · intro hn
                unfold picked at hn
                obtain ⟨q, hq, rfl⟩ := List.mem_map.1 hn
                obtain ⟨q1, q2⟩ := List.mem_filter.1 hq
                obtain ⟨i, hi, e⟩ := List.mem_iff_getElem.1 q1
                simp only [List.length_zip] at hi
                rw [List.getElem_zip] at e
                subst e
                refine ⟨_, rfl, (rch_perm b.same g).2 ⟨i, by omega, rfl, (hon i).1 ?_⟩⟩
                rw [List.getElem?_eq_getElem (by omega)]; exact congrArg some q2
      obtain ⟨rfl, rfl⟩ := hee
      have b4 := b3.more m4
      simp only [wk_skip, wk_region, wk_seq, wk_block, wk_cond, wk_exit, wk_ret, wk_draw, cnd_true, cnd_false, fin_nil, fin_seq, fin_seq_exit, fin_seq_ret, fin_seq_panic, fin_block, fin_block_exit, fin_block_ret, fin_block_panic, fin_loop, fin_loop_exit, fin_loop_ret, fin_loop_panic, ops_nil, ops_cons, ops_guard, res_val, res_new, main_nil, main_cons, main_guard, mres_val, mres_new, AOp.ev, AOpd.ev, evAll, evParts, evOpt, put_get, put_none, wantA, ARes.ofOpt, tmOf, List.getD_cons_zero, List.getD_cons_succ, Nat.reduceEqDiff, if_true, if_false, reduceIte, Nat.reduceAdd, Nat.reduceMul, binA, intOp, eqOp, nilOf, lenA_slice, callA, AV.cells, undefA, Option.map_some, Option.map_none, Bool.false_eq_true, reduceCtorEq, beq_false, beq_true, g_true, g_false, mg_true, mg_false, Bool.not_true, Bool.not_false, decide_true, decide_false, not_true_eq_false, not_false_eq_true, List.nil_append, List.cons_append, List.append_nil, Option.isNone_some, Option.isNone_none, List.getElem?_cons_zero, List.getElem?_cons_succ]
      refine res_ret (same18_c (slice_more S3 m4) S4 (by omega) (by omega)) ?_
      rintro r h5 d5 ⟨rfl, rfl⟩
      simp only [wk_skip, wk_region, wk_seq, wk_block, wk_cond, wk_exit, wk_ret, wk_draw, cnd_true, cnd_false, fin_nil, fin_seq, fin_seq_exit, fin_seq_ret, fin_seq_panic, fin_block, fin_block_exit, fin_block_ret, fin_block_panic, fin_loop, fin_loop_exit, fin_loop_ret, fin_loop_panic, ops_nil, ops_cons, ops_guard, res_val, res_new, main_nil, main_cons, main_guard, mres_val, mres_new, AOp.ev, AOpd.ev, evAll, evParts, evOpt, put_get, put_none, wantA, ARes.ofOpt, tmOf, List.getD_cons_zero, List.getD_cons_succ, Nat.reduceEqDiff, if_true, if_false, reduceIte, Nat.reduceAdd, Nat.reduceMul, binA, intOp, eqOp, nilOf, lenA_slice, callA, AV.cells, undefA, Option.map_some, Option.map_none, Bool.false_eq_true, reduceCtorEq, beq_false, beq_true, g_true, g_false, mg_true, mg_false, Bool.not_true, Bool.not_false, decide_true, decide_false, not_true_eq_false, not_false_eq_true, List.nil_append, List.cons_append, List.append_nil, Option.isNone_some, Option.isNone_none, List.getElem?_cons_zero, List.getElem?_cons_succ]
      exact fnEnd_ret1 ⟨by simp [TM.put], lo, xs, ρ1, ρ2, b4⟩
    · rintro u h4 ⟨_, _, e, _⟩; cases e
  simp only [wk_skip, wk_region, wk_seq, wk_block, wk_cond, wk_exit, wk_ret, wk_draw, cnd_true, cnd_false, fin_nil, fin_seq, fin_seq_exit, fin_seq_ret, fin_seq_panic, fin_block, fin_block_exit, fin_block_ret, fin_block_panic, fin_loop, fin_loop_exit, fin_loop_ret, fin_loop_panic, ops_nil, ops_cons, ops_guard, res_val, res_new, main_nil, main_cons, main_guard, mres_val, mres_new, AOp.ev, AOpd.ev, evAll, evParts, evOpt, put_get, put_none, wantA, ARes.ofOpt, tmOf, List.getD_cons_zero, List.getD_cons_succ, Nat.reduceEqDiff, if_true, if_false, reduceIte, Nat.reduceAdd, Nat.reduceMul, binA, intOp, eqOp, nilOf, lenA_slice, callA, AV.cells, undefA, Option.map_some, Option.map_none, Bool.false_eq_true, reduceCtorEq, beq_false, beq_true, g_true, g_false, mg_true, mg_false, Bool.not_true, Bool.not_false, decide_true, decide_false, not_true_eq_false, not_false_eq_true, List.nil_append, List.cons_append, List.append_nil, Option.isNone_some, Option.isNone_none, List.getElem?_cons_zero, List.getElem?_cons_succ]
  refine cond_dec (fun k6 => ?_) (fun k6 => ?_)
  · simp only [wk_skip, wk_region, wk_seq, wk_block, wk_cond, wk_exit, wk_ret, wk_draw, cnd_true, cnd_false, fin_nil, fin_seq, fin_seq_exit, fin_seq_ret, fin_seq_panic, fin_block, fin_block_exit, fin_block_ret, fin_block_panic, fin_loop, fin_loop_exit, fin_loop_ret, fin_loop_panic, ops_nil, ops_cons, ops_guard, res_val, res_new, main_nil, main_cons, main_guard, mres_val, mres_new, AOp.ev, AOpd.ev, evAll, evParts, evOpt, put_get, put_none, wantA, ARes.ofOpt, tmOf, List.getD_cons_zero, List.getD_cons_succ, Nat.reduceEqDiff, if_true, if_false, reduceIte, Nat.reduceAdd, Nat.reduceMul, binA, intOp, eqOp, nilOf, lenA_slice, callA, AV.cells, undefA, Option.map_some, Option.map_none, Bool.false_eq_true, reduceCtorEq, beq_false, beq_true, g_true, g_false, mg_true, mg_false, Bool.not_true, Bool.not_false, decide_true, decide_false, not_true_eq_false, not_false_eq_true, List.nil_append, List.cons_append, List.append_nil, Option.isNone_some, Option.isNone_none, List.getElem?_cons_zero, List.getElem?_cons_succ]
    exact fnEnd_ret1 ⟨by simp [TM.put], lo, xs, ρ1, ρ2, b1⟩
  -- Alloc
  simp only [wk_skip, wk_region, wk_seq, wk_block, wk_cond, wk_exit, wk_ret, wk_draw, cnd_true, cnd_false, fin_nil, fin_seq, fin_seq_exit, fin_seq_ret, fin_seq_panic, fin_block, fin_block_exit, fin_block_ret, fin_block_panic, fin_loop, fin_loop_exit, fin_loop_ret, fin_loop_panic, ops_nil, ops_cons, ops_guard, res_val, res_new, main_nil, main_cons, main_guard, mres_val, mres_new, AOp.ev, AOpd.ev, evAll, evParts, evOpt, put_get, put_none, wantA, ARes.ofOpt, tmOf, List.getD_cons_zero, List.getD_cons_succ, Nat.reduceEqDiff, if_true, if_false, reduceIte, Nat.reduceAdd, Nat.reduceMul, binA, intOp, eqOp, nilOf, lenA_slice, callA, AV.cells, undefA, Option.map_some, Option.map_none, Bool.false_eq_true, reduceCtorEq, beq_false, beq_true, g_true, g_false, mg_true, mg_false, Bool.not_true, Bool.not_false, decide_true, decide_false, not_true_eq_false, not_false_eq_true, List.nil_append, List.cons_append, List.append_nil, Option.isNone_some, Option.isNone_none, List.getElem?_cons_zero, List.getElem?_cons_succ, fill_nil, (ld_six hx).2.2.2.2.1, (ld_six hx).2.2.2.2.2]
  intro eb heb
  have me := More.upd heb (.cells [] false)
  have be := b1.more me
  have hxe : (h1.upd eb (.cells [] false)) bx = _ := me.at_ hx
  have nbe : bx ≠ eb := fun e => by rw [e, heb] at hx; cases hx
  have de : Dom h1 (h1.upd eb (.cells [] false)) := Dom.new heb _
  have G0 := Grown.make (sz := 1) (n := 0) (ex := true) heb (x := []) (by simp)
  have Sfe := (Sf1.dom de).at_
  have Sre := Sr1.dom de
  simp only [wk_skip, wk_region, wk_seq, wk_block, wk_cond, wk_exit, wk_ret, wk_draw, cnd_true, cnd_false, fin_nil, fin_seq, fin_seq_exit, fin_seq_ret, fin_seq_panic, fin_block, fin_block_exit, fin_block_ret, fin_block_panic, fin_loop, fin_loop_exit, fin_loop_ret, fin_loop_panic, ops_nil, ops_cons, ops_guard, res_val, res_new, main_nil, main_cons, main_guard, mres_val, mres_new, AOp.ev, AOpd.ev, evAll, evParts, evOpt, put_get, put_none, wantA, ARes.ofOpt, tmOf, List.getD_cons_zero, List.getD_cons_succ, Nat.reduceEqDiff, if_true, if_false, reduceIte, Nat.reduceAdd, Nat.reduceMul, binA, intOp, eqOp, nilOf, lenA_slice, callA, AV.cells, undefA, Option.map_some, Option.map_none, Bool.false_eq_true, reduceCtorEq, beq_false, beq_true, g_true, g_false, mg_true, mg_false, Bool.not_true, Bool.not_false, decide_true, decide_false, not_true_eq_false, not_false_eq_true, List.nil_append, List.cons_append, List.append_nil, Option.isNone_some, Option.isNone_none, List.getElem?_cons_zero, List.getElem?_cons_succ, (ld_six hxe).2.2.2.2.1, (ld_six hxe).2.2.2.2.2]
  refine mres_append (bytes := 1) G0 Sfe (by omega) (by simp; omega) (by omega) rfl (by simp [AV.oneCell]) ?_ ?_
  · intro c hc q hq
    cases hc
    simp only [List.mem_cons, List.not_mem_nil, or_false] at hq
    subst hq
    intro o e
    simp only [wk_skip, wk_region, wk_seq, wk_block, wk_cond, wk_exit, wk_ret, wk_draw, cnd_true, cnd_false, fin_nil, fin_seq, fin_seq_exit, fin_seq_ret, fin_seq_panic, fin_block, fin_block_exit, fin_block_ret, fin_block_panic, fin_loop, fin_loop_exit, fin_loop_ret, fin_loop_panic, ops_nil, ops_cons, ops_guard, res_val, res_new, main_nil, main_cons, main_guard, mres_val, mres_new, AOp.ev, AOpd.ev, evAll, evParts, evOpt, put_get, put_none, wantA, ARes.ofOpt, tmOf, List.getD_cons_zero, List.getD_cons_succ, Nat.reduceEqDiff, if_true, if_false, reduceIte, Nat.reduceAdd, Nat.reduceMul, binA, intOp, eqOp, nilOf, lenA_slice, callA, AV.cells, undefA, Option.map_some, Option.map_none, Bool.false_eq_true, reduceCtorEq, beq_false, beq_true, g_true, g_false, mg_true, mg_false, Bool.not_true, Bool.not_false, decide_true, decide_false, not_true_eq_false, not_false_eq_true, List.nil_append, List.cons_append, List.append_nil, Option.isNone_some, Option.isNone_none, List.getElem?_cons_zero, List.getElem?_cons_succ, AV.ptr.injEq, Option.some.injEq, Prod.mk.injEq] at e
    exact nbe e.1
  intro fv' h2 G2 d2 k2' o2
  rw [List.nil_append] at G2
  have b2 := b1.more G2.more
  have hx2 : h2 bx = _ := G2.more.at_ hx
  have S2 := (Sre.dom d2).at_
  simp only [wk_skip, wk_region, wk_seq, wk_block, wk_cond, wk_exit, wk_ret, wk_draw, cnd_true, cnd_false, fin_nil, fin_seq, fin_seq_exit, fin_seq_ret, fin_seq_panic, fin_block, fin_block_exit, fin_block_ret, fin_block_panic, fin_loop, fin_loop_exit, fin_loop_ret, fin_loop_panic, ops_nil, ops_cons, ops_guard, res_val, res_new, main_nil, main_cons, main_guard, mres_val, mres_new, AOp.ev, AOpd.ev, evAll, evParts, evOpt, put_get, put_none, wantA, ARes.ofOpt, tmOf, List.getD_cons_zero, List.getD_cons_succ, Nat.reduceEqDiff, if_true, if_false, reduceIte, Nat.reduceAdd, Nat.reduceMul, binA, intOp, eqOp, nilOf, lenA_slice, callA, AV.cells, undefA, Option.map_some, Option.map_none, Bool.false_eq_true, reduceCtorEq, beq_false, beq_true, g_true, g_false, mg_true, mg_false, Bool.not_true, Bool.not_false, decide_true, decide_false, not_true_eq_false, not_false_eq_true, List.nil_append, List.cons_append, List.append_nil, Option.isNone_some, Option.isNone_none, List.getElem?_cons_zero, List.getElem?_cons_succ]
  refine mres_ret (ints13_c S2 (by simp; omega) (by simp [AV.oneCell])) ?_
  intro rv' h3 d3 G3
  refine ⟨trivial, ?_⟩
  have b3 := b2.more G3.more
  have hx3 : h3 bx = _ := G3.more.at_ hx2
  have of' : ∀ c, blkOf fv' = some c → ρ1 c = 0 := fun c hc => (b1.free' (G2.own c hc).1).1
  simp only [wk_skip, wk_region, wk_seq, wk_block, wk_cond, wk_exit, wk_ret, wk_draw, cnd_true, cnd_false, fin_nil, fin_seq, fin_seq_exit, fin_seq_ret, fin_seq_panic, fin_block, fin_block_exit, fin_block_ret, fin_block_panic, fin_loop, fin_loop_exit, fin_loop_ret, fin_loop_panic, ops_nil, ops_cons, ops_guard, res_val, res_new, main_nil, main_cons, main_guard, mres_val, mres_new, AOp.ev, AOpd.ev, evAll, evParts, evOpt, put_get, put_none, wantA, ARes.ofOpt, tmOf, List.getD_cons_zero, List.getD_cons_succ, Nat.reduceEqDiff, if_true, if_false, reduceIte, Nat.reduceAdd, Nat.reduceMul, binA, intOp, eqOp, nilOf, lenA_slice, callA, AV.cells, undefA, Option.map_some, Option.map_none, Bool.false_eq_true, reduceCtorEq, beq_false, beq_true, g_true, g_false, mg_true, mg_false, Bool.not_true, Bool.not_false, decide_true, decide_false, not_true_eq_false, not_false_eq_true, List.nil_append, List.cons_append, List.append_nil, Option.isNone_some, Option.isNone_none, List.getElem?_cons_zero, List.getElem?_cons_succ]
  refine mres_ret (alloc12_c b3.heap (slice_more G2.at_ G3.more) G3.at_ (by omega) (by omega) of') ?_
  rintro r h4 d4 ⟨n, e, lo', ρ1', rfl, hA, R4, off4, m4⟩
  refine ⟨trivial, ?_⟩
  have hx4 : h4 bx = _ := (off4 bx fx.1 (by rw [hx3]; simp)).trans hx3
  obtain ⟨r1, r2, r3⟩ := b3.heap' R4 off4 m4
  have d13 := (de.trans d2).trans d3
  have d04 := (dx.trans d13).trans d4
  simp only [wk_skip, wk_region, wk_seq, wk_block, wk_cond, wk_exit, wk_ret, wk_draw, cnd_true, cnd_false, fin_nil, fin_seq, fin_seq_exit, fin_seq_ret, fin_seq_panic, fin_block, fin_block_exit, fin_block_ret, fin_block_panic, fin_loop, fin_loop_exit, fin_loop_ret, fin_loop_panic, ops_nil, ops_cons, ops_guard, res_val, res_new, main_nil, main_cons, main_guard, mres_val, mres_new, AOp.ev, AOpd.ev, evAll, evParts, evOpt, put_get, put_none, wantA, ARes.ofOpt, tmOf, List.getD_cons_zero, List.getD_cons_succ, Nat.reduceEqDiff, if_true, if_false, reduceIte, Nat.reduceAdd, Nat.reduceMul, binA, intOp, eqOp, nilOf, lenA_slice, callA, AV.cells, undefA, Option.map_some, Option.map_none, Bool.false_eq_true, reduceCtorEq, beq_false, beq_true, g_true, g_false, mg_true, mg_false, Bool.not_true, Bool.not_false, decide_true, decide_false, not_true_eq_false, not_false_eq_true, List.nil_append, List.cons_append, List.append_nil, Option.isNone_some, Option.isNone_none, List.getElem?_cons_zero, List.getElem?_cons_succ, (ld_six hx4).2.2.2.2.1, (ld_six hx4).2.2.2.2.2]
  refine res_call (alloc_alike b.same g hB r1 hA (Sf1.dom (d13.trans d4)).at_ (Sr1.dom (d13.trans d4)).at_ (by omega) (by omega) (fun c hc => (dom0 rv c ⟨_, Sr.at_⟩ hc).2) fun c hc => (dom0 fv c ⟨_, Sf.at_⟩ hc).2) ?_ ?_
  · rintro u h5 ⟨ys, ρ2', he, hp, R5, off5, m5⟩
    cases he
    simp only [wk_skip, wk_region, wk_seq, wk_block, wk_cond, wk_exit, wk_ret, wk_draw, cnd_true, cnd_false, fin_nil, fin_seq, fin_seq_exit, fin_seq_ret, fin_seq_panic, fin_block, fin_block_exit, fin_block_ret, fin_block_panic, fin_loop, fin_loop_exit, fin_loop_ret, fin_loop_panic, ops_nil, ops_cons, ops_guard, res_val, res_new, main_nil, main_cons, main_guard, mres_val, mres_new, AOp.ev, AOpd.ev, evAll, evParts, evOpt, put_get, put_none, wantA, ARes.ofOpt, tmOf, List.getD_cons_zero, List.getD_cons_succ, Nat.reduceEqDiff, if_true, if_false, reduceIte, Nat.reduceAdd, Nat.reduceMul, binA, intOp, eqOp, nilOf, lenA_slice, callA, AV.cells, undefA, Option.map_some, Option.map_none, Bool.false_eq_true, reduceCtorEq, beq_false, beq_true, g_true, g_false, mg_true, mg_false, Bool.not_true, Bool.not_false, decide_true, decide_false, not_true_eq_false, not_false_eq_true, List.nil_append, List.cons_append, List.append_nil, Option.isNone_some, Option.isNone_none, List.getElem?_cons_zero, List.getElem?_cons_succ]
    exact fnEnd_ret1 ⟨by simp [TM.put], lo', ys, ρ1', ρ2', Both.ref' (xs := xs) R4 r2 (r3 (dx.trans d13)) d04 R5 off5 m5 hp⟩
  · rintro u h5 ⟨_, _, e, _⟩; cases e
end Go.Proofs.Ytnkdjfmidiffdaa
namespace Go.Proofs.Ytnkdjfmidiffdaa
open Go Go.Proofs Go.Am
variable {N : Nat}

/-- Acts, one behind the other. -/
def ActsAt (h : AHeap) (v : AV) (l : List ActD) : Prop := ∃ rows : List (List AV), RSlice h 6 v rows.flatten ∧ rows.length = l.length ∧ (∀ i (hi : i < rows.length) (hi' : i < l.length), ActAt h rows[i] l[i]) ∧ l.length ≤ 2000000
theorem ActAt.six {h : AHeap} {v : List AV} {a : ActD} (A : ActAt h v a) : v.length = 6 := by
  obtain ⟨fv, rv, rfl, _⟩ := A; rfl
theorem flatten_at : ∀ {rows : List (List AV)} {n : Nat}, (∀ r ∈ rows, r.length = n) → rows.flatten.length = rows.length * n ∧ ∀ i (hi : i < rows.length), (rows.flatten.drop (i * n)).take n = rows[i]
  | [], n, _ => ⟨by simp, fun i hi => by simp at hi⟩
  | r :: rows, n, h => by
    have h1 := h r (List.mem_cons_self ..)
    obtain ⟨h2, h3⟩ := flatten_at (rows := rows) (n := n) fun x hx => h x (List.mem_cons_of_mem _ hx)
    refine ⟨by simp only [List.flatten_cons, List.length_append, h1, h2, List.length_cons, Nat.add_mul]; omega, fun i hi => ?_⟩
    cases i with
    | zero => simp [List.flatten_cons, ← h1]
    | succ i =>
      have := h3 i (by simpa using hi)
      simp only [List.flatten_cons, List.getElem_cons_succ]
      rw [Nat.add_mul, Nat.one_mul, Nat.add_comm, ← List.drop_drop, ← h1, List.drop_left' rfl, h1]
      exact this
theorem ActsAt.dom {h h' : AHeap} {v : AV} {l : List ActD} (A : ActsAt h v l) (d : Dom h h') : ActsAt h' v l := by
  obtain ⟨rows, s, e, a, b⟩ := A
  exact ⟨rows, s.dom d, e, fun i hi hi' => (a i hi hi').dom d, b⟩
theorem ActsAt.at_ {h : AHeap} {v : AV} {l : List ActD} (A : ActsAt h v l) : lenA h .slice v = some (.int .i64 l.length) ∧ ∀ i (hi : i < l.length), ∃ b o cs, indexSliceA 6 v (.int .i64 i) = some (.ptr (some (b, o))) ∧ loadA h (some 6) (.ptr (some (b, o))) = .val (.agg cs) h ∧ ActAt h cs l[i] := by
  obtain ⟨rows, s, e, a, b⟩ := A
  have six : ∀ r ∈ rows, r.length = 6 := fun r hr => by
    obtain ⟨i, hi, rfl⟩ := List.mem_iff_getElem.1 hr
    exact (a i hi (by omega)).six
  obtain ⟨f1, f2⟩ := flatten_at six
  refine ⟨s.at_.len l.length (by rw [f1, e]) (by omega), fun i hi => ?_⟩
  obtain ⟨b, o, g1, _, _, g2⟩ := s.at_.index i (by rw [f1]; omega) (by omega) .i64
  rw [f2 i (by omega)] at g2
  exact ⟨b, o, _, g1, g2, a i (by omega) hi⟩

theorem answers10_c {h : AHeap} : ARets Try.prog N 10 [] h fun r h' => r = .bool true ∧ More h h' := by
  refine acalls_of_wp c10_ok mixed (by show 0 ≤ 31; decide) (wk_start ?_)
  unfold c10
  simp only [wk_skip, wk_region, wk_seq, wk_block, wk_cond, wk_exit, wk_ret, wk_draw, cnd_true, cnd_false, fin_nil, fin_seq, fin_seq_exit, fin_seq_ret, fin_seq_panic, fin_block, fin_block_exit, fin_block_ret, fin_block_panic, fin_loop, fin_loop_exit, fin_loop_ret, fin_loop_panic, ops_nil, ops_cons, ops_guard, res_val, res_new, main_nil, main_cons, main_guard, mres_val, mres_new, AOp.ev, AOpd.ev, evAll, evParts, evOpt, put_get, put_none, wantA, ARes.ofOpt, tmOf, List.getD_cons_zero, List.getD_cons_succ, Nat.reduceEqDiff, if_true, if_false, reduceIte, Nat.reduceAdd, Nat.reduceMul, binA, intOp, eqOp, nilOf, lenA_slice, callA, AV.cells, undefA, Option.map_some, Option.map_none, Bool.false_eq_true, reduceCtorEq, beq_false, beq_true, g_true, g_false, mg_true, mg_false, Bool.not_true, Bool.not_false, decide_true, decide_false, not_true_eq_false, not_false_eq_true, List.nil_append, List.cons_append, List.append_nil, Option.isNone_some, Option.isNone_none, List.getElem?_cons_zero, List.getElem?_cons_succ]
  refine res_ret (new24_c 9) ?_
  rintro r h1 d1 hr
  rcases hr with ⟨h, _⟩ | ⟨_, _, b, ρ, hb, rfl, m1, R1, hρ⟩
  · omega
  have hfill : fillA (repeatA [.bool false] 2) [(0, 1, .bool true), (1, 1, .bool false)] = some [.bool true, .bool false] := rfl
  simp only [wk_skip, wk_region, wk_seq, wk_block, wk_cond, wk_exit, wk_ret, wk_draw, cnd_true, cnd_false, fin_nil, fin_seq, fin_seq_exit, fin_seq_ret, fin_seq_panic, fin_block, fin_block_exit, fin_block_ret, fin_block_panic, fin_loop, fin_loop_exit, fin_loop_ret, fin_loop_panic, ops_nil, ops_cons, ops_guard, res_val, res_new, main_nil, main_cons, main_guard, mres_val, mres_new, AOp.ev, AOpd.ev, evAll, evParts, evOpt, put_get, put_none, wantA, ARes.ofOpt, tmOf, List.getD_cons_zero, List.getD_cons_succ, Nat.reduceEqDiff, if_true, if_false, reduceIte, Nat.reduceAdd, Nat.reduceMul, binA, intOp, eqOp, nilOf, lenA_slice, callA, AV.cells, undefA, Option.map_some, Option.map_none, Bool.false_eq_true, reduceCtorEq, beq_false, beq_true, g_true, g_false, mg_true, mg_false, Bool.not_true, Bool.not_false, decide_true, decide_false, not_true_eq_false, not_false_eq_true, List.nil_append, List.cons_append, List.append_nil, Option.isNone_some, Option.isNone_none, List.getElem?_cons_zero, List.getElem?_cons_succ, hfill]
  intro sb hsb
  have m2 := More.upd hsb (.cells [.bool true, .bool false] false)
  have R2 := R1.keep (h' := h1.upd sb (.cells [.bool true, .bool false] false)) fun c hc => m2 c (R1.dom c hc)
  have hρs : ρ sb = 0 := by
    by_cases e : ρ sb = 0
    · exact e
    · exact absurd hsb (R1.dom sb e)
  refine res_ret (alloc12_c (refs := [true, false]) (roots := []) R2 (slice_at (sz := 1) (n := 2) (ex := true) (AHeap.upd_same _ _ _) rfl) (SliceAt.nil _ _ _ _) (by simp) (by simp) fun c hc => by cases hc; exact hρs) ?_
  rintro r h3 d3 ⟨n, e, l', ρ', rfl, hA, R3, off3, mine3⟩
  have hA' : n = 1 ∧ e = 0 ∧ totOb l' = 3 := by
    rcases hA with ⟨h, _⟩ | ⟨_, h, _⟩ | ⟨_, _, l1, hr, hh⟩
    · simp at h
    · exact absurd (fun r hr => by cases hr) h
    · have hl1 : l1 = [] := by
        rcases hr with ⟨_, h⟩ | ⟨h, _⟩
        · exact h
        · simp [totOb] at h
      subst hl1
      rcases hh with ⟨h, _⟩ | ⟨_, rfl, m, rfl, hm, rfl⟩
      · simp [totOb] at h
      · have : m = 1 := by
          have h1 := hm.1
          by_cases e : m = 1
          · exact e
          · obtain ⟨o, ho, _⟩ := hm.2.2 1 (by omega) (by omega)
            cases ho
        subst this
        exact ⟨rfl, rfl, rfl⟩
  obtain ⟨rfl, rfl, ht⟩ := hA'
  obtain ⟨M, used, least, os, rfl, H, g, O⟩ := R3
  have hu : used = 3 := by rw [g.used_, ht]; rfl
  subst hu
  simp only [wk_skip, wk_region, wk_seq, wk_block, wk_cond, wk_exit, wk_ret, wk_draw, cnd_true, cnd_false, fin_nil, fin_seq, fin_seq_exit, fin_seq_ret, fin_seq_panic, fin_block, fin_block_exit, fin_block_ret, fin_block_panic, fin_loop, fin_loop_exit, fin_loop_ret, fin_loop_panic, ops_nil, ops_cons, ops_guard, res_val, res_new, main_nil, main_cons, main_guard, mres_val, mres_new, AOp.ev, AOpd.ev, evAll, evParts, evOpt, put_get, put_none, wantA, ARes.ofOpt, tmOf, List.getD_cons_zero, List.getD_cons_succ, Nat.reduceEqDiff, if_true, if_false, reduceIte, Nat.reduceAdd, Nat.reduceMul, binA, intOp, eqOp, nilOf, lenA_slice, callA, AV.cells, undefA, Option.map_some, Option.map_none, Bool.false_eq_true, reduceCtorEq, beq_false, beq_true, g_true, g_false, mg_true, mg_false, Bool.not_true, Bool.not_false, decide_true, decide_false, not_true_eq_false, not_false_eq_true, List.nil_append, List.cons_append, List.append_nil, Option.isNone_some, Option.isNone_none, List.getElem?_cons_zero, List.getElem?_cons_succ]
  refine res_ret (used21_c H) ?_
  rintro r h4 d4 ⟨rfl, rfl⟩
  simp only [wk_skip, wk_region, wk_seq, wk_block, wk_cond, wk_exit, wk_ret, wk_draw, cnd_true, cnd_false, fin_nil, fin_seq, fin_seq_exit, fin_seq_ret, fin_seq_panic, fin_block, fin_block_exit, fin_block_ret, fin_block_panic, fin_loop, fin_loop_exit, fin_loop_ret, fin_loop_panic, ops_nil, ops_cons, ops_guard, res_val, res_new, main_nil, main_cons, main_guard, mres_val, mres_new, AOp.ev, AOpd.ev, evAll, evParts, evOpt, put_get, put_none, wantA, ARes.ofOpt, tmOf, List.getD_cons_zero, List.getD_cons_succ, Nat.reduceEqDiff, if_true, if_false, reduceIte, Nat.reduceAdd, Nat.reduceMul, binA, intOp, eqOp, nilOf, lenA_slice, callA, AV.cells, undefA, Option.map_some, Option.map_none, Bool.false_eq_true, reduceCtorEq, beq_false, beq_true, g_true, g_false, mg_true, mg_false, Bool.not_true, Bool.not_false, decide_true, decide_false, not_true_eq_false, not_false_eq_true, List.nil_append, List.cons_append, List.append_nil, Option.isNone_some, Option.isNone_none, List.getElem?_cons_zero, List.getElem?_cons_succ]
  refine fnEnd_ret1 ⟨by simp [TM.put], fun c hc => ?_⟩
  have hc1 : h1 c ≠ none := by rw [m1 c hc]; exact hc
  rw [off3 c (by
    by_cases e : ρ c = 0
    · exact e
    · exact absurd (hρ c e) hc) (by rw [m2 c hc1]; exact hc1), m2 c hc1, m1 c hc]

theorem grown9_c {h0 : AHeap} (cells : Int) {av : AV} {acts : List ActD} (A : ActsAt h0 av acts) : ARets Try.prog N 9 [.int .i64 cells, av] h0 fun r h' => ∃ hb wb B, r = .tuple [.ptr (some (hb, 0)), .ptr (some (wb, 0))] ∧ B ≤ 65536 ∧ Pair h0 h' hb wb B := by
  refine acalls_of_wp c9_ok mixed (by show 2 ≤ 46; decide) (wk_start ?_)
  unfold c9
  refine wk_cut (fun tm ds h' => ds = [] ∧ h' = h0 ∧ tm 0 = .int .i64 cells ∧ tm 1 = av) (by simp only [wk_skip, wk_region, wk_seq, wk_block, wk_cond, wk_exit, wk_ret, wk_draw, cnd_true, cnd_false, fin_nil, fin_seq, fin_seq_exit, fin_seq_ret, fin_seq_panic, fin_block, fin_block_exit, fin_block_ret, fin_block_panic, fin_loop, fin_loop_exit, fin_loop_ret, fin_loop_panic, ops_nil, ops_cons, ops_guard, res_val, res_new, main_nil, main_cons, main_guard, mres_val, mres_new, AOp.ev, AOpd.ev, evAll, evParts, evOpt, put_get, put_none, wantA, ARes.ofOpt, tmOf, List.getD_cons_zero, List.getD_cons_succ, Nat.reduceEqDiff, if_true, if_false, reduceIte, Nat.reduceAdd, Nat.reduceMul, binA, intOp, eqOp, nilOf, lenA_slice, callA, AV.cells, undefA, Option.map_some, Option.map_none, Bool.false_eq_true, reduceCtorEq, beq_false, beq_true, g_true, g_false, mg_true, mg_false, Bool.not_true, Bool.not_false, decide_true, decide_false, not_true_eq_false, not_false_eq_true, List.nil_append, List.cons_append, List.append_nil, Option.isNone_some, Option.isNone_none, List.getElem?_cons_zero, List.getElem?_cons_succ]; exact meet ⟨rfl, rfl, rfl, rfl⟩) ?_
  rintro tm ds h' ⟨rfl, rfl, t0, t1⟩
  refine wk_cut (fun tm ds h2 => ds = [] ∧ h2 = h' ∧ tm 1 = av ∧ ∃ B : Int, 0 ≤ B ∧ B ≤ 65536 ∧ tm 0 = .int .i64 B) ?_ ?_
  · simp only [wk_skip, wk_region, wk_seq, wk_block, wk_cond, wk_exit, wk_ret, wk_draw, cnd_true, cnd_false, fin_nil, fin_seq, fin_seq_exit, fin_seq_ret, fin_seq_panic, fin_block, fin_block_exit, fin_block_ret, fin_block_panic, fin_loop, fin_loop_exit, fin_loop_ret, fin_loop_panic, ops_nil, ops_cons, ops_guard, res_val, res_new, main_nil, main_cons, main_guard, mres_val, mres_new, AOp.ev, AOpd.ev, evAll, evParts, evOpt, put_get, put_none, wantA, ARes.ofOpt, tmOf, List.getD_cons_zero, List.getD_cons_succ, Nat.reduceEqDiff, if_true, if_false, reduceIte, Nat.reduceAdd, Nat.reduceMul, binA, intOp, eqOp, nilOf, lenA_slice, callA, AV.cells, undefA, Option.map_some, Option.map_none, Bool.false_eq_true, reduceCtorEq, beq_false, beq_true, g_true, g_false, mg_true, mg_false, Bool.not_true, Bool.not_false, decide_true, decide_false, not_true_eq_false, not_false_eq_true, List.nil_append, List.cons_append, List.append_nil, Option.isNone_some, Option.isNone_none, List.getElem?_cons_zero, List.getElem?_cons_succ, t0]
    refine g_ndec (fun h1 => ?_) (fun h1 => ?_)
    · simp only [wk_skip, wk_region, wk_seq, wk_block, wk_cond, wk_exit, wk_ret, wk_draw, cnd_true, cnd_false, fin_nil, fin_seq, fin_seq_exit, fin_seq_ret, fin_seq_panic, fin_block, fin_block_exit, fin_block_ret, fin_block_panic, fin_loop, fin_loop_exit, fin_loop_ret, fin_loop_panic, ops_nil, ops_cons, ops_guard, res_val, res_new, main_nil, main_cons, main_guard, mres_val, mres_new, AOp.ev, AOpd.ev, evAll, evParts, evOpt, put_get, put_none, wantA, ARes.ofOpt, tmOf, List.getD_cons_zero, List.getD_cons_succ, Nat.reduceEqDiff, if_true, if_false, reduceIte, Nat.reduceAdd, Nat.reduceMul, binA, intOp, eqOp, nilOf, lenA_slice, callA, AV.cells, undefA, Option.map_some, Option.map_none, Bool.false_eq_true, reduceCtorEq, beq_false, beq_true, g_true, g_false, mg_true, mg_false, Bool.not_true, Bool.not_false, decide_true, decide_false, not_true_eq_false, not_false_eq_true, List.nil_append, List.cons_append, List.append_nil, Option.isNone_some, Option.isNone_none, List.getElem?_cons_zero, List.getElem?_cons_succ, h1, t0]
      refine cond_dec (fun h2 => ?_) (fun h2 => ?_)
      · simp only [wk_skip, wk_region, wk_seq, wk_block, wk_cond, wk_exit, wk_ret, wk_draw, cnd_true, cnd_false, fin_nil, fin_seq, fin_seq_exit, fin_seq_ret, fin_seq_panic, fin_block, fin_block_exit, fin_block_ret, fin_block_panic, fin_loop, fin_loop_exit, fin_loop_ret, fin_loop_panic, ops_nil, ops_cons, ops_guard, res_val, res_new, main_nil, main_cons, main_guard, mres_val, mres_new, AOp.ev, AOpd.ev, evAll, evParts, evOpt, put_get, put_none, wantA, ARes.ofOpt, tmOf, List.getD_cons_zero, List.getD_cons_succ, Nat.reduceEqDiff, if_true, if_false, reduceIte, Nat.reduceAdd, Nat.reduceMul, binA, intOp, eqOp, nilOf, lenA_slice, callA, AV.cells, undefA, Option.map_some, Option.map_none, Bool.false_eq_true, reduceCtorEq, beq_false, beq_true, g_true, g_false, mg_true, mg_false, Bool.not_true, Bool.not_false, decide_true, decide_false, not_true_eq_false, not_false_eq_true, List.nil_append, List.cons_append, List.append_nil, Option.isNone_some, Option.isNone_none, List.getElem?_cons_zero, List.getElem?_cons_succ]
        exact meet ⟨rfl, rfl, by simp [TM.put, t1], 60, by omega, by omega, by simp [TM.put]⟩
      · simp only [wk_skip, wk_region, wk_seq, wk_block, wk_cond, wk_exit, wk_ret, wk_draw, cnd_true, cnd_false, fin_nil, fin_seq, fin_seq_exit, fin_seq_ret, fin_seq_panic, fin_block, fin_block_exit, fin_block_ret, fin_block_panic, fin_loop, fin_loop_exit, fin_loop_ret, fin_loop_panic, ops_nil, ops_cons, ops_guard, res_val, res_new, main_nil, main_cons, main_guard, mres_val, mres_new, AOp.ev, AOpd.ev, evAll, evParts, evOpt, put_get, put_none, wantA, ARes.ofOpt, tmOf, List.getD_cons_zero, List.getD_cons_succ, Nat.reduceEqDiff, if_true, if_false, reduceIte, Nat.reduceAdd, Nat.reduceMul, binA, intOp, eqOp, nilOf, lenA_slice, callA, AV.cells, undefA, Option.map_some, Option.map_none, Bool.false_eq_true, reduceCtorEq, beq_false, beq_true, g_true, g_false, mg_true, mg_false, Bool.not_true, Bool.not_false, decide_true, decide_false, not_true_eq_false, not_false_eq_true, List.nil_append, List.cons_append, List.append_nil, Option.isNone_some, Option.isNone_none, List.getElem?_cons_zero, List.getElem?_cons_succ]
        exact meet ⟨rfl, rfl, by simp [TM.put, t1], cells, by omega, by omega, by simp [TM.put, t0]⟩
    · simp only [wk_skip, wk_region, wk_seq, wk_block, wk_cond, wk_exit, wk_ret, wk_draw, cnd_true, cnd_false, fin_nil, fin_seq, fin_seq_exit, fin_seq_ret, fin_seq_panic, fin_block, fin_block_exit, fin_block_ret, fin_block_panic, fin_loop, fin_loop_exit, fin_loop_ret, fin_loop_panic, ops_nil, ops_cons, ops_guard, res_val, res_new, main_nil, main_cons, main_guard, mres_val, mres_new, AOp.ev, AOpd.ev, evAll, evParts, evOpt, put_get, put_none, wantA, ARes.ofOpt, tmOf, List.getD_cons_zero, List.getD_cons_succ, Nat.reduceEqDiff, if_true, if_false, reduceIte, Nat.reduceAdd, Nat.reduceMul, binA, intOp, eqOp, nilOf, lenA_slice, callA, AV.cells, undefA, Option.map_some, Option.map_none, Bool.false_eq_true, reduceCtorEq, beq_false, beq_true, g_true, g_false, mg_true, mg_false, Bool.not_true, Bool.not_false, decide_true, decide_false, not_true_eq_false, not_false_eq_true, List.nil_append, List.cons_append, List.append_nil, Option.isNone_some, Option.isNone_none, List.getElem?_cons_zero, List.getElem?_cons_succ, h1, t0]
      exact meet ⟨rfl, rfl, by simp [TM.put, t1], 60, by omega, by omega, by simp [TM.put]⟩
  clear t0 t1 tm
  rintro tm ds h' ⟨rfl, rfl, t1, B, hB0, hB1, t0⟩
  simp only [wk_skip, wk_region, wk_seq, wk_block, wk_cond, wk_exit, wk_ret, wk_draw, cnd_true, cnd_false, fin_nil, fin_seq, fin_seq_exit, fin_seq_ret, fin_seq_panic, fin_block, fin_block_exit, fin_block_ret, fin_block_panic, fin_loop, fin_loop_exit, fin_loop_ret, fin_loop_panic, ops_nil, ops_cons, ops_guard, res_val, res_new, main_nil, main_cons, main_guard, mres_val, mres_new, AOp.ev, AOpd.ev, evAll, evParts, evOpt, put_get, put_none, wantA, ARes.ofOpt, tmOf, List.getD_cons_zero, List.getD_cons_succ, Nat.reduceEqDiff, if_true, if_false, reduceIte, Nat.reduceAdd, Nat.reduceMul, binA, intOp, eqOp, nilOf, lenA_slice, callA, AV.cells, undefA, Option.map_some, Option.map_none, Bool.false_eq_true, reduceCtorEq, beq_false, beq_true, g_true, g_false, mg_true, mg_false, Bool.not_true, Bool.not_false, decide_true, decide_false, not_true_eq_false, not_false_eq_true, List.nil_append, List.cons_append, List.append_nil, Option.isNone_some, Option.isNone_none, List.getElem?_cons_zero, List.getElem?_cons_succ, t0]
  refine res_ret (new24_c B) ?_
  rintro r h1 d1 hr
  rcases hr with ⟨h, _⟩ | ⟨_, _, hb, ρ1, hhb, rfl, m1, R1, hρ1⟩
  · omega
  simp only [wk_skip, wk_region, wk_seq, wk_block, wk_cond, wk_exit, wk_ret, wk_draw, cnd_true, cnd_false, fin_nil, fin_seq, fin_seq_exit, fin_seq_ret, fin_seq_panic, fin_block, fin_block_exit, fin_block_ret, fin_block_panic, fin_loop, fin_loop_exit, fin_loop_ret, fin_loop_panic, ops_nil, ops_cons, ops_guard, res_val, res_new, main_nil, main_cons, main_guard, mres_val, mres_new, AOp.ev, AOpd.ev, evAll, evParts, evOpt, put_get, put_none, wantA, ARes.ofOpt, tmOf, List.getD_cons_zero, List.getD_cons_succ, Nat.reduceEqDiff, if_true, if_false, reduceIte, Nat.reduceAdd, Nat.reduceMul, binA, intOp, eqOp, nilOf, lenA_slice, callA, AV.cells, undefA, Option.map_some, Option.map_none, Bool.false_eq_true, reduceCtorEq, beq_false, beq_true, g_true, g_false, mg_true, mg_false, Bool.not_true, Bool.not_false, decide_true, decide_false, not_true_eq_false, not_false_eq_true, List.nil_append, List.cons_append, List.append_nil, Option.isNone_some, Option.isNone_none, List.getElem?_cons_zero, List.getElem?_cons_succ, t0]
  refine res_call (make_c B) ?_ ?_
  · rintro u h2 hu
    rcases hu with ⟨h, _⟩ | ⟨_, _, wb, hwb, he, m2, R2⟩
    · omega
    cases he
    have R1' := R1.keep (h' := h2) fun c hc => m2 c (R1.dom c hc)
    have bo : Both h' h2 hb wb B [] [] ρ1 (fun c => if c = wb then 1 else 0) := ⟨R1', R2, .nil, fun c => by
      by_cases e : c = wb
      · subst e
        by_cases e2 : ρ1 c = 0
        · exact .inl e2
        · exact absurd hwb (R1.dom c e2)
      · exact .inr (if_neg e), fun c hc => by
        rcases hc with hc | hc
        · exact hρ1 c hc
        · by_cases e : c = wb
          · subst e; exact m1.none_ hwb
          · simp [e] at hc⟩
    have d2 : Dom h' h2 := (Dom.more m1).trans (Dom.more m2)
    simp only [wk_skip, wk_region, wk_seq, wk_block, wk_cond, wk_exit, wk_ret, wk_draw, cnd_true, cnd_false, fin_nil, fin_seq, fin_seq_exit, fin_seq_ret, fin_seq_panic, fin_block, fin_block_exit, fin_block_ret, fin_block_panic, fin_loop, fin_loop_exit, fin_loop_ret, fin_loop_panic, ops_nil, ops_cons, ops_guard, res_val, res_new, main_nil, main_cons, main_guard, mres_val, mres_new, AOp.ev, AOpd.ev, evAll, evParts, evOpt, put_get, put_none, wantA, ARes.ofOpt, tmOf, List.getD_cons_zero, List.getD_cons_succ, Nat.reduceEqDiff, if_true, if_false, reduceIte, Nat.reduceAdd, Nat.reduceMul, binA, intOp, eqOp, nilOf, lenA_slice, callA, AV.cells, undefA, Option.map_some, Option.map_none, Bool.false_eq_true, reduceCtorEq, beq_false, beq_true, g_true, g_false, mg_true, mg_false, Bool.not_true, Bool.not_false, decide_true, decide_false, not_true_eq_false, not_false_eq_true, List.nil_append, List.cons_append, List.append_nil, Option.isNone_some, Option.isNone_none, List.getElem?_cons_zero, List.getElem?_cons_succ]
    refine wk_loopD (fun k tm ds h3 => ds = [] ∧ tm 1 = av ∧ tm 6 = .ptr (some (hb, 0)) ∧ tm 8 = .ptr (some (wb, 0)) ∧ Pair h' h3 hb wb B ∧ ∃ i : Nat, tm 10 = .int .i64 i ∧ i + k = acts.length) acts.length
      ⟨rfl, by simp [TM.put, t1], by simp [TM.put], by simp [TM.put], ⟨_, _, _, _, bo⟩, 0, by simp [TM.put], by simp⟩ ?_
    clear t0 t1 tm
    rintro k tm ds h3 d3 ⟨rfl, t1, t6, t8, ⟨lo, xs, ρa, ρb, bb⟩, i, t10, hk⟩
    have A3 := A.dom (d2.trans d3)
    obtain ⟨a1, a2⟩ := A3.at_
    have hal : acts.length ≤ 2000000 := by obtain ⟨_, _, _, _, h⟩ := A; exact h
    simp only [wk_skip, wk_region, wk_seq, wk_block, wk_cond, wk_exit, wk_ret, wk_draw, cnd_true, cnd_false, fin_nil, fin_seq, fin_seq_exit, fin_seq_ret, fin_seq_panic, fin_block, fin_block_exit, fin_block_ret, fin_block_panic, fin_loop, fin_loop_exit, fin_loop_ret, fin_loop_panic, ops_nil, ops_cons, ops_guard, res_val, res_new, main_nil, main_cons, main_guard, mres_val, mres_new, AOp.ev, AOpd.ev, evAll, evParts, evOpt, put_get, put_none, wantA, ARes.ofOpt, tmOf, List.getD_cons_zero, List.getD_cons_succ, Nat.reduceEqDiff, if_true, if_false, reduceIte, Nat.reduceAdd, Nat.reduceMul, binA, intOp, eqOp, nilOf, lenA_slice, callA, AV.cells, undefA, Option.map_some, Option.map_none, Bool.false_eq_true, reduceCtorEq, beq_false, beq_true, g_true, g_false, mg_true, mg_false, Bool.not_true, Bool.not_false, decide_true, decide_false, not_true_eq_false, not_false_eq_true, List.nil_append, List.cons_append, List.append_nil, Option.isNone_some, Option.isNone_none, List.getElem?_cons_zero, List.getElem?_cons_succ, t1, t10, a1]
    refine g_dec (fun hi => ?_) (fun hi => ?_)
    · have hi' : i < acts.length := by omega
      have wri : IntKind.i64.wrap ((i : Int) + 1) = ((i + 1 : Nat) : Int) := by rw [wrap64 (by omega) (by omega)]; rfl
      obtain ⟨b, o, cs, g1, g2, g3⟩ := a2 i hi'
      obtain ⟨rows, s, e, aa, _⟩ := A
      have g3' : ActAt h' cs acts[i] := by
        have six : ∀ r ∈ rows, r.length = 6 := fun r hr => by
          obtain ⟨j, hj, rfl⟩ := List.mem_iff_getElem.1 hr
          exact (aa j hj (by omega)).six
        have s3 := s.dom (d2.trans d3)
        obtain ⟨f1, f2⟩ := flatten_at six
        obtain ⟨b', o', q1, _, _, q2⟩ := s3.at_.index i (by rw [f1]; omega) (by omega) .i64
        rw [f2 i (by omega)] at q2
        rw [g1] at q1
        cases q1
        rw [g2] at q2
        injection q2 with q3 _
        injection q3 with q4
        rw [q4]; exact aa i (by omega) hi'
      simp only [wk_skip, wk_region, wk_seq, wk_block, wk_cond, wk_exit, wk_ret, wk_draw, cnd_true, cnd_false, fin_nil, fin_seq, fin_seq_exit, fin_seq_ret, fin_seq_panic, fin_block, fin_block_exit, fin_block_ret, fin_block_panic, fin_loop, fin_loop_exit, fin_loop_ret, fin_loop_panic, ops_nil, ops_cons, ops_guard, res_val, res_new, main_nil, main_cons, main_guard, mres_val, mres_new, AOp.ev, AOpd.ev, evAll, evParts, evOpt, put_get, put_none, wantA, ARes.ofOpt, tmOf, List.getD_cons_zero, List.getD_cons_succ, Nat.reduceEqDiff, if_true, if_false, reduceIte, Nat.reduceAdd, Nat.reduceMul, binA, intOp, eqOp, nilOf, lenA_slice, callA, AV.cells, undefA, Option.map_some, Option.map_none, Bool.false_eq_true, reduceCtorEq, beq_false, beq_true, g_true, g_false, mg_true, mg_false, Bool.not_true, Bool.not_false, decide_true, decide_false, not_true_eq_false, not_false_eq_true, List.nil_append, List.cons_append, List.append_nil, Option.isNone_some, Option.isNone_none, List.getElem?_cons_zero, List.getElem?_cons_succ, hi, t1, t6, t8, t10, g1, g2]
      refine res_ret (act27_c bb (d2.trans d3) hB1 g3') ?_
      rintro r h4 d4 ⟨rfl, P4⟩
      simp only [wk_skip, wk_region, wk_seq, wk_block, wk_cond, wk_exit, wk_ret, wk_draw, cnd_true, cnd_false, fin_nil, fin_seq, fin_seq_exit, fin_seq_ret, fin_seq_panic, fin_block, fin_block_exit, fin_block_ret, fin_block_panic, fin_loop, fin_loop_exit, fin_loop_ret, fin_loop_panic, ops_nil, ops_cons, ops_guard, res_val, res_new, main_nil, main_cons, main_guard, mres_val, mres_new, AOp.ev, AOpd.ev, evAll, evParts, evOpt, put_get, put_none, wantA, ARes.ofOpt, tmOf, List.getD_cons_zero, List.getD_cons_succ, Nat.reduceEqDiff, if_true, if_false, reduceIte, Nat.reduceAdd, Nat.reduceMul, binA, intOp, eqOp, nilOf, lenA_slice, callA, AV.cells, undefA, Option.map_some, Option.map_none, Bool.false_eq_true, reduceCtorEq, beq_false, beq_true, g_true, g_false, mg_true, mg_false, Bool.not_true, Bool.not_false, decide_true, decide_false, not_true_eq_false, not_false_eq_true, List.nil_append, List.cons_append, List.append_nil, Option.isNone_some, Option.isNone_none, List.getElem?_cons_zero, List.getElem?_cons_succ, t10, wri]
      exact meet ⟨k - 1, by omega, rfl, by simp [TM.put, t1], by simp [TM.put, t6], by simp [TM.put, t8], P4, i + 1, by simp [TM.put], by omega⟩
    · simp only [wk_skip, wk_region, wk_seq, wk_block, wk_cond, wk_exit, wk_ret, wk_draw, cnd_true, cnd_false, fin_nil, fin_seq, fin_seq_exit, fin_seq_ret, fin_seq_panic, fin_block, fin_block_exit, fin_block_ret, fin_block_panic, fin_loop, fin_loop_exit, fin_loop_ret, fin_loop_panic, ops_nil, ops_cons, ops_guard, res_val, res_new, main_nil, main_cons, main_guard, mres_val, mres_new, AOp.ev, AOpd.ev, evAll, evParts, evOpt, put_get, put_none, wantA, ARes.ofOpt, tmOf, List.getD_cons_zero, List.getD_cons_succ, Nat.reduceEqDiff, if_true, if_false, reduceIte, Nat.reduceAdd, Nat.reduceMul, binA, intOp, eqOp, nilOf, lenA_slice, callA, AV.cells, undefA, Option.map_some, Option.map_none, Bool.false_eq_true, reduceCtorEq, beq_false, beq_true, g_true, g_false, mg_true, mg_false, Bool.not_true, Bool.not_false, decide_true, decide_false, not_true_eq_false, not_false_eq_true, List.nil_append, List.cons_append, List.append_nil, Option.isNone_some, Option.isNone_none, List.getElem?_cons_zero, List.getElem?_cons_succ, hi, t6, t8]
      exact fnEnd_ret2 ⟨hb, wb, B, by simp [TM.put], hB1, lo, xs, ρa, ρb, bb⟩
  · rintro u h2 hu
    rcases hu with ⟨h, _⟩ | ⟨_, _, wb, hwb, he, _⟩
    · omega
    · cases he
end Go.Proofs.Ytnkdjfmidiffdaa
