/-
  Part of the proofs about the heap: an abstract memory, its compiled code, and the contracts of the functions over it.
  Conditions: each theorem names its own.
-/
import Derived.RangeFuncIn
import Derived.Test.YtnkdjfmidiffdaaAm3
import Derived.RangeFuncLeaves
set_option linter.unusedSimpArgs false
set_option linter.unusedVariables false
/-
  A RANGE OVER A FUNCTION: the statement and its rounds, told by frames.
-/
namespace Go.Am
open Go.RowKit

theorem atR_eq (b : Frame) (a : Act) (k : List Item) : atR b a k = b.atR a k := rfl

theorem alloc_at (w : World) (o : Obj) : (w.alloc o).heap[w.heap.size]? = some o := by
  show (w.heap.push o)[w.heap.size]? = some o
  simp

section
variable {P : Program}

/-- The record of a loop and the block of its deferred calls. -/
def loopRec (fn : FuncId) (tmps : Array Value) (ps : Array Nat) (assign body : Code) (D : Nat) : Loop := { state := .ready, pending := none, fn := fn, tmps := tmps, params := ps, assign := assign, body := body, defers := D }

/-- Behind the call of the function that was ranged over. -/
def rangeDone (P : Program) (l : Nat) (Q : Ex → Act → World → Prop) (a' : Act) : Ending → World → Prop
  | .returned _, w2 => ∃ jump w3, (Instr.endLoop l).run P w2 = .ok jump w3 ∧ (match jump with
      | none => Q .normal a' w3
      | some .ret => Q .ret a' w3
      | some (.exit id) => Q (.exit id) a' w3
      | _ => False)
  | .panicked chain, w2 => Q (.panic chain) a' w2
  | .outgrown, _ => False

theorem cw_rangeFunc {f : Operand} {ps : Array Nat} {assign body : Code} {Q : Ex → Act → World → Prop} {a : Act} {w : World} {g : FuncId} {first cap : Array Value}
    (hf : a.eval f = .func (.func g) first cap) (hg : GoodFn P g)
    (h : ∀ fn, Calls P g (first ++ #[Value.func (.yield (w.heap.size + 1)) #[] #[]] ++ cap) ((w.alloc (.deferred (some []))).alloc (.loop (loopRec fn a.tmps ps assign body w.heap.size)))
      (rangeDone P (w.heap.size + 1) Q { a with defers := { target := .collected w.heap.size, args := #[] } :: a.defers })) : CW P none (.rangeFunc f ps assign body) Q a w := by
  intro b k cs hb
  obtain ⟨fn, hfn, hbody, hname⟩ := hg
  have hb' : ¬ fn.body = none := by intro h; rw [h] at hbody; simp at hbody
  have hn' : ¬ fn.name = "runtime.NumGoroutine" := by simpa using hname
  have he : (Instr.enterLoop b.fn a.tmps ps assign body b.roundOf).run P w = .ok (w.heap.size + 1, [{ target := .collected w.heap.size, args := #[] }]) ((w.alloc (.deferred (some []))).alloc (.loop (loopRec b.fn a.tmps ps assign body w.heap.size))) := by
    rw [hb]
    simp [Instr.enterLoop, loopRec]
  have hres : (resolve a.eval (rangeCall f (w.heap.size + 1)) 0).run P ((w.alloc (.deferred (some []))).alloc (.loop (loopRec b.fn a.tmps ps assign body w.heap.size))) =
      .ok { target := .fn (.func g) cap, args := first ++ #[Value.func (.yield (w.heap.size + 1)) #[] #[]] } ((w.alloc (.deferred (some []))).alloc (.loop (loopRec b.fn a.tmps ps assign body w.heap.size))) := by
    obtain ⟨cu, hcu⟩ : ∃ cu, cu = a.eval f := ⟨_, rfl⟩
    rw [← hcu] at hf
    have hc : a.eval (.const (.func (.yield (w.heap.size + 1)) #[] #[])) = .func (.yield (w.heap.size + 1)) #[] #[] := rfl
    simp [resolve, ← hcu, hf, Deferred.ofValue, hc]
  have hinv : (invoke (.fn (.func g) cap) (first ++ #[Value.func (.yield (w.heap.size + 1)) #[] #[]])).run P ((w.alloc (.deferred (some []))).alloc (.loop (loopRec b.fn a.tmps ps assign body w.heap.size))) =
      .ok (.enter g (first ++ #[Value.func (.yield (w.heap.size + 1)) #[] #[]] ++ cap)) ((w.alloc (.deferred (some []))).alloc (.loop (loopRec b.fn a.tmps ps assign body w.heap.size))) := by
    simp [invoke, callFunc, hfn, hn', hb']
  have s1 := stepR_rangeFunc (P := P) (b := b) (a := a) (k := k) (cs := cs) (w := w) he hres hinv
  obtain ⟨e, w3, hR, hs⟩ := Runs.of_calls (h b.fn) (fun _ h => h) (b.atR { a with defers := [{ target := .collected w.heap.size, args := #[] }] ++ a.defers } (.inRangeFunc (w.heap.size + 1) :: k)) cs
  cases e with
  | outgrown => exact hs.elim
  | returned v =>
    obtain ⟨jump, w4, hend, hj⟩ := hR
    simp only [finish_atR_inRangeFunc] at hs
    have s3 : Steps P (lone (atR b a (.code (.rangeFunc f ps assign body) :: k)) cs w) (lone (b.atR { a with defers := { target := .collected w.heap.size, args := #[] } :: a.defers } ((jump.map Item.code).toList ++ k)) cs w4) :=
      .head s1 (Steps.trans hs (.one (stepR_endRangeFunc hend)))
    cases jump with
    | none => exact ⟨.normal, _, w4, hj, s3⟩
    | some c =>
      cases c with
      | ret => exact ⟨.ret, _, w4, hj, k, s3⟩
      | exit id => exact ⟨.exit id, _, w4, hj, k, rfl, s3⟩
      | _ => exact hj.elim
  | panicked chain =>
    simp only [Frame.raise_atR] at hs
    exact ⟨.panic chain, _, w3, hR, _, .head s1 hs⟩

def roundEnd (P : Program) (l : Nat) (R : Ending → World → Prop) : Ex → Act → World → Prop
  | .normal, _, w => ∃ v w', (Instr.endRound l none).run P w = .ok v w' ∧ R (.returned v) w'
  | .ret, _, w => ∃ v w', (Instr.endRound l (some .ret)).run P w = .ok v w' ∧ R (.returned v) w'
  | .exit id, _, w => ∃ v w', (Instr.endRound l (some (.exit id))).run P w = .ok v w' ∧ R (.returned v) w'
  | .panic _, _, _ => False

theorem runs_round {l : Nat} {f : FuncId} {tmps : Array Value} {assign body : Code} {w : World} {R : Ending → World → Prop}
    (h : CW P (some l) assign (fun e a₁ w₁ => e = .normal ∧ ∃ w₂, (Instr.beginRound l).run P w₁ = .ok () w₂ ∧ CW P (some l) body (roundEnd P l R) a₁ w₂) { tmps := tmps, defers := [] } w) :
    Runs P (Frame.round l f tmps assign body .normal) w R := by
  intro c cs
  let b : Frame := { (default : Frame) with fn := f, kind := .normal, roundOf := some l }
  have hb0 : Frame.round l f tmps assign body .normal = b.atR { tmps := tmps, defers := [] } [.code assign, .beginRound, .code body] := by
    simp [Frame.round, Frame.atR, b]
  obtain ⟨e, a₁, w₁, ⟨rfl, w₂, hbr, hbody⟩, harr⟩ := h b [.beginRound, .code body] (c :: cs) rfl
  rw [atR_eq, ← hb0] at harr
  obtain ⟨e₂, a₂, w₃, hq₂, harr₂⟩ := hbody b [] (c :: cs) rfl
  have s1 : Steps P (lone (Frame.round l f tmps assign body .normal) (c :: cs) w) (lone (b.atR a₁ [.code body]) (c :: cs) w₂) := Steps.trans harr (.one (stepR_beginRound rfl hbr))
  cases e₂ with
  | normal =>
    obtain ⟨v, w₄, hend, hR⟩ := hq₂
    exact ⟨.returned v, w₄, hR, Steps.trans s1 (Steps.trans harr₂ (.one (stepR_round_end (b := b) rfl rfl hend)))⟩
  | ret =>
    obtain ⟨v, w₄, hend, hR⟩ := hq₂
    obtain ⟨k₁, hs⟩ := harr₂
    exact ⟨.returned v, w₄, hR, Steps.trans s1 (Steps.trans hs (.one (stepR_round_ret (b := b) rfl rfl hend)))⟩
  | exit id =>
    obtain ⟨v, w₄, hend, hR⟩ := hq₂
    obtain ⟨k₁, hk, hs⟩ := harr₂
    exact ⟨.returned v, w₄, hR, Steps.trans s1 (Steps.trans hs (.one (stepR_round_exit (b := b) rfl rfl (hk.trans rfl) hend)))⟩
  | panic chain => exact hq₂.elim

theorem run_getLoop {l : Nat} {w : World} {r : Loop} (h : w.heap[l]? = some (.loop r)) : (Instr.getLoop l).run P w = .ok r w := by
  have hget : (getObj l).run P w = .ok (.loop r) w := by simp [getObj, Sem.run, h]
  simp [Instr.getLoop, hget]
theorem run_beginRound {l : Nat} {w : World} {r : Loop} (h : w.heap[l]? = some (.loop r)) (hr : r.state = .ready) : (Instr.beginRound l).run P w = .ok () { w with heap := w.heap.setIfInBounds l (.loop { r with state := .busy }) } := by
  have hset := setObj_run (P := P) (o' := .loop { r with state := .busy }) h rfl
  simp [Instr.beginRound, run_getLoop h, hr, hset]
theorem run_endRound {l : Nat} {w : World} {r : Loop} (h : w.heap[l]? = some (.loop r)) (jump : Option Code) : (Instr.endRound l jump).run P w = .ok (.bool jump.isNone) { w with heap := w.heap.setIfInBounds l (.loop { r with state := if jump.isNone then .ready else .done, pending := jump }) } := by
  have hset := setObj_run (P := P) (o' := .loop { r with state := if jump.isNone then .ready else .done, pending := jump }) h rfl
  simp only [Instr.endRound, Sem.run_bind, run_getLoop h, Result.andThen_ok, hset]
  rfl
theorem run_endLoop {l : Nat} {w : World} {r : Loop} (h : w.heap[l]? = some (.loop r)) (hr : r.state ≠ .busy) : (Instr.endLoop l).run P w = .ok r.pending { w with heap := w.heap.setIfInBounds l (.loop { r with state := .exhausted }) } := by
  have hset := setObj_run (P := P) (o' := .loop { r with state := .exhausted }) h rfl
  simp [Instr.endLoop, run_getLoop h, hset]
  exact fun e => absurd e hr
theorem run_yield {l : Nat} {w : World} {r : Loop} (h : w.heap[l]? = some (.loop r)) {vs : Array Value} (hn : vs.size = r.params.size) :
    (Instr.yield l vs).run P w = .ok (.round l r.fn ((r.params.zip vs).foldl (fun tmps (t, a) => tmps.setIfInBounds t a) r.tmps) r.assign r.body) w := by
  simp [Instr.yield, run_getLoop h, hn]
end
end Go.Am
/-
  CODE AND CALLS: what the predicate transformer promises is what the model's code does.
-/
namespace Go.Am
open Go.RowKit

theorem dopers_mem {al : List AOper} {as : List (List Nat)} : ∀ {σ done : List Nat} {i : Nat}, i ∈ σ → ∃ p ∈ dopers al as done σ, p.o = al.getD i default
  | [], _, _, h => by cases h
  | j :: σ, done, i, h => by
    rcases List.mem_cons.1 h with rfl | h
    · exact ⟨_, List.mem_cons_self .., rfl⟩
    · obtain ⟨p, hp, e⟩ := dopers_mem (done := done ++ [j]) h
      exact ⟨p, List.mem_cons_of_mem _ hp, e⟩

def dstsOf (l : List DOper) : List Nat := l.filterMap (·.o.dst)
theorem dstsOf_strip (l : List DOper) : dstsOf (l.map DOper.strip) = dstsOf l := by
  simp only [dstsOf, List.filterMap_map]
  rfl

section
variable {P : Program} {N : Nat}

theorem stabs_strip (tm : TM) (h h' : AHeap) : ∀ l : List AOper, stabs tm h h' (l.map AOper.strip) = stabs tm h h' l
  | [] => rfl
  | q :: l => by simp only [List.map_cons, stabs, stabs_strip tm h h' l]; rfl
theorem wpMain_strip {rd : Bool} {dsts : List Nat} {Qp : AV → TM → AHeap → Prop} {K : TM → AHeap → Prop} : ∀ (l : List DOper), wpMain P N rd dsts Qp K (l.map DOper.strip) = wpMain P N rd dsts Qp K l
  | [] => rfl
  | p :: l => by
    funext tm h
    have ih := wpMain_strip (rd := rd) (dsts := dsts) (Qp := Qp) (K := K) l
    simp only [List.map_cons, wpMain, ih]
    simp only [DOper.strip, stabs_strip]
    rfl

theorem draw_sound (r : Option Nat) {ops : Array Oper} {al : List AOper} {main : List DOper} {tail : List AOper} {n : Nat} {Q : AEx → TM → List ADef → AHeap → Prop} (hm : P.follows .mixedOrders = true)
    (hc : compOpers P ops ops.toList = some al) (hcd : compDraw al = some (.draw main tail)) (hbnd : boundOps n (main.map (·.o)) = true) (hbt : boundOps n tail = true)
    {ι : Emb} {h : AHeap} {w : World} {tm : TM} {act : Act} {ds : List ADef} (s : Sim N ι h w) (ha : ActRel ι n tm act.tmps) (hd : DsRel ι ds act.defers)
    (hwp : wpMain P N r.isSome (dstsOf main) (fun v tm h => Q (.panic v) tm ds h) (fun tm h => wpOps P N r.isSome Q tail tm ds h) main tm h) (t : Nat) :
    OpsW P r ops (ExPost N ι h w n Q) (Region.schedule (P.follows .mixedOrders) ops t) act w := by
  unfold compDraw at hcd
  simp only [] at hcd
  split at hcd
  · rename_i hok
    cases hcd
    rw [Bool.and_eq_true] at hok
    rw [wpMain_strip, dstsOf_strip] at hwp
    simp only [wpOps_strip] at hwp
    rw [List.map_map, show ((fun x : DOper => x.o) ∘ DOper.strip) = AOper.strip ∘ (fun x : DOper => x.o) from rfl, ← List.map_map, boundOps_strip] at hbnd
    rw [boundOps_strip] at hbt
    have df := drawOk_inv hok.1
    have he := eagerOk_inv hok.2
    simp only [Region.schedule, hm, Bool.true_or, if_true, Region.linearise]
    have hlen : al.length = ops.size := by have := (compOpers_get hc).1; simpa using this
    have hbound : boundOps n al = true := by
      simp only [boundOps, List.all_eq_true] at hbnd hbt ⊢
      intro o ho
      obtain ⟨i, hi, rfl⟩ := List.mem_iff_getElem.1 ho
      by_cases e : i < mainLen (ancs al) al.length
      · obtain ⟨p, hp, e⟩ := dopers_mem (al := al) (as := ancs al) (done := []) (df.cover i e)
        have : p.o = al[i] := by rw [e, List.getD_eq_getElem?_getD, List.getElem?_eq_getElem hi]; rfl
        exact this ▸ hbnd p.o (List.mem_map.2 ⟨p, hp, rfl⟩)
      · refine hbt _ ?_
        rw [List.mem_iff_getElem?]
        refine ⟨i - mainLen (ancs al) al.length, ?_⟩
        rw [List.getElem?_drop, show mainLen (ancs al) al.length + (i - mainLen (ancs al) al.length) = i by omega]
        exact List.getElem?_eq_getElem hi
    refine draw_go hc df hbound (fun i d hi hd => ?_) ops.size t (Array.replicate ops.size false) [] _ tm tm h (fun _ => none) ι w act (by simp) (by have := List.countP_le_length (p := fun j => !(Array.replicate ops.size false).getD j false) (l := List.range ops.size); simpa using this) he (fun i hi => df.small i (by simpa using hi)) (fun i hi => by simpa using df.cover i hi) ?_ s (.refl ι h) (.refl N w) ha hd hwp
    · obtain ⟨p, hp, e⟩ := dopers_mem (al := al) (as := ancs al) (done := []) (df.cover i hi)
      exact List.mem_filterMap.2 ⟨p, hp, by rw [e, hd]⟩
    · have none' : ∀ i, (Array.replicate ops.size false).getD i false = false := fun i => by
        rw [Array.getD_eq_getD_getElem?, Array.getElem?_replicate]; split <;> rfl
      exact ⟨fun i hi => (by simp only [none'] at hi; cases hi), fun i hi => (by cases hi), fun i hi => (by cases hi), fun i hi => (by cases hi), fun i hi => (by simp only [none'] at hi; cases hi), fun _ _ => rfl, fun i hi => (by cases hi), fun i hi => (by cases hi), fun i hi => (by cases hi)⟩
  · cases hcd

/-- What a loop over a function is made of. -/
structure LoopOk (P : Program) (n : Nat) (ps : List Nat) (aa ab : ACode) (ca cb : Code) : Prop where
  ca : compCode P ca = some aa
  cb : compCode P cb = some ab
  ba : aa.bound n = true
  bb : ab.bound n = true
  bp : ∀ p ∈ ps, p < n
/-- Behind the call of the function that was ranged over. -/
def rangeEnd (Q : AEx → TM → List ADef → AHeap → Prop) (tm : TM) (ds : List ADef) (D l : Nat) (mk : LoopState → Option Code → ABlk) : AEnd → AHeap → Prop
  | .ret _, h2 => ∃ st pend, h2 l = some (mk st pend) ∧ st ≠ .busy ∧ (match pend with
      | none => Q .normal tm (.coll D :: ds) (h2.upd l (mk .exhausted none))
      | some .ret => Q .ret tm (.coll D :: ds) (h2.upd l (mk .exhausted (some .ret)))
      | some (.exit id) => Q (.exit id) tm (.coll D :: ds) (h2.upd l (mk .exhausted (some (.exit id))))
      | _ => False)
  | .panic v, h2 => Q (.panic v) tm (.coll D :: ds) h2

def ACode.wp (P : Program) (N : Nat) (rd : Bool) : ACode → (AEx → TM → List ADef → AHeap → Prop) → TM → List ADef → AHeap → Prop
  | .skip, Q, tm, ds, h => Q .normal tm ds h
  | .region l, Q, tm, ds, h => wpOps P N rd Q l tm ds h
  | .draw main tail, Q, tm, ds, h => wpMain P N rd (dstsOf main) (fun v tm h => Q (.panic v) tm ds h) (fun tm h => wpOps P N rd Q tail tm ds h) main tm h
  | .seq a b, Q, tm, ds, h => a.wp P N rd (fun e tm ds h => match e with | .normal => b.wp P N rd Q tm ds h | e => Q e tm ds h) tm ds h
  | .cond c a b, Q, tm, ds, h => match c.ev tm with
    | .bool true => a.wp P N rd Q tm ds h
    | .bool false => b.wp P N rd Q tm ds h
    | _ => False
  | .block id c, Q, tm, ds, h => c.wp P N rd (fun e tm ds h => match e with | .exit j => if j = id then Q .normal tm ds h else Q (.exit j) tm ds h | e => Q e tm ds h) tm ds h
  | .loop c, Q, tm, ds, h => ∃ I : Nat → TM → List ADef → AHeap → Prop, (∃ k, I k tm ds h) ∧ ∀ k tm ds h1, Dom h h1 → I k tm ds h1 → c.wp P N rd (fun e tm ds h => match e with | .normal => ∃ k', k' < k ∧ I k' tm ds h | e => Q e tm ds h) tm ds h1
  | .rangeFunc f ps aa ab, Q, tm, ds, h => rd = false ∧ ∃ g first cap, f.ev tm = .func (.func g) first cap ∧ ∀ (D l : Nat), h D = none → h l = none → l ≠ D → ∀ (fn : FuncId) (n : Nat) (ca cb : Code), LoopOk P n ps aa ab ca cb →
      ACalls P N g (first ++ [.yld l] ++ cap) ((h.upd D (.raw (.deferred (some [])))).upd l (.loop .ready none fn tm n ps ca cb)) (rangeEnd Q tm ds D l fun st pend => .loop st pend fn tm n ps ca cb)
  | .exit id, Q, tm, ds, h => Q (.exit id) tm ds h
  | .ret, Q, tm, ds, h => Q .ret tm ds h

/-- CODE DOES WHAT THE TRANSFORMER SAYS. -/
theorem code_sound (hm : P.follows .mixedOrders = true) (r : Option Nat) (n : Nat) : ∀ (c : Code) (ac : ACode), compCode P c = some ac → ac.bound n = true → ∀ (Q : AEx → TM → List ADef → AHeap → Prop) (tm : TM) (ds : List ADef) (h : AHeap) (ι : Emb) (w : World) (act : Act),
    Sim N ι h w → ActRel ι n tm act.tmps → DsRel ι ds act.defers → ac.wp P N r.isSome Q tm ds h → CW P r c (ExPost N ι h w n Q) act w := by
  intro c
  induction c with
  | skip =>
    intro ac hc _ Q tm ds h ι w act s ha hd hwp
    simp only [compCode] at hc; cases hc
    exact cw_skip ⟨ι, .normal, tm, ds, h, .refl ι h, s, .refl _ _, trivial, ha, hd, hwp⟩
  | label l =>
    intro ac hc _ Q tm ds h ι w act s ha hd hwp
    simp only [compCode] at hc; cases hc
    exact cw_label ⟨ι, .normal, tm, ds, h, .refl ι h, s, .refl _ _, trivial, ha, hd, hwp⟩
  | region id ops draw =>
    intro ac hc hb Q tm ds h ι w act s ha hd hwp
    simp only [compCode] at hc
    cases draw with
    | false =>
      simp only [] at hc
      obtain ⟨al, hal, rfl⟩ := Option.map_eq_some_iff.1 hc
      rw [ACode.bound, boundOps_strip] at hb
      rw [ACode.wp, wpOps_strip] at hwp
      have := ops_sound (N := N) (Q := Q) r ops.toList al 0 hal (fun j _ => by simp) hb hwp s ha hd
      refine cw_region ?_
      rw [List.range_eq_range']
      simpa using this
    | true =>
      simp only [] at hc
      obtain ⟨al, hal, hcd⟩ := Option.bind_eq_some_iff.1 hc
      obtain ⟨main, tail, rfl⟩ : ∃ main tail, ac = .draw main tail := by
        unfold compDraw at hcd
        simp only [] at hcd
        split at hcd
        · cases hcd; exact ⟨_, _, rfl⟩
        · cases hcd
      simp only [ACode.bound, Bool.and_eq_true] at hb
      refine cw_region_draw fun t => ?_
      exact (draw_sound r hm hal hcd hb.1 hb.2 (w := { w with drawn := w.drawn + 1 }) (s.same rfl) ha hd hwp t).mono fun e a u hx => hx.back (.refl ι h) (Below.drew (.refl N w))
  | seq x y ihx ihy =>
    intro ac hc hb Q tm ds h ι w act s ha hd hwp
    simp only [compCode] at hc
    split at hc
    · rename_i ax ay hx hy
      cases hc
      simp only [ACode.bound, Bool.and_eq_true] at hb
      refine cw_seq ((ihx ax hx hb.1 _ tm ds h ι w act s ha hd hwp).mono fun e a u hx => ?_)
      obtain ⟨ι', x, tm', ds', h', g, s', hbl, he, ha', hd', hq⟩ := hx
      cases x <;> cases e <;> simp only [ExRel] at he
      · exact (ihy ay hy hb.2 Q tm' ds' h' ι' u a s' ha' hd' hq).mono fun e a u hx => hx.back g hbl
      · exact ⟨ι', .exit _, tm', ds', h', g, s', hbl, he, ha', hd', hq⟩
      · exact ⟨ι', .ret, tm', ds', h', g, s', hbl, trivial, ha', hd', hq⟩
      · exact ⟨ι', .panic _, tm', ds', h', g, s', hbl, he, ha', hd', hq⟩
    · cases hc
  | cond c x y ihx ihy =>
    intro ac hc hb Q tm ds h ι w act s ha hd hwp
    simp only [compCode] at hc
    split at hc
    · rename_i ac' ax ay hcc hx hy
      cases hc
      simp only [ACode.bound, Bool.and_eq_true] at hb
      have hv := compOpd_sound ha hcc
      simp only [ACode.wp] at hwp
      split at hwp
      · rename_i e; rw [e] at hv; exact cw_cond (t := true) hv.bool_inv (ihx ax hx hb.1 Q tm ds h ι w act s ha hd hwp)
      · rename_i e; rw [e] at hv; exact cw_cond (t := false) hv.bool_inv (ihy ay hy hb.2 Q tm ds h ι w act s ha hd hwp)
      · exact hwp.elim
    · cases hc
  | block id c ih =>
    intro ac hc hb Q tm ds h ι w act s ha hd hwp
    simp only [compCode] at hc
    obtain ⟨a', hc', rfl⟩ := Option.map_eq_some_iff.1 hc
    refine cw_block ((ih a' hc' hb _ tm ds h ι w act s ha hd hwp).mono fun e a u hx => ?_)
    obtain ⟨ι', x, tm', ds', h', g, s', hbl, he, ha', hd', hq⟩ := hx
    cases x <;> cases e <;> simp only [ExRel] at he
    · exact ⟨ι', .normal, tm', ds', h', g, s', hbl, trivial, ha', hd', hq⟩
    · subst he
      simp only [] at hq ⊢
      split
      · rename_i e; rw [if_pos e] at hq; exact ⟨ι', .normal, tm', ds', h', g, s', hbl, trivial, ha', hd', hq⟩
      · rename_i e; rw [if_neg e] at hq; exact ⟨ι', .exit _, tm', ds', h', g, s', hbl, rfl, ha', hd', hq⟩
    · exact ⟨ι', .ret, tm', ds', h', g, s', hbl, trivial, ha', hd', hq⟩
    · exact ⟨ι', .panic _, tm', ds', h', g, s', hbl, he, ha', hd', hq⟩
  | loop c ih =>
    intro ac hc hb Q tm ds h ι w act s ha hd hwp
    simp only [compCode] at hc
    obtain ⟨a', hc', rfl⟩ := Option.map_eq_some_iff.1 hc
    obtain ⟨I, ⟨k0, h0⟩, hI⟩ := hwp
    refine cw_loop (fun a u => ∃ k, ∃ ι' tm ds h', I k tm ds h' ∧ Grow ι h ι' h' ∧ Sim N ι' h' u ∧ Below N w u ∧ ActRel ι' n tm a.tmps ∧ DsRel ι' ds a.defers)
      (fun a u k => ∃ ι' tm ds h', I k tm ds h' ∧ Grow ι h ι' h' ∧ Sim N ι' h' u ∧ Below N w u ∧ ActRel ι' n tm a.tmps ∧ DsRel ι' ds a.defers) k0
      ⟨k0, ι, tm, ds, h, h0, .refl ι h, s, .refl N w, ha, hd⟩ ⟨ι, tm, ds, h, h0, .refl ι h, s, .refl N w, ha, hd⟩ ?_
    rintro k a u - ⟨ι1, tm1, ds1, h1, hi, g, s1, b1, ha1, hd1⟩
    refine (ih a' hc' hb _ tm1 ds1 h1 ι1 u a s1 ha1 hd1 (hI k tm1 ds1 h1 g.dom hi)).mono fun e a2 u2 hx => ?_
    obtain ⟨ι', x, tm', ds', h', g', s', hbl, he, ha', hd', hq⟩ := hx
    cases x <;> cases e <;> simp only [ExRel] at he
    · obtain ⟨k', hk', hi'⟩ := hq
      have y : ∃ ι'' tm ds h'', I k' tm ds h'' ∧ Grow ι h ι'' h'' ∧ Sim N ι'' h'' u2 ∧ Below N w u2 ∧ ActRel ι'' n tm a2.tmps ∧ DsRel ι'' ds a2.defers := ⟨ι', tm', ds', h', hi', g.trans g', s', b1.trans hbl, ha', hd'⟩
      exact ⟨⟨k', y⟩, k', hk', y⟩
    · exact ⟨ι', .exit _, tm', ds', h', g.trans g', s', b1.trans hbl, he, ha', hd', hq⟩
    · exact ⟨ι', .ret, tm', ds', h', g.trans g', s', b1.trans hbl, trivial, ha', hd', hq⟩
    · exact ⟨ι', .panic _, tm', ds', h', g.trans g', s', b1.trans hbl, he, ha', hd', hq⟩
  | rangeFunc f ps x y _ _ =>
    intro ac hc hb Q tm ds h ι w act s ha hd hwp
    simp only [compCode] at hc
    split at hc
    · rename_i f' aa ab hf' hx hy
      cases hc
      simp only [ACode.bound, Bool.and_eq_true, List.all_eq_true, decide_eq_true_eq] at hb
      simp only [ACode.wp] at hwp
      obtain ⟨hrd, g, first, cap, hfe, hwp⟩ := hwp
      cases r with
      | some l => cases hrd
      | none =>
        have hv := compOpd_sound ha hf'
        rw [hfe] at hv
        obtain ⟨cu, hcu⟩ : ∃ cu, cu = act.eval f := ⟨_, rfl⟩
        rw [← hcu] at hv
        cases hv
        rename_i first' cap' hfirst hcap
        obtain ⟨mfin, hfin⟩ := s.fin
        have hD := hfin mfin (Nat.le_refl _)
        have hl := hfin (mfin + 1) (by omega)
        have hne : mfin + 1 ≠ mfin := by omega
        -- the two new blocks
        have s1 := s.alloc (.deferred (some [])) mfin hD 0 (.raw (.deferred (some []))) ⟨s.size, rfl, alloc_at _ _⟩
        have hl1 : (h.upd mfin (.raw (.deferred (some [])))) (mfin + 1) = none := by rw [AHeap.upd_other _ _ hne]; exact hl
        have e1 : Ext ι (ι.upd mfin ⟨w.heap.size, 0, 0⟩) := Emb.ext_upd (s.fresh hD)
        have e2 : Ext (ι.upd mfin ⟨w.heap.size, 0, 0⟩) ((ι.upd mfin ⟨w.heap.size, 0, 0⟩).upd (mfin + 1) ⟨(w.alloc (.deferred (some []))).heap.size, 0, 0⟩) := Emb.ext_upd (s1.fresh hl1)
        have hsz1 : (w.alloc (.deferred (some []))).heap.size = w.heap.size + 1 := by simp
        have key : ∀ fn, Sim N ((ι.upd mfin ⟨w.heap.size, 0, 0⟩).upd (mfin + 1) ⟨(w.alloc (.deferred (some []))).heap.size, 0, 0⟩) ((h.upd mfin (.raw (.deferred (some [])))).upd (mfin + 1) (.loop .ready none fn tm n ps.toList x y))
            ((w.alloc (.deferred (some []))).alloc (.loop (loopRec fn act.tmps ps x y w.heap.size))) := fun fn =>
          s1.alloc _ (mfin + 1) hl1 0 _ ⟨s1.size, loopRec fn act.tmps ps x y w.heap.size, alloc_at _ _, ⟨rfl, rfl, rfl, by simp [loopRec], rfl, rfl, ha.size⟩, fun t => ((ha.ext e1).ext e2).get t⟩
        have lok : LoopOk P n ps.toList aa ab x y := ⟨hx, hy, hb.1.2, hb.2, hb.1.1⟩
        have hbel : ∀ fn, Below N w ((w.alloc (.deferred (some []))).alloc (.loop (loopRec fn act.tmps ps x y w.heap.size))) := fun fn => by
          refine ⟨rfl, rfl, rfl, (by simp; omega), fun k hk => ?_⟩
          have := s.size
          rw [Below.heap_alloc _ _ k (by simp; omega), Below.heap_alloc _ _ k (by omega)]
        have g0 : ∀ fn, Grow ι h ((ι.upd mfin ⟨w.heap.size, 0, 0⟩).upd (mfin + 1) ⟨(w.alloc (.deferred (some []))).heap.size, 0, 0⟩) ((h.upd mfin (.raw (.deferred (some [])))).upd (mfin + 1) (.loop .ready none fn tm n ps.toList x y)) := fun fn =>
          ⟨e1.trans e2, (Dom.new hD _).trans (Dom.new hl1 _), fun c hc hi => by
            have h1 : c ≠ mfin := fun e => hc (e ▸ hD)
            have h2 : c ≠ mfin + 1 := fun e => hc (e ▸ hl)
            rw [Emb.upd_other _ _ h2, Emb.upd_other _ _ h1]; exact hi⟩
        refine cw_rangeFunc hcu.symm (hwp mfin (mfin + 1) hD hl hne 0 n x y lok).1 fun fn => ?_
        have hc := (hwp mfin (mfin + 1) hD hl hne fn n x y lok).2 _ _ (first' ++ #[Value.func (.yield (w.heap.size + 1)) #[] #[]] ++ cap') (key fn) (by
          simp only [Array.toList_append]
          refine (((hfirst.ext e1).ext e2).append (.cons _ _ _ _ ?_ .nil)).append ((hcap.ext e1).ext e2)
          rw [← hsz1]
          exact .yld (mfin + 1) _ (Emb.upd_same _ _ _))
        refine hc.mono fun e w2 hx => ?_
        obtain ⟨ι', h', x', g1, s', hbl, he, hr⟩ := hx
        have gg := (g0 fn).trans g1
        have bb := (hbel fn).trans hbl
        have hDι : ι' mfin = some ⟨w.heap.size, 0, 0⟩ := g1.ext _ _ (e2 _ _ (Emb.upd_same _ _ _))
        have hlι : ι' (mfin + 1) = some ⟨(w.alloc (.deferred (some []))).heap.size, 0, 0⟩ := g1.ext _ _ (Emb.upd_same _ _ _)
        have hds : DsRel ι' (.coll mfin :: ds) ({ target := .collected w.heap.size, args := #[] } :: act.defers) := .cons _ _ _ _ ⟨_, hDι, rfl⟩ (hd.ext gg.ext)
        cases e with
        | outgrown => cases x' <;> exact he
        | panicked chain =>
          cases x' with
          | ret v => exact he.elim
          | panic v => exact ⟨ι', .panic v, tm, _, h', gg, s', bb, he, ha.ext gg.ext, hds, hr⟩
        | returned cv =>
          cases x' with
          | panic v => exact he.elim
          | ret v =>
            obtain ⟨st, pend, hloop, hst, hq⟩ := hr
            obtain ⟨hN, rr, hrr, ⟨q1, q2, q3, q4, q5, q6, q7⟩, hq8⟩ := s'.at_ _ _ _ hlι hloop
            simp only [hsz1] at hrr hN hlι
            have hend := run_endLoop (P := P) hrr (by rw [q1]; exact hst)
            have hb3 : Below N w2 { w2 with heap := w2.heap.setIfInBounds (w.heap.size + 1) (.loop { rr with state := .exhausted }) } := Below.setObj hN
            have hs3 : Sim N ι' (h'.upd (mfin + 1) (.loop .exhausted pend fn tm n ps.toList x y)) { w2 with heap := w2.heap.setIfInBounds (w.heap.size + 1) (.loop { rr with state := .exhausted }) } :=
              s'.setObj hlι hloop _ rfl rfl ⟨hN, _, setObj_get hrr, ⟨rfl, q2, q3, q4, q5, q6, q7⟩, hq8⟩
            have gl : Grow ι h ι' (h'.upd (mfin + 1) (.loop .exhausted pend fn tm n ps.toList x y)) := gg.trans (.of_dom (Dom.upd _ _ _ (fun cs hc => by rw [hloop] at hc; cases hc)))
            obtain ⟨W, hW⟩ : ∃ W, W = { w2 with heap := w2.heap.setIfInBounds (w.heap.size + 1) (.loop { rr with state := .exhausted }) } := ⟨_, rfl⟩
            rw [← hW] at hend hs3 hb3
            rw [q2] at hend
            clear hW
            refine ⟨pend, W, hend, ?_⟩
            cases pend with
            | none => exact ⟨ι', .normal, tm, _, _, gl, hs3, bb.trans hb3, trivial, ha.ext gg.ext, hds, hq⟩
            | some j =>
              cases j with
              | ret => exact ⟨ι', .ret, tm, _, _, gl, hs3, bb.trans hb3, trivial, ha.ext gg.ext, hds, hq⟩
              | exit id => exact ⟨ι', .exit id, tm, _, _, gl, hs3, bb.trans hb3, rfl, ha.ext gg.ext, hds, hq⟩
              | _ => exact hq.elim
    · cases hc
  | exit id =>
    intro ac hc _ Q tm ds h ι w act s ha hd hwp
    simp only [compCode] at hc; cases hc
    exact cw_exit ⟨ι, .exit id, tm, ds, h, .refl ι h, s, .refl _ _, rfl, ha, hd, hwp⟩
  | scope c ih =>
    intro ac hc hb Q tm ds h ι w act s ha hd hwp
    simp only [compCode] at hc
    exact cw_scope (ih ac hc hb Q tm ds h ι w act s ha hd hwp)
  | ret =>
    intro ac hc _ Q tm ds h ι w act s ha hd hwp
    simp only [compCode] at hc; cases hc
    exact cw_ret ⟨ι, .ret, tm, ds, h, .refl ι h, s, .refl _ _, trivial, ha, hd, hwp⟩
  | goto l => intro ac hc; simp only [compCode] at hc; cases hc
  | refuse l => intro ac hc; simp only [compCode] at hc; cases hc
end
end Go.Am
/-
  FUNCTIONS: contracts out of the predicate transformer.
-/
namespace Go.Am
open Go.RowKit

inductive ARV where
  | tmp (t : Nat)
  | cell (a : Nat) (n : Option Nat)
structure AFn where
  n : Nat
  code : ACode
  rvs : List ARV

def compRV (P : Program) : ResultVar → Option ARV
  | .tmp t => some (.tmp t)
  | .cell a t => (aggSize P t).map (.cell a)
def compRVs (P : Program) : List ResultVar → Option (List ARV)
  | [] => some []
  | r :: l => match compRV P r, compRVs P l with
    | some x, some y => some (x :: y)
    | _, _ => none
/-- A function of the program, compiled. -/
def compFn (P : Program) (f : FuncId) : Option AFn := match P.funcs[f]? with
  | some fn => match fn.body with
    | some c => match compCode P c, compRVs P fn.results.toList with
      | some ac, some rv => if ac.bound fn.ntmps = true ∧ (fn.name == "runtime.NumGoroutine") = false then some { n := fn.ntmps, code := ac, rvs := rv } else none
      | _, _ => none
    | none => none
  | none => none

def resA (h : AHeap) (tm : TM) : ARV → Option AV
  | .tmp t => some (tm t)
  | .cell a n => match loadA h n (tm a) with
    | .val v _ => some v
    | _ => none
def resAll (h : AHeap) (tm : TM) : List ARV → Option (List AV)
  | [] => some []
  | r :: l => match resA h tm r, resAll h tm l with
    | some x, some y => some (x :: y)
    | _, _ => none
def joinA : List AV → AV
  | [v] => v
  | l => .tuple l
def tmOf (args : List AV) : TM := fun t => args.getD t undefA

/-- What is deferred is done: the marks of loops over functions. -/
def unw (R : AHeap → Prop) : List ADef → AHeap → Prop
  | [], h => R h
  | .coll D :: ds, h => h D = some (.raw (.deferred (some []))) ∧ unw R ds (h.upd D (.raw (.deferred none)))
  | .call .. :: _, _ => False
/-- How a body's end becomes a call's. -/
def fnEnd (rvs : List ARV) (R : AEnd → AHeap → Prop) : AEx → TM → List ADef → AHeap → Prop
  | .normal, tm, ds, h | .ret, tm, ds, h => unw (fun h => ∃ vs, resAll h tm rvs = some vs ∧ R (.ret (joinA vs)) h) ds h
  | .panic v, _, ds, h => unw (R (.panic v)) ds h
  | .exit _, _, _, _ => False

section
variable {P : Program} {N : Nat}

theorem loadVar_sound {ι : Emb} {h : AHeap} {w : World} (s : Sim N ι h w) {t : TypeId} {r : Option Nat} (hz : aggSize P t = some r) {a v : AV} {ca : Value} (hv : VRel ι a ca) {h' : AHeap} (e : loadA h r a = .val v h') :
    ∃ ad cv, ca = .pointer (some ad) ∧ (loadVar t ad).run P w = .ok cv w ∧ VRel ι v cv := by
  unfold loadA at e
  split at e
  · rename_i b k
    cases hv
    rename_i L hL
    split at e
    · rename_i cs ro hb
      obtain ⟨d, hd, hr⟩ := isAgg_of (w := w) hz
      rcases hr with ⟨rfl, hrun⟩ | ⟨i, hi, rfl, hrun⟩
      · split at e
        · split at e
          · rename_i v hv
            cases e
            obtain ⟨cv, h1, h2⟩ := s.cell hL hb hv
            exact ⟨⟨L.blk, L.off + k, none⟩, cv, rfl, by simp [loadVar, hrun, h1], h2⟩
          · cases e
        · rename_i hm; cases hm
      · split at e
        · rename_i hm; cases hm
        · rename_i m hm; cases hm
          split at e
          · rename_i hle
            cases e
            obtain ⟨cvs, hl, hr, hcell⟩ := s.cellsIn hL hb hle
            have := run_loadCells_list (P := P) w _ cvs hcell
            rw [hl] at this
            exact ⟨⟨L.blk, L.off + k, none⟩, .agg cvs.toArray, rfl, by simp [loadVar, hrun, sizeOf, run_info hi, this], .agg _ _ (by simpa using hr)⟩
          · cases e
    · cases e
  · cases e

/-- One result. -/
def resVar (tmps : Array Value) : ResultVar → Sem Value
  | .tmp t => pure (tmps.getD t undef)
  | .cell a t => do loadVar t (← asAddr (tmps.getD a undef))
theorem results_eq (fn : Func) (tmps : Array Value) : results fn tmps = (do let vs ← fn.results.mapM (resVar tmps); pure (if h : vs.size = 1 then vs[0] else .tuple vs)) := rfl

theorem results_sound {ι : Emb} {h : AHeap} {w : World} (s : Sim N ι h w) {n : Nat} {tm : TM} {tmps : Array Value} (ha : ActRel ι n tm tmps) : ∀ (l : List ResultVar) (rvs : List ARV) (vs : List AV), compRVs P l = some rvs → resAll h tm rvs = some vs →
    ∃ cvs : List Value, (l.mapM (m := Sem) (resVar tmps)).run P w = .ok cvs w ∧ VsRel ι vs cvs
  | [], rvs, vs, h1, h2 => by
    simp only [compRVs] at h1; cases h1
    simp only [resAll] at h2; cases h2
    exact ⟨[], by simp, .nil⟩
  | r :: l, rvs, vs, h1, h2 => by
    simp only [compRVs] at h1
    split at h1
    · rename_i x y hx hy
      cases h1
      simp only [resAll] at h2
      split at h2
      · rename_i v vs' hv hvs
        cases h2
        obtain ⟨cvs, hrun, hr⟩ := results_sound s ha l y vs' hy hvs
        cases r with
        | tmp t =>
          simp only [compRV] at hx; cases hx
          simp only [resA] at hv; cases hv
          refine ⟨tmps.getD t undef :: cvs, ?_, .cons _ _ _ _ (ha.get t) hr⟩
          rw [List.mapM_cons, show resVar tmps (.tmp t) = pure (tmps.getD t undef) from rfl]
          simp only [pure_bind]
          simp [hrun]
        | cell a t =>
          simp only [compRV] at hx
          obtain ⟨q, hq, rfl⟩ := Option.map_eq_some_iff.1 hx
          simp only [resA] at hv
          split at hv
          · rename_i u h' hl
            cases hv
            obtain ⟨ad, cv, hca, hlv, hvr⟩ := loadVar_sound s hq (ha.get a) hl
            refine ⟨cv :: cvs, ?_, .cons _ _ _ _ hvr hr⟩
            have h1 : (resVar tmps (.cell a t)).run P w = .ok cv w := by
              simp only [resVar, hca]
              simp [asAddr, hlv]
            rw [List.mapM_cons]
            simp [hrun, h1]
          · cases hv
      · cases h2
    · cases h1

theorem VsRel.join {ι : Emb} {vs : List AV} {cvs : List Value} (h : VsRel ι vs cvs) : VRel ι (joinA vs) (if h : cvs.toArray.size = 1 then cvs.toArray[0] else .tuple cvs.toArray) := by
  cases h with
  | nil => exact .tuple _ _ .nil
  | cons v v' l l' hv hs =>
    cases hs with
    | nil => simpa [joinA] using hv
    | cons u u' m m' hu hs' =>
      have : ¬ ((v' :: u' :: m').toArray.size = 1) := by simp
      rw [dif_neg this]
      exact .tuple _ _ (.cons _ _ _ _ hv (.cons _ _ _ _ hu hs'))

theorem unwind_sound {R : AHeap → Prop} : ∀ {ds : List ADef} {h : AHeap} {ι : Emb} {w : World} {fr : Frame} {cs : List Frame}, fr.mode ≠ .run → DsRel ι ds fr.defers → unw R ds h → Sim N ι h w →
    ∃ h' w', Steps P (lone fr cs w) (lone { fr with defers := [] } cs w') ∧ Sim N ι h' w' ∧ Below N w w' ∧ Grow ι h ι h' ∧ R h'
  | [], h, ι, w, fr, cs, _, hd, hu, s => by
    have hnil : fr.defers = [] := by
      generalize fr.defers = dl at hd
      cases hd; rfl
    refine ⟨h, w, ?_, s, .refl N w, .refl ι h, hu⟩
    have : ({ fr with defers := [] } : Frame) = fr := by rw [← hnil]
    rw [this]; exact .refl _ _
  | .coll D :: ds, h, ι, w, fr, cs, hm, hd, hu, s => by
    obtain ⟨hD, hu⟩ := hu
    generalize hdl : fr.defers = dl at hd
    cases hd with
    | cons _ d _ ds' hdr hds =>
      obtain ⟨L, hL, htar⟩ := hdr
      obtain ⟨hN, hnc, hobj⟩ := s.at_ D L _ hL hD
      have hset := setObj_run (P := P) (o' := .deferred none) hobj rfl
      have hget : (getObj L.blk).run P w = .ok (.deferred (some [])) w := by simp [getObj, Sem.run, hobj]
      have htake : (Instr.takeDeferred L.blk).run P w = .ok [] { w with heap := w.heap.setIfInBounds L.blk (.deferred none) } := by
        simp [Instr.takeDeferred, hget, hset]
      have h1 := step_collected (cs := cs) hm hdl htar htake
      have s' : Sim N ι (h.upd D (.raw (.deferred none))) { w with heap := w.heap.setIfInBounds L.blk (.deferred none) } := s.setObj hL hD _ rfl rfl ⟨hN, rfl, setObj_get hobj⟩
      obtain ⟨h', w', hs, s2, hb, g, hR⟩ := unwind_sound (fr := { fr with defers := [] ++ ds' }) (cs := cs) hm hds hu s'
      exact ⟨h', w', .head h1 hs, s2, (Below.setObj hN).trans hb, (Grow.of_dom (Dom.upd _ _ _ (fun cs hc => by rw [hD] at hc; cases hc))).trans g, hR⟩

/-- How a body's end becomes a function's. -/
def bodyEndU (P : Program) (fn : Func) (R : Ending → World → Prop) : Ex → Act → World → Prop
  | .normal, a, w | .ret, a, w => ∀ (fr : Frame) (cs : List Frame), fr.mode = .returning → fr.defers = a.defers → ∃ w', Steps P (lone fr cs w) (lone { fr with defers := [] } cs w') ∧ ∃ v, (results fn a.tmps).run P w' = .ok v w' ∧ R (.returned v) w'
  | .panic chain, a, w => ∀ (fr : Frame) (cs : List Frame), fr.mode = .panicking chain → fr.defers = a.defers → ∃ w', Steps P (lone fr cs w) (lone { fr with defers := [] } cs w') ∧ R (.panicked chain) w'
  | .exit _, _, _ => False

theorem calls_of_cwU {f : FuncId} {fn : Func} {c : Code} {args : Array Value} {w : World} {R : Ending → World → Prop}
    (hf : P.funcs[f]? = some fn) (hb : fn.body = some c)
    (h : CW P none c (bodyEndU P fn R) { tmps := args ++ Array.replicate (fn.ntmps - args.size) undef, defers := [] } w) : Calls P f args w R := by
  intro cs
  let b : Frame := { (default : Frame) with fn := f, kind := .normal, roundOf := none }
  have henter : Frame.enter P f args .normal = atR b { tmps := args ++ Array.replicate (fn.ntmps - args.size) undef, defers := [] } [.code c] := by
    simp [Frame.enter, atR, hf, hb, b]
  obtain ⟨e, a', w', hq, harr⟩ := h b [] cs rfl
  rw [← henter] at harr
  cases e with
  | normal =>
    obtain ⟨w2, hs, v, hr, hR⟩ := hq { atR b a' [] with mode := .returning } cs rfl rfl
    exact ⟨.returned v, w2, _, hR, Steps.trans harr (.head (mv_end rfl) hs), rfl, rfl, rfl, rfl, fn, hf, hr⟩
  | ret =>
    obtain ⟨todo, hs'⟩ := harr
    obtain ⟨w2, hs, v, hr, hR⟩ := hq { atR b a' (.code .ret :: todo) with mode := .returning } cs rfl rfl
    exact ⟨.returned v, w2, _, hR, Steps.trans hs' (.head (mv_ret rfl) hs), rfl, rfl, rfl, rfl, fn, hf, hr⟩
  | panic chain =>
    obtain ⟨todo, hs'⟩ := harr
    obtain ⟨w2, hs, hR⟩ := hq { atR b a' todo with mode := .panicking chain } cs rfl rfl
    exact ⟨.panicked chain, w2, _, hR, Steps.trans hs' hs, rfl, rfl, rfl, fn, hf⟩
  | exit id => exact hq.elim

/-- A CONTRACT out of what the transformer says of the body. -/
theorem acalls_of_wp {f : FuncId} {af : AFn} (hc : compFn P f = some af) (hm : P.follows .mixedOrders = true) {args : List AV} (hargs : args.length ≤ af.n) {h : AHeap} {R : AEnd → AHeap → Prop}
    (hwp : af.code.wp P N false (fnEnd af.rvs R) (tmOf args) [] h) : ACalls P N f args h R := by
  unfold compFn at hc
  split at hc
  · rename_i fn hf
    split at hc
    · rename_i c hb
      split at hc
      · rename_i ac rv hac hrv
        split at hc
        · rename_i hok
          cases hc
          refine ⟨⟨fn, hf, by rw [hb]; rfl, hok.2⟩, fun ι w vs s hv => calls_of_cwU hf hb ?_⟩
          have hlen := hv.length
          have ha : ActRel ι fn.ntmps (tmOf args) (vs ++ Array.replicate (fn.ntmps - vs.size) undef) := by
            simp only [Array.length_toList] at hlen
            simp only [] at hargs
            refine ⟨by simp; omega, fun t => ?_⟩
            unfold tmOf
            rw [List.getD_eq_getElem?_getD, Array.getD_eq_getD_getElem?]
            by_cases e : t < vs.size
            · have e' : t < args.length := by omega
              obtain ⟨cv, hcv, hr⟩ := hv.get (List.getElem?_eq_getElem e')
              rw [Array.getElem?_append_left e, List.getElem?_eq_getElem e']
              have : vs[t]? = some cv := by simpa using hcv
              rw [this]; exact hr
            · rw [List.getElem?_eq_none (by omega), Array.getElem?_append_right (by omega), Array.getElem?_replicate]
              split <;> exact .undef ι
          refine (code_sound hm none fn.ntmps c ac hac hok.1 _ (tmOf args) [] h ι w { tmps := vs ++ Array.replicate (fn.ntmps - vs.size) undef, defers := [] } s ha .nil hwp).mono fun e a u hx => ?_
          obtain ⟨ι', x, tm', ds', h', g, s', hbl, he, ha', hd', hq⟩ := hx
          have fin : unw (fun h => ∃ vs, resAll h tm' rv = some vs ∧ R (.ret (joinA vs)) h) ds' h' → ∀ (fr : Frame) (cs : List Frame), fr.mode = .returning → fr.defers = a.defers →
              ∃ w', Steps P (lone fr cs u) (lone { fr with defers := [] } cs w') ∧ ∃ v, (results fn a.tmps).run P w' = .ok v w' ∧ EndPost N ι h w R (.returned v) w' := fun hu fr cs hm hdf => by
            obtain ⟨h2, w2, hs, s2, hb2, g2, vs, hvs, hR⟩ := unwind_sound (cs := cs) (fr := fr) (by rw [hm]; simp) (hdf ▸ hd') hu s'
            obtain ⟨cvs, hrun, hr⟩ := results_sound s2 ha' _ _ _ hrv hvs
            refine ⟨w2, hs, _, ?_, ι', h2, .ret (joinA vs), g.trans g2, s2, hbl.trans hb2, hr.join, hR⟩
            rw [results_eq, Array.mapM_eq_mapM_toList]
            simp [hrun]
          cases x <;> cases e <;> simp only [ExRel] at he
          · exact fin hq
          · exact hq.elim
          · exact fin hq
          · intro fr cs hm hdf
            obtain ⟨h2, w2, hs, s2, hb2, g2, hR⟩ := unwind_sound (cs := cs) (fr := fr) (by rw [hm]; simp) (hdf ▸ hd') hq s'
            exact ⟨w2, hs, ι', h2, .panic _, g.trans g2, s2, hbl.trans hb2, he, hR⟩
        · cases hc
      · cases hc
    · cases hc
  · cases hc
end
end Go.Am
/-
  ROUNDS: what a round of a loop over a function promises to the function that yields.
-/
namespace Go.Am
open Go.RowKit

def putAll : TM → List Nat → List AV → TM
  | tm, p :: ps, v :: vs => putAll (tm.put (some p) v) ps vs
  | tm, _, _ => tm

section
variable {P : Program} {N : Nat}

theorem ActRel.putAll {ι : Emb} {n : Nat} : ∀ {ps : List Nat} {args : List AV} {vs : List Value} {tm : TM} {tmps : Array Value}, VsRel ι args vs → (∀ p ∈ ps, p < n) → ActRel ι n tm tmps →
    ActRel ι n (putAll tm ps args) ((ps.zip vs).foldl (fun tmps (t, a) => tmps.setIfInBounds t a) tmps)
  | [], args, vs, tm, tmps, _, _, ha => by simpa [Am.putAll] using ha
  | p :: ps, [], vs, tm, tmps, hv, _, ha => by cases hv; simpa [Am.putAll] using ha
  | p :: ps, v :: args, vs, tm, tmps, hv, hp, ha => by
    cases hv with
    | cons _ v' _ vs' h hs =>
      simp only [Am.putAll, List.zip_cons_cons, List.foldl_cons]
      exact ActRel.putAll hs (fun q hq => hp q (List.mem_cons_of_mem _ hq)) (ActRel.put (a := { tmps := tmps, defers := [] }) ha (some p) (fun x hx => by cases hx; exact hp _ (List.mem_cons_self ..)) h)

/-- What a round must come to. -/
def roundPostA (l : Nat) (mk : LoopState → Option Code → ABlk) (R : AEnd → AHeap → Prop) : AEx → TM → List ADef → AHeap → Prop
  | .normal, _, _, h => h l = some (mk .busy none) ∧ R (.ret (.bool true)) (h.upd l (mk .ready none))
  | .ret, _, _, h => h l = some (mk .busy none) ∧ R (.ret (.bool false)) (h.upd l (mk .done (some .ret)))
  | .exit id, _, _, h => h l = some (mk .busy none) ∧ R (.ret (.bool false)) (h.upd l (mk .done (some (.exit id))))
  | .panic _, _, _, _ => False

/-- A ROUND, OUT OF WHAT THE TRANSFORMER SAYS OF THE LOOP's BODY. -/
theorem ayields_of_wp (hm : P.follows .mixedOrders = true) {l : Nat} {fn : FuncId} {tm : TM} {n : Nat} {ps : List Nat} {aa ab : ACode} {ca cb : Code} (lok : LoopOk P n ps aa ab ca cb) {args : List AV} (hargs : args.length = ps.length) {h : AHeap} {R : AEnd → AHeap → Prop}
    (hl : h l = some (.loop .ready none fn tm n ps ca cb))
    (hwp : aa.wp P N true (fun e tm1 ds h1 => e = .normal ∧ ds = [] ∧ h1 l = some (.loop .ready none fn tm n ps ca cb) ∧
      ab.wp P N true (roundPostA l (fun st pend => .loop st pend fn tm n ps ca cb) R) tm1 [] (h1.upd l (.loop .busy none fn tm n ps ca cb))) (putAll tm ps args) [] h) : AYields P N l args h R := by
  intro ι w L vs s hL hv
  obtain ⟨hN, r, hr, ⟨q1, q2, q3, q4, q5, q6, q7⟩, hq8⟩ := s.at_ l L _ hL hl
  have hlen := hv.length
  have hsz : vs.size = r.params.size := by rw [q4]; simp at hlen ⊢; omega
  refine ⟨L.blk, r.fn, _, r.assign, r.body, run_yield hr hsz, runs_round ?_⟩
  have ha : ActRel ι n (putAll tm ps args) ((r.params.zip vs).foldl (fun tmps (t, a) => tmps.setIfInBounds t a) r.tmps) := by
    have := ActRel.putAll (ps := ps) hv lok.bp (tm := tm) (tmps := r.tmps) ⟨q7, hq8⟩
    rw [q4, ← Array.foldl_toList, Array.toList_zip]
    exact this
  rw [q5, q6]
  refine (code_sound hm (some L.blk) n ca aa lok.ca lok.ba _ (putAll tm ps args) [] h ι w { tmps := _, defers := [] } s ha .nil hwp).mono fun e a u hx => ?_
  obtain ⟨ι', x, tm', ds', h', g, s', hbl, he, ha', hd', rfl, rfl, hl', hwp'⟩ := hx
  cases e <;> simp only [ExRel] at he
  refine ⟨rfl, ?_⟩
  have hL' := g.ext _ _ hL
  obtain ⟨hN', r', hr', ⟨q1', q2', q3', q4', q5', q6', q7'⟩, hq8'⟩ := s'.at_ l L _ hL' hl'
  refine ⟨_, run_beginRound hr' q1', ?_⟩
  have s2 : Sim N ι' (h'.upd l (.loop .busy none fn tm n ps ca cb)) { u with heap := u.heap.setIfInBounds L.blk (.loop { r' with state := .busy }) } :=
    s'.setObj hL' hl' _ rfl rfl ⟨hN', _, setObj_get hr', ⟨rfl, q2', q3', q4', q5', q6', q7'⟩, hq8'⟩
  have b2 : Below N w { u with heap := u.heap.setIfInBounds L.blk (.loop { r' with state := .busy }) } := hbl.trans (Below.setObj hN')
  have g2 : Grow ι h ι' (h'.upd l (.loop .busy none fn tm n ps ca cb)) := g.trans (.of_dom (Dom.upd _ _ _ (fun cs hc => by rw [hl'] at hc; cases hc)))
  refine (code_sound hm (some L.blk) n cb ab lok.cb lok.bb _ tm' [] _ ι' _ a s2 ha' hd' hwp').mono fun e a u2 hx => ?_
  obtain ⟨ι2, x, tm2, ds2, h2, g3, s3, hbl3, he3, _, _, hq⟩ := hx
  have hL2 := g3.ext _ _ hL'
  have fin : ∀ (jump : Option Code), h2 l = some (.loop .busy none fn tm n ps ca cb) → R (.ret (.bool jump.isNone)) (h2.upd l (.loop (if jump.isNone then .ready else .done) jump fn tm n ps ca cb)) →
      ∃ v w', (Instr.endRound L.blk jump).run P u2 = .ok v w' ∧ EndPost N ι h w R (.returned v) w' := fun jump hb hR => by
    obtain ⟨hN2, r2, hr2, ⟨p1, p2, p3, p4, p5, p6, p7⟩, hp8⟩ := s3.at_ l L _ hL2 hb
    refine ⟨_, _, run_endRound hr2 jump, ι2, _, .ret (.bool jump.isNone), (g2.trans g3).trans (.of_dom (Dom.upd h2 l _ (fun cs hc => by rw [hb] at hc; cases hc))), s3.setObj (x' := .loop (if jump.isNone then .ready else .done) jump fn tm n ps ca cb) hL2 hb _ rfl rfl ⟨hN2, _, setObj_get hr2, ⟨rfl, rfl, p3, p4, p5, p6, p7⟩, hp8⟩, (b2.trans hbl3).trans (Below.setObj hN2), .bool _, hR⟩
  cases x <;> cases e <;> simp only [ExRel] at he3
  · exact fin none hq.1 hq.2
  · subst he3; exact fin (some (.exit _)) hq.1 hq.2
  · exact fin (some .ret) hq.1 hq.2
  · exact hq.elim
end
end Go.Am
/-
  WALKING COMPILED CODE: the transformer with its continuations laid out as a list.
-/
namespace Go.Am
open Go.RowKit

/-- A loop's round ends here. -/
def Meet (K : TM → List ADef → AHeap → Prop) (tm : TM) (ds : List ADef) (h : AHeap) : Prop := K tm ds h

inductive Kont where
  | seq (c : ACode)
  | block (id : Nat)
  | loop (K : TM → List ADef → AHeap → Prop)

section
variable (P : Program) (N : Nat) (rd : Bool) (Q : AEx → TM → List ADef → AHeap → Prop)

def Fin : List Kont → AEx → TM → List ADef → AHeap → Prop
  | [], e, tm, ds, h => Q e tm ds h
  | .seq c :: ks, e, tm, ds, h => match e with
    | .normal => c.wp P N rd (Fin ks) tm ds h
    | e => Fin ks e tm ds h
  | .block id :: ks, e, tm, ds, h => match e with
    | .exit j => if j = id then Fin ks .normal tm ds h else Fin ks (.exit j) tm ds h
    | e => Fin ks e tm ds h
  | .loop K :: ks, e, tm, ds, h => match e with
    | .normal => K tm ds h
    | e => Fin ks e tm ds h
def Wk (ks : List Kont) (c : ACode) (tm : TM) (ds : List ADef) (h : AHeap) : Prop := c.wp P N rd (Fin P N rd Q ks) tm ds h
def WkOps (ks : List Kont) (l : List AOper) (tm : TM) (ds : List ADef) (h : AHeap) : Prop := wpOps P N rd (Fin P N rd Q ks) l tm ds h
def WkRes (ks : List Kont) (dst : Option Nat) (l : List AOper) (tm : TM) (ds : List ADef) (h : AHeap) (r : ARes) : Prop :=
  r.wp P N rd h (fun v h' => WkOps P N rd Q ks l (tm.put dst v) ds h') (fun v h' => Fin P N rd Q ks (.panic v) tm ds h') (fun d => WkOps P N rd Q ks l (tm.put dst undefA) (d :: ds) h)
def WkCond (ks : List Kont) (a b : ACode) (tm : TM) (ds : List ADef) (h : AHeap) (v : AV) : Prop := match v with
  | .bool true => Wk P N rd Q ks a tm ds h
  | .bool false => Wk P N rd Q ks b tm ds h
  | _ => False
def WkG (ks : List Kont) (dst : Option Nat) (op : AOp) (l : List AOper) (tm : TM) (ds : List ADef) (h : AHeap) (b : Bool) : Prop :=
  if b = true then WkRes P N rd Q ks dst l tm ds h (op.ev tm h) else WkOps P N rd Q ks l (tm.put dst undefA) ds h
def WkMain (ks : List Kont) (dsts : List Nat) (tail : List AOper) (ds : List ADef) (l : List DOper) (tm : TM) (h : AHeap) : Prop :=
  wpMain P N rd dsts (fun v tm h => Fin P N rd Q ks (.panic v) tm ds h) (fun tm h => WkOps P N rd Q ks tail tm ds h) l tm h
def WkMRes (ks : List Kont) (dsts : List Nat) (tail : List AOper) (ds : List ADef) (dst : Option Nat) (pend : List AOper) (l : List DOper) (tm : TM) (h : AHeap) (r : ARes) : Prop :=
  r.wp P N rd h (fun v h' => stabs tm h h' pend ∧ WkMain P N rd Q ks dsts tail ds l (tm.put dst v) h') (fun v h' => ∀ tm' : TM, (∀ t, t ∉ dsts → tm' t = tm t) → Fin P N rd Q ks (.panic v) tm' ds h') (fun _ => False)
def WkMG (ks : List Kont) (dsts : List Nat) (tail : List AOper) (ds : List ADef) (dst : Option Nat) (op : AOp) (pend : List AOper) (l : List DOper) (tm : TM) (h : AHeap) (b : Bool) : Prop :=
  if b = true then WkMRes P N rd Q ks dsts tail ds dst pend l tm h (op.ev tm h) else WkMain P N rd Q ks dsts tail ds l (tm.put dst undefA) h
end

section
variable {P : Program} {N : Nat} {rd : Bool} {Q : AEx → TM → List ADef → AHeap → Prop} {ks : List Kont} {tm : TM} {ds : List ADef} {h : AHeap}

theorem fin_congr (c : ACode) {Q Q' : AEx → TM → List ADef → AHeap → Prop} (hq : ∀ e tm ds h, Q e tm ds h = Q' e tm ds h) : c.wp P N rd Q = c.wp P N rd Q' := by
  rw [show Q = Q' from funext fun e => funext fun tm => funext fun ds => funext fun h => hq e tm ds h]

theorem wk_skip : Wk P N rd Q ks .skip tm ds h = Fin P N rd Q ks .normal tm ds h := _root_.id rfl
theorem wk_region {l : List AOper} : Wk P N rd Q ks (.region l) tm ds h = WkOps P N rd Q ks l tm ds h := _root_.id rfl
theorem wk_seq {a b : ACode} : Wk P N rd Q ks (.seq a b) tm ds h = Wk P N rd Q (.seq b :: ks) a tm ds h := by
  unfold Wk
  simp only [ACode.wp]
  rw [fin_congr a fun e tm ds h => ?_]
  cases e <;> rfl
theorem wk_block {id : Nat} {c : ACode} : Wk P N rd Q ks (.block id c) tm ds h = Wk P N rd Q (.block id :: ks) c tm ds h := by
  unfold Wk
  simp only [ACode.wp]
  rw [fin_congr c fun e tm ds h => ?_]
  cases e <;> rfl
theorem wk_cond {c : AOpd} {a b : ACode} : Wk P N rd Q ks (.cond c a b) tm ds h = WkCond P N rd Q ks a b tm ds h (c.ev tm) := by
  show (match c.ev tm with | .bool true => a.wp P N rd (Fin P N rd Q ks) tm ds h | .bool false => b.wp P N rd (Fin P N rd Q ks) tm ds h | _ => False) = _
  generalize c.ev tm = v
  cases v with
  | bool t => cases t <;> rfl
  | _ => rfl
theorem wk_exit {id : Nat} : Wk P N rd Q ks (.exit id) tm ds h = Fin P N rd Q ks (.exit id) tm ds h := _root_.id rfl
theorem wk_ret : Wk P N rd Q ks .ret tm ds h = Fin P N rd Q ks .ret tm ds h := _root_.id rfl
theorem wk_draw {main : List DOper} {tail : List AOper} : Wk P N rd Q ks (.draw main tail) tm ds h = WkMain P N rd Q ks (dstsOf main) tail ds main tm h := _root_.id rfl
theorem cnd_true {a b : ACode} : WkCond P N rd Q ks a b tm ds h (.bool true) = Wk P N rd Q ks a tm ds h := _root_.id rfl
theorem cnd_false {a b : ACode} : WkCond P N rd Q ks a b tm ds h (.bool false) = Wk P N rd Q ks b tm ds h := _root_.id rfl
theorem cond_split {a b : ACode} {x : Bool} (h1 : x = true → Wk P N rd Q ks a tm ds h) (h2 : x = false → Wk P N rd Q ks b tm ds h) : WkCond P N rd Q ks a b tm ds h (.bool x) := by
  cases x
  · exact h2 rfl
  · exact h1 rfl
theorem cond_dec {a b : ACode} {p : Prop} [Decidable p] (h1 : p → Wk P N rd Q ks a tm ds h) (h2 : ¬ p → Wk P N rd Q ks b tm ds h) : WkCond P N rd Q ks a b tm ds h (.bool (decide p)) :=
  cond_split (fun e => h1 (of_decide_eq_true e)) fun e => h2 (of_decide_eq_false e)
theorem cond_ndec {a b : ACode} {p : Prop} [Decidable p] (h1 : ¬ p → Wk P N rd Q ks a tm ds h) (h2 : p → Wk P N rd Q ks b tm ds h) : WkCond P N rd Q ks a b tm ds h (.bool !decide p) := by
  by_cases hp : p
  · rw [decide_eq_true hp]; exact h2 hp
  · rw [decide_eq_false hp]; exact h1 hp

theorem fin_nil {e : AEx} : Fin P N rd Q [] e tm ds h = Q e tm ds h := _root_.id rfl
theorem fin_seq {c : ACode} : Fin P N rd Q (.seq c :: ks) .normal tm ds h = Wk P N rd Q ks c tm ds h := _root_.id rfl
theorem fin_seq_exit {c : ACode} {id : Nat} : Fin P N rd Q (.seq c :: ks) (.exit id) tm ds h = Fin P N rd Q ks (.exit id) tm ds h := _root_.id rfl
theorem fin_seq_ret {c : ACode} : Fin P N rd Q (.seq c :: ks) .ret tm ds h = Fin P N rd Q ks .ret tm ds h := _root_.id rfl
theorem fin_seq_panic {c : ACode} {v : AV} : Fin P N rd Q (.seq c :: ks) (.panic v) tm ds h = Fin P N rd Q ks (.panic v) tm ds h := _root_.id rfl
theorem fin_block {id : Nat} : Fin P N rd Q (.block id :: ks) .normal tm ds h = Fin P N rd Q ks .normal tm ds h := _root_.id rfl
theorem fin_block_exit {id j : Nat} : Fin P N rd Q (.block id :: ks) (.exit j) tm ds h = if j = id then Fin P N rd Q ks .normal tm ds h else Fin P N rd Q ks (.exit j) tm ds h := _root_.id rfl
theorem fin_block_ret {id : Nat} : Fin P N rd Q (.block id :: ks) .ret tm ds h = Fin P N rd Q ks .ret tm ds h := _root_.id rfl
theorem fin_block_panic {id : Nat} {v : AV} : Fin P N rd Q (.block id :: ks) (.panic v) tm ds h = Fin P N rd Q ks (.panic v) tm ds h := _root_.id rfl
theorem fin_loop {K : TM → List ADef → AHeap → Prop} : Fin P N rd Q (.loop K :: ks) .normal tm ds h = Meet K tm ds h := _root_.id rfl
theorem meet {K : TM → List ADef → AHeap → Prop} (hk : K tm ds h) : Meet K tm ds h := hk
theorem fin_loop_exit {K : TM → List ADef → AHeap → Prop} {id : Nat} : Fin P N rd Q (.loop K :: ks) (.exit id) tm ds h = Fin P N rd Q ks (.exit id) tm ds h := _root_.id rfl
theorem fin_loop_ret {K : TM → List ADef → AHeap → Prop} : Fin P N rd Q (.loop K :: ks) .ret tm ds h = Fin P N rd Q ks .ret tm ds h := _root_.id rfl
theorem fin_loop_panic {K : TM → List ADef → AHeap → Prop} {v : AV} : Fin P N rd Q (.loop K :: ks) (.panic v) tm ds h = Fin P N rd Q ks (.panic v) tm ds h := _root_.id rfl

theorem ops_nil : WkOps P N rd Q ks [] tm ds h = Fin P N rd Q ks .normal tm ds h := _root_.id rfl
theorem ops_cons {dst : Option Nat} {op : AOp} {af : List Nat} {l : List AOper} : WkOps P N rd Q ks (⟨dst, op, none, af⟩ :: l) tm ds h = WkRes P N rd Q ks dst l tm ds h (op.ev tm h) := _root_.id rfl
theorem ops_guard {dst : Option Nat} {op : AOp} {g : Nat × Bool} {af : List Nat} {l : List AOper} : WkOps P N rd Q ks (⟨dst, op, some g, af⟩ :: l) tm ds h = WkG P N rd Q ks dst op l tm ds h (wantA tm (some g)) := _root_.id rfl
theorem g_true {dst : Option Nat} {op : AOp} {l : List AOper} : WkG P N rd Q ks dst op l tm ds h true = WkRes P N rd Q ks dst l tm ds h (op.ev tm h) := _root_.id rfl
theorem g_false {dst : Option Nat} {op : AOp} {l : List AOper} : WkG P N rd Q ks dst op l tm ds h false = WkOps P N rd Q ks l (tm.put dst undefA) ds h := _root_.id rfl
theorem g_dec {dst : Option Nat} {op : AOp} {l : List AOper} {p : Prop} [Decidable p] (h1 : p → WkRes P N rd Q ks dst l tm ds h (op.ev tm h)) (h2 : ¬ p → WkOps P N rd Q ks l (tm.put dst undefA) ds h) : WkG P N rd Q ks dst op l tm ds h (decide p) := by
  by_cases hp : p
  · rw [decide_eq_true hp]; exact h1 hp
  · rw [decide_eq_false hp]; exact h2 hp
theorem g_ndec {dst : Option Nat} {op : AOp} {l : List AOper} {p : Prop} [Decidable p] (h1 : ¬ p → WkRes P N rd Q ks dst l tm ds h (op.ev tm h)) (h2 : p → WkOps P N rd Q ks l (tm.put dst undefA) ds h) : WkG P N rd Q ks dst op l tm ds h (!decide p) := by
  by_cases hp : p
  · rw [decide_eq_true hp]; exact h2 hp
  · rw [decide_eq_false hp]; exact h1 hp
theorem res_val {dst : Option Nat} {l : List AOper} {v : AV} {h' : AHeap} : WkRes P N rd Q ks dst l tm ds h (.val v h') = WkOps P N rd Q ks l (tm.put dst v) ds h' := _root_.id rfl
theorem res_new {dst : Option Nat} {l : List AOper} {x : ABlk} {k : Nat → AV} {h' : AHeap} : WkRes P N rd Q ks dst l tm ds h (.new x k h') = ∀ b, h' b = none → WkOps P N rd Q ks l (tm.put dst (k b)) ds (h'.upd b x) := _root_.id rfl
theorem res_call {dst : Option Nat} {l : List AOper} {f : FuncId} {args : List AV} {R : AEnd → AHeap → Prop} (hc : ACalls P N f args h R) (h1 : ∀ v h', R (.ret v) h' → WkOps P N rd Q ks l (tm.put dst v) ds h') (h2 : ∀ v h', R (.panic v) h' → Fin P N rd Q ks (.panic v) tm ds h') :
    WkRes P N rd Q ks dst l tm ds h (.call f args) := by
  unfold WkRes ARes.wp
  refine hc.mono fun x h' hr => ?_
  cases x with
  | ret v => exact h1 v h' hr
  | panic v => exact h2 v h' hr

theorem res_callD {dst : Option Nat} {l : List AOper} {f : FuncId} {args : List AV} {R : AEnd → AHeap → Prop} (hc : ACalls P N f args h R) (h1 : ∀ v h', Dom h h' → R (.ret v) h' → WkOps P N rd Q ks l (tm.put dst v) ds h') (h2 : ∀ v h', Dom h h' → R (.panic v) h' → Fin P N rd Q ks (.panic v) tm ds h') :
    WkRes P N rd Q ks dst l tm ds h (.call f args) := by
  unfold WkRes ARes.wp
  refine hc.mono' fun x h' hd hr => ?_
  cases x with
  | ret v => exact h1 v h' hd hr
  | panic v => exact h2 v h' hd hr
/-- A contract of a call that returns. -/
def ARets (P : Program) (N : Nat) (f : FuncId) (args : List AV) (h : AHeap) (R : AV → AHeap → Prop) : Prop := ACalls P N f args h fun e h' => match e with
  | .ret v => R v h'
  | .panic _ => False
theorem res_ret {dst : Option Nat} {l : List AOper} {f : FuncId} {args : List AV} {R : AV → AHeap → Prop} (hc : ARets P N f args h R) (h1 : ∀ v h', Dom h h' → R v h' → WkOps P N rd Q ks l (tm.put dst v) ds h') :
    WkRes P N rd Q ks dst l tm ds h (.call f args) := res_callD hc h1 fun _ _ _ e => e.elim

theorem main_nil {dsts : List Nat} {tail : List AOper} : WkMain P N rd Q ks dsts tail ds [] tm h = WkOps P N rd Q ks tail tm ds h := _root_.id rfl
theorem main_cons {dsts : List Nat} {tail : List AOper} {i : Nat} {dst : Option Nat} {op : AOp} {af : List Nat} {pend : List AOper} {l : List DOper} : WkMain P N rd Q ks dsts tail ds (⟨i, ⟨dst, op, none, af⟩, pend⟩ :: l) tm h = WkMRes P N rd Q ks dsts tail ds dst pend l tm h (op.ev tm h) := _root_.id rfl
theorem main_guard {dsts : List Nat} {tail : List AOper} {i : Nat} {dst : Option Nat} {op : AOp} {g : Nat × Bool} {af : List Nat} {pend : List AOper} {l : List DOper} : WkMain P N rd Q ks dsts tail ds (⟨i, ⟨dst, op, some g, af⟩, pend⟩ :: l) tm h =
    WkMG P N rd Q ks dsts tail ds dst op pend l tm h (wantA tm (some g)) := _root_.id rfl
theorem mg_true {dsts : List Nat} {tail : List AOper} {dst : Option Nat} {op : AOp} {pend : List AOper} {l : List DOper} : WkMG P N rd Q ks dsts tail ds dst op pend l tm h true = WkMRes P N rd Q ks dsts tail ds dst pend l tm h (op.ev tm h) := _root_.id rfl
theorem mg_false {dsts : List Nat} {tail : List AOper} {dst : Option Nat} {op : AOp} {pend : List AOper} {l : List DOper} : WkMG P N rd Q ks dsts tail ds dst op pend l tm h false = WkMain P N rd Q ks dsts tail ds l (tm.put dst undefA) h := _root_.id rfl
theorem mres_val {dsts : List Nat} {tail : List AOper} {dst : Option Nat} {l : List DOper} {v : AV} {h' : AHeap} : WkMRes P N rd Q ks dsts tail ds dst [] l tm h (.val v h') = WkMain P N rd Q ks dsts tail ds l (tm.put dst v) h' := by
  unfold WkMRes ARes.wp; simp only [stabs, true_and]
theorem mres_val_pend {dsts : List Nat} {tail : List AOper} {dst : Option Nat} {q : AOper} {pend : List AOper} {l : List DOper} {v : AV} {h' : AHeap} : WkMRes P N rd Q ks dsts tail ds dst (q :: pend) l tm h (.val v h') = (stabs tm h h' (q :: pend) ∧ WkMain P N rd Q ks dsts tail ds l (tm.put dst v) h') := _root_.id rfl
theorem mres_new {dsts : List Nat} {tail : List AOper} {dst : Option Nat} {l : List DOper} {x : ABlk} {k : Nat → AV} {h' : AHeap} : WkMRes P N rd Q ks dsts tail ds dst [] l tm h (.new x k h') = ∀ b, h' b = none → WkMain P N rd Q ks dsts tail ds l (tm.put dst (k b)) (h'.upd b x) := by
  unfold WkMRes ARes.wp; simp only [stabs, true_and]
theorem mres_new_pend {dsts : List Nat} {tail : List AOper} {dst : Option Nat} {q : AOper} {pend : List AOper} {l : List DOper} {x : ABlk} {k : Nat → AV} {h' : AHeap} : WkMRes P N rd Q ks dsts tail ds dst (q :: pend) l tm h (.new x k h') = ∀ b, h' b = none → stabs tm h (h'.upd b x) (q :: pend) ∧ WkMain P N rd Q ks dsts tail ds l (tm.put dst (k b)) (h'.upd b x) := _root_.id rfl
theorem mres_call {dsts : List Nat} {tail : List AOper} {dst : Option Nat} {pend : List AOper} {l : List DOper} {f : FuncId} {args : List AV} {R : AEnd → AHeap → Prop} (hc : ACalls P N f args h R)
    (h1 : ∀ v h', R (.ret v) h' → stabs tm h h' pend ∧ WkMain P N rd Q ks dsts tail ds l (tm.put dst v) h') (h2 : ∀ v h', R (.panic v) h' → ∀ tm' : TM, (∀ t, t ∉ dsts → tm' t = tm t) → Fin P N rd Q ks (.panic v) tm' ds h') :
    WkMRes P N rd Q ks dsts tail ds dst pend l tm h (.call f args) := by
  unfold WkMRes ARes.wp
  refine hc.mono fun x h' hr => ?_
  cases x with
  | ret v => exact h1 v h' hr
  | panic v => exact h2 v h' hr

theorem mres_callD {dsts : List Nat} {tail : List AOper} {dst : Option Nat} {pend : List AOper} {l : List DOper} {f : FuncId} {args : List AV} {R : AEnd → AHeap → Prop} (hc : ACalls P N f args h R)
    (h1 : ∀ v h', Dom h h' → R (.ret v) h' → stabs tm h h' pend ∧ WkMain P N rd Q ks dsts tail ds l (tm.put dst v) h') (h2 : ∀ v h', Dom h h' → R (.panic v) h' → ∀ tm' : TM, (∀ t, t ∉ dsts → tm' t = tm t) → Fin P N rd Q ks (.panic v) tm' ds h') :
    WkMRes P N rd Q ks dsts tail ds dst pend l tm h (.call f args) := by
  unfold WkMRes ARes.wp
  refine hc.mono' fun x h' hd hr => ?_
  cases x with
  | ret v => exact h1 v h' hd hr
  | panic v => exact h2 v h' hd hr
theorem mres_ret {dsts : List Nat} {tail : List AOper} {dst : Option Nat} {pend : List AOper} {l : List DOper} {f : FuncId} {args : List AV} {R : AV → AHeap → Prop} (hc : ARets P N f args h R)
    (h1 : ∀ v h', Dom h h' → R v h' → stabs tm h h' pend ∧ WkMain P N rd Q ks dsts tail ds l (tm.put dst v) h') :
    WkMRes P N rd Q ks dsts tail ds dst pend l tm h (.call f args) := mres_callD hc h1 fun _ _ _ e => e.elim

theorem wk_loopD {c : ACode} (I : Nat → TM → List ADef → AHeap → Prop) (k₀ : Nat) (h0 : I k₀ tm ds h) (hI : ∀ k tm ds h1, Dom h h1 → I k tm ds h1 → Wk P N rd Q (.loop (fun tm ds h => ∃ k', k' < k ∧ I k' tm ds h) :: ks) c tm ds h1) : Wk P N rd Q ks (.loop c) tm ds h := by
  unfold Wk
  simp only [ACode.wp]
  refine ⟨I, ⟨k₀, h0⟩, fun k tm ds h hd hi => ?_⟩
  have := hI k tm ds h hd hi
  unfold Wk at this
  rw [fin_congr c fun e tm ds h => ?_]
  · exact this
  · cases e <;> rfl
theorem wk_loop {c : ACode} (I : Nat → TM → List ADef → AHeap → Prop) (k₀ : Nat) (h0 : I k₀ tm ds h) (hI : ∀ k tm ds h, I k tm ds h → Wk P N rd Q (.loop (fun tm ds h => ∃ k', k' < k ∧ I k' tm ds h) :: ks) c tm ds h) : Wk P N rd Q ks (.loop c) tm ds h :=
  wk_loopD I k₀ h0 fun k tm ds h _ hi => hI k tm ds h hi
theorem wk_start {c : ACode} (h' : Wk P N rd Q [] c tm ds h) : c.wp P N rd Q tm ds h := by
  unfold Wk at h'
  rw [fin_congr c fun e tm ds h => ?_]
  · exact h'
  · rfl

/-! ### What is asked may be weakened; a cut. -/
theorem ares_mono {h : AHeap} {K K' Kp Kp' : AV → AHeap → Prop} {Kd Kd' : ADef → Prop} (h1 : ∀ v h, K v h → K' v h) (h2 : ∀ v h, Kp v h → Kp' v h) (h3 : ∀ d, Kd d → Kd' d) {r : ARes} (hr : r.wp P N rd h K Kp Kd) : r.wp P N rd h K' Kp' Kd' := by
  cases r with
  | val v h' => exact h1 _ _ hr
  | new x k h' => exact fun b hb => h1 _ _ (hr b hb)
  | any l => exact fun o ho => h1 _ _ (hr o ho)
  | call f args =>
    refine ACalls.mono hr fun x h' hx => ?_
    cases x with
    | ret v => exact h1 _ _ hx
    | panic v => exact h2 _ _ hx
  | yield b args =>
    intro ι w L vs s hL hv
    obtain ⟨l, f, t, a, bd, e, rr⟩ := hr ι w L vs s hL hv
    refine ⟨l, f, t, a, bd, e, rr.mono fun e w' ⟨ι', h', x, a1, a2, a3, a4, hx⟩ => ⟨ι', h', x, a1, a2, a3, a4, ?_⟩⟩
    cases x with
    | ret v => exact h1 _ _ hx
    | panic v => exact h2 _ _ hx
  | panic v => exact h2 _ _ hr
  | defer fn cap args => exact ⟨hr.1, h3 _ hr.2⟩
  | stuck => exact hr
theorem wpOps_mono {Q Q' : AEx → TM → List ADef → AHeap → Prop} (hq : ∀ e tm ds h, Q e tm ds h → Q' e tm ds h) : ∀ (l : List AOper) (tm : TM) (ds : List ADef) (h : AHeap), wpOps P N rd Q l tm ds h → wpOps P N rd Q' l tm ds h
  | [], tm, ds, h, hw => hq _ _ _ _ hw
  | o :: l, tm, ds, h, hw => by
    simp only [Am.wpOps] at hw ⊢
    split
    · rename_i hg
      rw [if_pos hg] at hw
      exact ares_mono (fun v h' => wpOps_mono hq l _ _ _) (fun v h' => hq _ _ _ _) (fun d => wpOps_mono hq l _ _ _) hw
    · rename_i hg
      rw [if_neg hg] at hw
      exact wpOps_mono hq l _ _ _ hw
theorem wpMain_mono {dsts : List Nat} {Qp Qp' : AV → TM → AHeap → Prop} {K K' : TM → AHeap → Prop} (hp : ∀ v tm h, Qp v tm h → Qp' v tm h) (hk : ∀ tm h, K tm h → K' tm h) : ∀ (l : List DOper) (tm : TM) (h : AHeap), wpMain P N rd dsts Qp K l tm h → wpMain P N rd dsts Qp' K' l tm h
  | [], tm, h, hw => hk _ _ hw
  | p :: l, tm, h, hw => by
    simp only [wpMain] at hw ⊢
    split
    · rename_i hg
      rw [if_pos hg] at hw
      exact ares_mono (fun v h' x => ⟨x.1, wpMain_mono hp hk l _ _ x.2⟩) (fun v h' x tm' ht => hp _ _ _ (x tm' ht)) (fun d x => x) hw
    · rename_i hg
      rw [if_neg hg] at hw
      exact wpMain_mono hp hk l _ _ hw
theorem wp_mono : ∀ (c : ACode) {Q Q' : AEx → TM → List ADef → AHeap → Prop}, (∀ e tm ds h, Q e tm ds h → Q' e tm ds h) → ∀ (tm : TM) (ds : List ADef) (h : AHeap), c.wp P N rd Q tm ds h → c.wp P N rd Q' tm ds h
  | .skip, _, _, hq, tm, ds, h, hw => hq _ _ _ _ hw
  | .region l, _, _, hq, tm, ds, h, hw => wpOps_mono hq l _ _ _ hw
  | .draw main tail, _, _, hq, tm, ds, h, hw => wpMain_mono (fun v tm h => hq _ _ _ _) (fun tm h => wpOps_mono hq tail _ _ _) main _ _ hw
  | .seq a b, Q, Q', hq, tm, ds, h, hw => by
    refine wp_mono a (fun e tm ds h x => ?_) tm ds h hw
    cases e with
    | normal => exact wp_mono b hq _ _ _ x
    | _ => exact hq _ _ _ _ x
  | .cond c a b, Q, Q', hq, tm, ds, h, hw => by
    simp only [ACode.wp] at hw ⊢
    split at hw
    · exact wp_mono a hq _ _ _ hw
    · exact wp_mono b hq _ _ _ hw
    · exact hw
  | .block id c, Q, Q', hq, tm, ds, h, hw => by
    refine wp_mono c (fun e tm ds h x => ?_) tm ds h hw
    cases e with
    | exit j =>
      simp only [] at x ⊢
      split
      · rename_i e; rw [if_pos e] at x; exact hq _ _ _ _ x
      · rename_i e; rw [if_neg e] at x; exact hq _ _ _ _ x
    | _ => exact hq _ _ _ _ x
  | .loop c, Q, Q', hq, tm, ds, h, hw => by
    obtain ⟨I, h0, hI⟩ := hw
    refine ⟨I, h0, fun k tm ds h hd hi => wp_mono c (fun e tm ds h x => ?_) _ _ _ (hI k tm ds h hd hi)⟩
    cases e with
    | normal => exact x
    | _ => exact hq _ _ _ _ x
  | .rangeFunc f ps a b, Q, Q', hq, tm, ds, h, hw => by
    obtain ⟨h1, g, first, cap, h2, hw⟩ := hw
    refine ⟨h1, g, first, cap, h2, fun D l hD hl hne fn n ca cb lok => (hw D l hD hl hne fn n ca cb lok).mono fun x h' hx => ?_⟩
    cases x with
    | panic v => exact hq _ _ _ _ hx
    | ret v =>
      obtain ⟨st, pend, e1, e2, e3⟩ := hx
      refine ⟨st, pend, e1, e2, ?_⟩
      split at e3
      · exact hq _ _ _ _ e3
      · exact hq _ _ _ _ e3
      · exact hq _ _ _ _ e3
      · exact e3
  | .exit id, _, _, hq, tm, ds, h, hw => hq _ _ _ _ hw
  | .ret, _, _, hq, tm, ds, h, hw => hq _ _ _ _ hw
/-- A CUT: what holds between two statements. -/
theorem wk_cut {a b : ACode} (J : TM → List ADef → AHeap → Prop) (h1 : Wk P N rd Q (.loop J :: ks) a tm ds h) (h2 : ∀ tm ds h, J tm ds h → Wk P N rd Q ks b tm ds h) : Wk P N rd Q ks (.seq a b) tm ds h := by
  rw [wk_seq]
  refine wp_mono a (fun e tm ds h x => ?_) tm ds h h1
  cases e with
  | normal => exact h2 _ _ _ x
  | _ => exact x

theorem wk_cutb {a c : ACode} {id : Nat} (J : TM → List ADef → AHeap → Prop) (h1 : Wk P N rd Q (.block id :: .loop J :: ks) a tm ds h) (h2 : ∀ tm ds h, J tm ds h → Wk P N rd Q ks c tm ds h) : Wk P N rd Q (.block id :: .seq c :: ks) a tm ds h := by
  refine wp_mono a (fun e tm ds h x => ?_) tm ds h h1
  cases e with
  | normal => exact h2 _ _ _ x
  | exit j =>
    simp only [Fin] at x ⊢
    split
    · rename_i e; rw [if_pos e] at x; exact h2 _ _ _ x
    · rename_i e; rw [if_neg e] at x; exact x
  | _ => exact x

theorem put_get {tm : TM} {d t : Nat} {v : AV} : (tm.put (some d) v) t = if t = d then v else tm t := _root_.id rfl
theorem put_none {tm : TM} {v : AV} : tm.put none v = tm := _root_.id rfl

@[congr] theorem Meet_cg {K : TM → List ADef → AHeap → Prop} : Meet K tm ds h = Meet K tm ds h := rfl
@[congr] theorem fnEnd_cg {rvs : List ARV} {R : AEnd → AHeap → Prop} {e : AEx} : fnEnd rvs R e tm ds h = fnEnd rvs R e tm ds h := rfl
@[congr] theorem Wk_cg {c : ACode} : Wk P N rd Q ks c tm ds h = Wk P N rd Q ks c tm ds h := rfl
@[congr] theorem Fin_cg {e : AEx} : Fin P N rd Q ks e tm ds h = Fin P N rd Q ks e tm ds h := rfl
@[congr] theorem WkOps_cg {l : List AOper} : WkOps P N rd Q ks l tm ds h = WkOps P N rd Q ks l tm ds h := rfl
@[congr] theorem WkRes_cg {dst : Option Nat} {l : List AOper} {r r' : ARes} (e : r = r') : WkRes P N rd Q ks dst l tm ds h r = WkRes P N rd Q ks dst l tm ds h r' := by rw [e]
@[congr] theorem WkCond_cg {a b : ACode} {v v' : AV} (e : v = v') : WkCond P N rd Q ks a b tm ds h v = WkCond P N rd Q ks a b tm ds h v' := by rw [e]
@[congr] theorem WkG_cg {dst : Option Nat} {op : AOp} {l : List AOper} {b b' : Bool} (e : b = b') : WkG P N rd Q ks dst op l tm ds h b = WkG P N rd Q ks dst op l tm ds h b' := by rw [e]
@[congr] theorem WkMG_cg {dsts : List Nat} {tail : List AOper} {dst : Option Nat} {op : AOp} {pend : List AOper} {l : List DOper} {b b' : Bool} (e : b = b') : WkMG P N rd Q ks dsts tail ds dst op pend l tm h b = WkMG P N rd Q ks dsts tail ds dst op pend l tm h b' := by rw [e]
@[congr] theorem WkMain_cg {dsts : List Nat} {tail : List AOper} {l : List DOper} : WkMain P N rd Q ks dsts tail ds l tm h = WkMain P N rd Q ks dsts tail ds l tm h := rfl
@[congr] theorem WkMRes_cg {dsts : List Nat} {tail : List AOper} {dst : Option Nat} {pend : List AOper} {l : List DOper} {r r' : ARes} (e : r = r') : WkMRes P N rd Q ks dsts tail ds dst pend l tm h r = WkMRes P N rd Q ks dsts tail ds dst pend l tm h r' := by rw [e]
end
end Go.Am
/-
  SLICES of the abstract memory.
-/
namespace Go.Am
open Go.RowKit

theorem wrap64 {x : Int} (h1 : -9223372036854775808 ≤ x) (h2 : x < 9223372036854775808) : IntKind.i64.wrap x = x := by
  simp only [IntKind.wrap, IntKind.bits, IntKind.signed]
  simp
  omega

theorem lenA_slice {h : AHeap} {p : Option (Nat × Nat)} {sz n cap : Nat} {ex : Bool} : lenA h .slice (.slice p sz n cap ex) = some (.int .i64 n) := _root_.id rfl

def blkOf : AV → Option Nat
  | .slice (some (b, _)) _ _ _ _ => some b
  | _ => none

/-- A slice of elements of sz cells each, all of whose cells are these. -/
structure SliceAt (h : AHeap) (sz : Nat) (v : AV) (cs : List AV) : Prop where
  out : ∃ p sz' len cap ex, v = .slice p sz' len cap ex ∧ cs.length = len * sz ∧ len ≤ cap ∧ (p = none → len = 0 ∧ cap = 0) ∧
    ∀ b o, p = some (b, o) → sz' = sz ∧ ∃ ds ro, h b = some (.cells ds ro) ∧ o + len * sz ≤ ds.length ∧ (ds.drop o).take (len * sz) = cs

theorem SliceAt.keep {h h' : AHeap} {sz : Nat} {v : AV} {cs : List AV} (s : SliceAt h sz v cs) (hk : ∀ b, blkOf v = some b → h' b = h b) : SliceAt h' sz v cs := by
  obtain ⟨p, sz', len, cap, ex, rfl, h1, h2, h3, h4⟩ := s.out
  refine ⟨p, sz', len, cap, ex, rfl, h1, h2, h3, fun b o e => ?_⟩
  subst e
  obtain ⟨h0, ds, ro, h5, h6, h7⟩ := h4 b o rfl
  exact ⟨h0, ds, ro, by rw [hk b rfl]; exact h5, h6, h7⟩
theorem SliceAt.dom {h : AHeap} {sz : Nat} {v : AV} {cs : List AV} (s : SliceAt h sz v cs) {b : Nat} (hb : blkOf v = some b) : h b ≠ none := by
  obtain ⟨p, sz', len, cap, ex, rfl, h1, h2, h3, h4⟩ := s.out
  cases p with
  | none => cases hb
  | some q =>
    obtain ⟨b', o⟩ := q
    cases hb
    obtain ⟨_, ds, ro, h5, _⟩ := h4 _ o rfl
    rw [h5]; simp
theorem SliceAt.nil (h : AHeap) (sz sz' : Nat) (ex : Bool) : SliceAt h sz (.slice none sz' 0 0 ex) [] := ⟨none, sz', 0, 0, ex, rfl, by simp, Nat.le_refl 0, fun _ => ⟨rfl, rfl⟩, fun _ _ e => by cases e⟩
theorem SliceAt.len {h : AHeap} {sz : Nat} {v : AV} {cs : List AV} (s : SliceAt h sz v cs) (n : Nat) (hn : cs.length = n * sz) (hs : 0 < sz) : lenA h .slice v = some (.int .i64 n) := by
  obtain ⟨p, sz', len, cap, ex, rfl, h1, _⟩ := s.out
  rw [h1] at hn
  have : len = n := Nat.eq_of_mul_eq_mul_right hs hn
  simp [lenA, this]

/-- An element's place, and what lies there. -/
theorem SliceAt.index {h : AHeap} {sz : Nat} {v : AV} {cs : List AV} (s : SliceAt h sz v cs) (i : Nat) (hi : i * sz + sz ≤ cs.length) (hs : 0 < sz) (k : IntKind) :
    ∃ b o, indexSliceA sz v (.int k i) = some (.ptr (some (b, o))) ∧ blkOf v = some b ∧ (∀ j u, j < sz → cs[i * sz + j]? = some u → loadA h none (.ptr (some (b, o + j))) = .val u h) ∧
      loadA h (some sz) (.ptr (some (b, o))) = .val (.agg ((cs.drop (i * sz)).take sz)) h := by
  obtain ⟨p, sz', len, cap, ex, rfl, h1, h2, h3, h4⟩ := s.out
  have hil : i < len := by
    rw [h1] at hi
    by_cases e : i < len
    · exact e
    · have := Nat.mul_le_mul_right sz (Nat.le_of_not_lt e)
      omega
  cases p with
  | none => have := (h3 rfl).1; omega
  | some q =>
    obtain ⟨b, o⟩ := q
    obtain ⟨hsz, ds, ro, h5, h6, h7⟩ := h4 b o rfl
    obtain rfl : _ = sz' := hsz.symm
    have hin : i * sz + sz ≤ len * sz := by rw [← h1]; exact hi
    refine ⟨b, o + i * sz, ?_, rfl, fun j u hj hu => ?_, ?_⟩
    · simp only [indexSliceA]
      rw [if_pos (by refine ⟨?_, ?_, ?_⟩ <;> first | trivial | omega)]
      simp
    · have : ds[o + i * sz + j]? = some u := by
        rw [← h7, List.getElem?_take, if_pos (by omega), List.getElem?_drop] at hu
        rw [← hu]; congr 1; omega
      simp only [loadA, h5, this]
    · simp only [loadA, h5]
      rw [if_pos (by omega), ← h7]
      congr 2
      rw [List.drop_take, List.drop_drop, List.take_take, Nat.min_eq_left (by omega)]

/-- One cell each. -/
theorem SliceAt.get {h : AHeap} {v : AV} {cs : List AV} (s : SliceAt h 1 v cs) (i : Nat) (hi : i < cs.length) (k : IntKind) :
    ∃ b o, indexSliceA 1 v (.int k i) = some (.ptr (some (b, o))) ∧ blkOf v = some b ∧ loadA h none (.ptr (some (b, o))) = .val cs[i] h := by
  obtain ⟨b, o, h1, h2, h3, _⟩ := s.index i (by omega) (by omega) k
  refine ⟨b, o, h1, h2, ?_⟩
  have := h3 0 cs[i] (by omega) (by simp [hi])
  simpa using this

/-- A store into one cell of a slice. -/
theorem SliceAt.set {h : AHeap} {v : AV} {cs : List AV} (s : SliceAt h 1 v cs) (hw : ∀ b, blkOf v = some b → ∃ ds, h b = some (.cells ds false)) (i : Nat) (hi : i < cs.length) (k : IntKind) (u : AV) (hu : u.oneCell = true) :
    ∃ b o ds, indexSliceA 1 v (.int k i) = some (.ptr (some (b, o))) ∧ blkOf v = some b ∧ h b = some (.cells ds false) ∧ storeA h 1 (.ptr (some (b, o))) u = .val undefA (h.upd b (.cells (ds.set o u) false)) ∧ SliceAt (h.upd b (.cells (ds.set o u) false)) 1 v (cs.set i u) := by
  obtain ⟨p, sz', len, cap, ex, rfl, h1, h2, h3, h4⟩ := s.out
  cases p with
  | none => have := (h3 rfl).1; omega
  | some q =>
    obtain ⟨b, o⟩ := q
    obtain ⟨hsz, ds, ro, h5, h6, h7⟩ := h4 b o rfl
    obtain rfl : _ = sz' := hsz.symm
    obtain ⟨ds', h5'⟩ := hw b rfl
    rw [h5] at h5'; cases h5'
    have hc : u.cells = [u] := by cases u <;> first | rfl | (simp [AV.oneCell] at hu)
    refine ⟨b, o + i, ds, ?_, rfl, h5, ?_, ?_⟩
    · simp only [indexSliceA]
      rw [if_pos (by refine ⟨?_, ?_, ?_⟩ <;> first | trivial | omega)]
      simp
    · simp only [storeA, h5, hc]
      rw [if_pos ⟨rfl, by omega, by simp [hu]⟩]
      rfl
    · refine ⟨some (b, o), _, len, cap, ex, rfl, by simp [h1], h2, h3, fun b' o' e => ?_⟩
      cases e
      refine ⟨rfl, ds.set (o + i) u, false, AHeap.upd_same _ _ _, by simpa using h6, ?_⟩
      rw [← h7]
      apply List.ext_getElem?
      intro j
      simp only [List.getElem?_take, List.getElem?_drop, List.getElem?_set, List.length_take, List.length_drop]
      by_cases hj : j < len * 1
      · simp only [if_pos hj]
        by_cases e : i = j
        · subst e
          rw [if_pos rfl, if_pos rfl, if_pos (by omega), if_pos (by simp; omega)]
        · rw [if_neg (by omega), if_neg e]
      · simp only [if_neg hj]
        by_cases e : i = j
        · subst e; omega
        · rw [if_neg e]

theorem firstA_eq {h : AHeap} {sz sz' : Nat} {p : Option (Nat × Nat)} {len cap : Nat} {ex : Bool} {cs : List AV} (s : SliceAt h sz (.slice p sz' len cap ex) cs) : firstA h sz len (.slice p sz' len cap ex) = some cs := by
  obtain ⟨p, sz', len', cap, ex, e, h1, h2, h3, h4⟩ := s.out
  cases e
  by_cases hl : len = 0
  · subst hl
    have : cs = [] := by rw [Nat.zero_mul] at h1; exact List.eq_nil_of_length_eq_zero h1
    simp [this, firstA]
  · simp only [firstA, if_neg hl]
    cases p with
    | none => exact absurd (h3 rfl).1 hl
    | some q =>
      obtain ⟨b, o⟩ := q
      obtain ⟨hsz, ds, ro, h5, h6, h7⟩ := h4 b o rfl
      obtain rfl : _ = sz' := hsz.symm
      simp only [h5]
      rw [if_pos (by refine ⟨?_, ?_, ?_⟩ <;> first | trivial | omega), h7]

/-- What an append gives: one thing, or a new block, its old one gone or kept. -/
theorem SliceAt.append {h : AHeap} {sz bytes : Nat} {s x : AV} {cs ds : List AV} (h1 : SliceAt h sz s cs) (h2 : SliceAt h sz x ds) (hs : 0 < sz) (hb : cs.length + ds.length ≤ 4294967296) (hbytes : bytes ≤ 1024)
    (hc : cs.all AV.oneCell = true) (hd : ds.all AV.oneCell = true) (hw : ∀ b, blkOf s = some b → ∃ l, h b = some (.cells l false)) :
    (ds = [] ∧ appendA h sz bytes s x = .val s h) ∨
    (ds ≠ [] ∧ ∃ (k : Nat → AV) (h' : AHeap), appendA h sz bytes s x = .new (.cells (cs ++ ds) false) k h' ∧ (h' = h ∨ ∃ b, blkOf s = some b ∧ h' = h.upd b .dead) ∧
      ∀ b, h' b = none → blkOf (k b) = some b ∧ SliceAt (h'.upd b (.cells (cs ++ ds) false)) sz (k b) (cs ++ ds)) := by
  have f1 := h1.out
  have f2 := h2.out
  obtain ⟨p, sz1, len, cap, ex, rfl, a1, a2, a3, a4⟩ := f1
  obtain ⟨q, sz2, n, cap', ex', rfl, b1, b2, b3, b4⟩ := f2
  by_cases hn : n = 0
  · subst hn
    refine .inl ⟨by rw [Nat.zero_mul] at b1; exact List.eq_nil_of_length_eq_zero b1, by simp [appendA]⟩
  · refine .inr ⟨fun e => ?_, ?_⟩
    · subst e
      rw [List.length_nil] at b1
      rcases Nat.mul_eq_zero.1 b1.symm with h | h <;> omega
    · have e1 := firstA_eq h1
      have e2 := firstA_eq h2
      have hlen : len ≤ len * sz := Nat.le_mul_of_pos_right _ hs
      have hnn : n ≤ n * sz := Nat.le_mul_of_pos_right _ hs
      have hmul : (len + n) * bytes ≤ 4294967296 * 1024 := Nat.mul_le_mul (by omega) hbytes
      have at_ : ∀ (h' : AHeap) (b m : Nat) (w : List AV), w = cs ++ ds → m = len + n → SliceAt (h'.upd b (.cells w false)) sz (.slice (some (b, 0)) sz m m false) (cs ++ ds) := fun h' b m w hw hm => by
        subst hw hm
        refine ⟨some (b, 0), sz, len + n, len + n, false, rfl, by rw [List.length_append, a1, b1, Nat.add_mul], Nat.le_refl _, fun e => (by cases e), fun b' o' e => ?_⟩
        cases e
        refine ⟨rfl, cs ++ ds, false, AHeap.upd_same _ _ _, by rw [List.length_append, a1, b1, Nat.add_mul]; omega, ?_⟩
        rw [List.drop_zero, List.take_of_length_le (by rw [List.length_append, a1, b1, Nat.add_mul]; omega)]
      simp only [appendA, if_neg hn, e1, e2]
      rw [if_pos ⟨by omega, by omega, hc, hd⟩]
      cases p with
      | none =>
        have hl0 := (a3 rfl).1
        subst hl0
        have hcs : cs = [] := by rw [Nat.zero_mul] at a1; exact List.eq_nil_of_length_eq_zero a1
        refine ⟨_, h, by simp [hcs], .inl rfl, fun b hb => ⟨rfl, at_ h b n _ rfl (by omega)⟩⟩
      | some q' =>
        obtain ⟨b, o⟩ := q'
        simp only []
        split
        · exact ⟨_, h, rfl, .inl rfl, fun b' hb' => ⟨rfl, at_ h b' _ _ rfl rfl⟩⟩
        · obtain ⟨l, hl⟩ := hw b rfl
          obtain ⟨hsz, _⟩ := a4 b o rfl
          obtain rfl : _ = sz1 := hsz.symm
          simp only [if_true, hl]
          exact ⟨_, h.upd b .dead, rfl, .inr ⟨b, rfl, rfl⟩, fun b' hb' => ⟨rfl, at_ _ b' _ _ rfl rfl⟩⟩
end Go.Am
/-
  BLOCKS THAT FROM NOW ON ARE FOR READING ONLY: no call changes them.
-/
namespace Go.Am
open Go.RowKit

/-- Some rows of cells are for reading only from now on. -/
def Frz (h h' : AHeap) : Prop := ∀ b, h' b = h b ∨ ∃ cs, h b = some (.cells cs false) ∧ h' b = some (.cells cs true)
theorem Frz.refl (h : AHeap) : Frz h h := fun _ => .inl rfl
theorem Frz.dom {h h' : AHeap} (f : Frz h h') : Dom h h' :=
  ⟨fun b hb => by
    rcases f b with e | ⟨cs, e1, e2⟩
    · rw [e]; exact hb
    · rw [e2]; simp,
   fun b cs hb => by
    rcases f b with e | ⟨cs, e1, e2⟩
    · rw [e]; exact hb
    · rw [e1] at hb; cases hb⟩
theorem Frz.back {h h' : AHeap} (f : Frz h h') {b : Nat} {y : ABlk} (hy : h' b = some y) : ∃ z, h b = some z ∧ (z = y ∨ ∃ cs, z = .cells cs false ∧ y = .cells cs true) := by
  rcases f b with e | ⟨cs, e1, e2⟩
  · exact ⟨y, by rw [← e]; exact hy, .inl rfl⟩
  · rw [e2] at hy; cases hy; exact ⟨_, e1, .inr ⟨cs, rfl, rfl⟩⟩
theorem ApartB.frz {L L' : Loc} {z y u : ABlk} (h : ApartB L L' z u) (e : z = y ∨ ∃ cs, z = .cells cs false ∧ y = .cells cs true) : ApartB L L' y u := by
  rcases e with rfl | ⟨cs, rfl, rfl⟩
  · exact h
  · cases u <;> first
      | (rcases h with ⟨h, _⟩ | h
         · cases h
         · exact .inr h)
      | exact fun a _ => by simp [ABlk.isObj] at a
theorem Sim.frz {N : Nat} {ι : Emb} {h h' : AHeap} {w : World} (s : Sim N ι h w) (f : Frz h h') : Sim N ι h' w := by
  refine ⟨s.size, ?_, fun b L hL => ?_, fun b L y hL hy => ?_, fun b b' L L' y y' hn hL hL' hy hy' => ?_⟩
  · obtain ⟨m, hm⟩ := s.fin
    refine ⟨m, fun b hb => ?_⟩
    rcases f b with e | ⟨cs, e1, _⟩
    · rw [e]; exact hm b hb
    · rw [hm b hb] at e1; cases e1
  · obtain ⟨x, hx⟩ := s.dom b L hL
    cases hy : h' b with
    | none => exact absurd hy (f.dom.dom b (by rw [hx]; simp))
    | some y => exact ⟨y, rfl⟩
  · obtain ⟨z, hz, e⟩ := f.back hy
    have h0 := s.at_ b L z hL hz
    rcases e with rfl | ⟨cs, rfl, rfl⟩
    · exact h0
    · obtain ⟨h1, h2, h3, h4⟩ := h0
      exact ⟨h1, ⟨h2.1, fun e => by cases e⟩, fun i hi => ⟨(h3 i hi).1, fun e => by cases e⟩, h4⟩
  · obtain ⟨z, hz, e⟩ := f.back hy
    obtain ⟨z', hz', e'⟩ := f.back hy'
    exact (((s.apart b b' L L' z z' hn hL hL' hz hz').frz e).symm.frz e').symm
theorem ACalls.frz {P : Program} {N : Nat} {f : FuncId} {args : List AV} {h : AHeap} {R R' : AEnd → AHeap → Prop} (c : ACalls P N f args h R) (hr : ∀ x h', Dom h h' → R x h' → ∃ h'', Frz h' h'' ∧ R' x h'') : ACalls P N f args h R' :=
  ⟨c.1, fun ι w vs s hv => (c.2 ι w vs s hv).mono fun _ _ ⟨ι', h', x, a, b, d, e, r⟩ =>
    let ⟨h'', fz, r'⟩ := hr _ _ a.dom r
    ⟨ι', h'', x, a.trans (.of_dom fz.dom), b.frz fz, d, e, r'⟩⟩
theorem ARets.frz {P : Program} {N : Nat} {f : FuncId} {args : List AV} {h : AHeap} {R R' : AV → AHeap → Prop} (c : ARets P N f args h R) (hr : ∀ x h', Dom h h' → R x h' → ∃ h'', Frz h' h'' ∧ R' x h'') : ARets P N f args h R' :=
  ACalls.frz c fun x h' d r => by
    cases x with
    | ret v => exact hr v h' d r
    | panic v => exact r.elim
theorem ARets.mono {P : Program} {N : Nat} {f : FuncId} {args : List AV} {h : AHeap} {R R' : AV → AHeap → Prop} (c : ARets P N f args h R) (hr : ∀ x h', Dom h h' → R x h' → R' x h') : ARets P N f args h R' :=
  c.frz fun x h' d r => ⟨h', .refl _, hr x h' d r⟩
/-- It may be so ahead of the call. -/
theorem ACalls.pre {P : Program} {N : Nat} {f : FuncId} {args : List AV} {h h2 : AHeap} {R : AEnd → AHeap → Prop} (fz : Frz h h2) (c : ACalls P N f args h2 R) : ACalls P N f args h R :=
  ⟨c.1, fun ι w vs s hv => (c.2 ι w vs (s.frz fz) hv).mono fun _ _ ⟨ι', h', x, a, b, d, e, r⟩ => ⟨ι', h', x, (Grow.of_dom fz.dom).trans a, b, d, e, r⟩⟩

/-- The blocks of a set become such. -/
noncomputable def AHeap.frz (h : AHeap) (S : Nat → Prop) : AHeap := fun b => open Classical in if S b then (match h b with
  | some (.cells cs _) => some (.cells cs true)
  | x => x) else h b
theorem AHeap.frz_frz (h : AHeap) (S : Nat → Prop) : Frz h (h.frz S) := fun b => by
  unfold AHeap.frz
  split
  · split
    · rename_i cs ro e
      cases ro with
      | false => exact .inr ⟨cs, e, rfl⟩
      | true => exact .inl e.symm
    · exact .inl rfl
  · exact .inl rfl
theorem AHeap.frz_in {h : AHeap} {S : Nat → Prop} {b : Nat} {cs : List AV} {ro : Bool} (hb : S b) (e : h b = some (.cells cs ro)) : h.frz S b = some (.cells cs true) := by
  unfold AHeap.frz; rw [if_pos hb, e]
theorem AHeap.frz_out {h : AHeap} {S : Nat → Prop} {b : Nat} (hb : ¬ S b) : h.frz S b = h b := by
  unfold AHeap.frz; rw [if_neg hb]

/-- A slice whose cells are for reading only. -/
structure RSlice (h : AHeap) (sz : Nat) (v : AV) (cs : List AV) : Prop where
  at_ : SliceAt h sz v cs
  ro : ∀ b, blkOf v = some b → ∃ ds, h b = some (.cells ds true)
theorem RSlice.dom {h h' : AHeap} {sz : Nat} {v : AV} {cs : List AV} (s : RSlice h sz v cs) (d : Dom h h') : RSlice h' sz v cs := by
  refine ⟨s.at_.keep fun b hb => ?_, fun b hb => ?_⟩
  · obtain ⟨ds, e⟩ := s.ro b hb; rw [e]; exact d.ro _ _ e
  · obtain ⟨ds, e⟩ := s.ro b hb; exact ⟨ds, d.ro _ _ e⟩
end Go.Am
/-
  A TOOLKIT FOR MEMORY: blocks that have only come; slices that grow; whose a block is.
-/
namespace Go.Am
open Go.RowKit

/-- A slice of numbers. -/
abbrev Ints (h : AHeap) (v : AV) (l : List Int) : Prop := SliceAt h 1 v (l.map (.int .i64))

theorem fnEnd_ret0 {h : AHeap} {R : AEnd → AHeap → Prop} {tm : TM} (hr : R (.ret (.tuple [])) h) : fnEnd [] R .ret tm [] h := ⟨_, rfl, hr⟩
theorem fnEnd_end0 {h : AHeap} {R : AEnd → AHeap → Prop} {tm : TM} (hr : R (.ret (.tuple [])) h) : fnEnd [] R .normal tm [] h := ⟨_, rfl, hr⟩
theorem fnEnd_ret1 {h : AHeap} {R : AEnd → AHeap → Prop} {t : Nat} {tm : TM} (hr : R (.ret (tm t)) h) : fnEnd [.tmp t] R .ret tm [] h := ⟨_, rfl, hr⟩
theorem fnEnd_ret2 {h : AHeap} {R : AEnd → AHeap → Prop} {t u : Nat} {tm : TM} (hr : R (.ret (.tuple [tm t, tm u])) h) : fnEnd [.tmp t, .tmp u] R .ret tm [] h := ⟨_, rfl, hr⟩
theorem fnEnd_ret3 {h : AHeap} {R : AEnd → AHeap → Prop} {t u x : Nat} {tm : TM} (hr : R (.ret (.tuple [tm t, tm u, tm x])) h) : fnEnd [.tmp t, .tmp u, .tmp x] R .ret tm [] h := ⟨_, rfl, hr⟩
theorem nilCheck_ptr {b o : Nat} : nilCheckA (.ptr (some (b, o))) = some (.ptr (some (b, o))) := _root_.id rfl

/-! ### Blocks have only come. -/
def More (h h' : AHeap) : Prop := ∀ c, h c ≠ none → h' c = h c
theorem More.upd {h : AHeap} {b : Nat} (hb : h b = none) (x : ABlk) : More h (h.upd b x) := fun c hc => AHeap.upd_other _ _ fun e => hc (e ▸ hb)
theorem More.trans {a b c : AHeap} (h : More a b) (k : More b c) : More a c := fun x hx => by
  rw [k x (by rw [h x hx]; exact hx), h x hx]
theorem More.refl (a : AHeap) : More a a := fun _ _ => rfl
theorem More.at_ {h h' : AHeap} (m : More h h') {b : Nat} {x : ABlk} (e : h b = some x) : h' b = some x := by rw [m b (by rw [e]; simp)]; exact e
theorem More.none_ {h h' : AHeap} (m : More h h') {b : Nat} (e : h' b = none) : h b = none := by
  cases e0 : h b with
  | none => rfl
  | some y => rw [m.at_ e0] at e; cases e
theorem slice_more {h h' : AHeap} {sz : Nat} {v : AV} {cs : List AV} (s : SliceAt h sz v cs) (m : More h h') : SliceAt h' sz v cs := s.keep fun b hb => m b (s.dom hb)
theorem loadA_more {h h' : AHeap} {n : Option Nat} {a v : AV} (m : More h h') (e : loadA h n a = .val v h) : loadA h' n a = .val v h' := loadA_at (fun b _ _ hb => m b hb) e

theorem repeatA_one (z : AV) (n : Nat) : repeatA [z] n = List.replicate n z := by
  induction n with
  | zero => rfl
  | succ n ih => simp [repeatA, ih, List.replicate_succ]
theorem make_one {h : AHeap} {bytes : Nat} {z : AV} {n : Nat} (hb : (bytes : Int) * n ≤ 281474976710656) (hn : n ≤ 4294967296) :
    makeA 1 bytes [z] (.int .i64 n) (.int .i64 n) h = .new (.cells (List.replicate n z) false) (fun b => .slice (some (b, 0)) 1 n n true) h := by
  simp only [makeA]
  rw [if_pos (by refine ⟨?_, ?_, hb, ?_⟩ <;> omega), repeatA_one]
  simp
theorem slice_new {h : AHeap} {b : Nat} {cs : List AV} {n : Nat} {ex ro : Bool} (hn : cs.length = n) : SliceAt (h.upd b (.cells cs ro)) 1 (.slice (some (b, 0)) 1 n n ex) cs := by
  refine ⟨some (b, 0), 1, n, n, ex, rfl, by omega, Nat.le_refl n, fun e => (by cases e), fun b' o' e => ?_⟩
  cases e
  exact ⟨rfl, cs, ro, AHeap.upd_same _ _ _, by omega, by rw [List.drop_zero, List.take_of_length_le (by omega)]⟩
theorem slice_at {h : AHeap} {sz b : Nat} {cs : List AV} {n : Nat} {ex ro : Bool} (hb : h b = some (.cells cs ro)) (hn : cs.length = n * sz) : SliceAt h sz (.slice (some (b, 0)) sz n n ex) cs := by
  refine ⟨some (b, 0), sz, n, n, ex, rfl, hn, Nat.le_refl n, fun e => (by cases e), fun b' o' e => ?_⟩
  cases e
  exact ⟨rfl, cs, ro, hb, by omega, by rw [List.drop_zero, List.take_of_length_le (by omega)]⟩
theorem slice_one {h : AHeap} {sz b : Nat} {x : List AV} (hx : x.length = sz) : SliceAt (h.upd b (.cells x false)) sz (.slice (some (b, 0)) sz 1 1 true) x :=
  slice_at (AHeap.upd_same _ _ _) (by omega)
theorem upd_none {h : AHeap} {b c : Nat} {x : ABlk} (e : (h.upd b x) c = none) : c ≠ b ∧ h c = none := by
  by_cases hc : c = b
  · subst hc; rw [AHeap.upd_same] at e; cases e
  · exact ⟨hc, by rw [AHeap.upd_other _ _ hc] at e; exact e⟩
theorem SliceAt_cell {h : AHeap} {sz : Nat} {v : AV} {cs : List AV} (s : SliceAt h sz v cs) : v.oneCell = true := by
  obtain ⟨p, sz', len, cap, ex, rfl, _⟩ := s.out
  rfl
theorem oneCell_cells {v : AV} (h : v.oneCell = true) : v.cells = [v] := by cases v <;> first | rfl | (simp [AV.oneCell] at h)

/-- A slice's first elements, and its last. -/
theorem SliceAt.upto {h : AHeap} {sz : Nat} {v : AV} {cs : List AV} (s : SliceAt h sz v cs) {n : Nat} (k : Nat) (hn : cs.length = n * sz) (hs : 0 < sz) (hk : k ≤ n) (kk : IntKind) :
    ∃ v', sliceA sz v none (some (.int kk k)) none = some v' ∧ SliceAt h sz v' (cs.take (k * sz)) ∧ (∀ b, blkOf v' = some b → blkOf v = some b) := by
  obtain ⟨p, sz', len, cap, ex, rfl, h1, h2, h3, h4⟩ := s.out
  rw [h1] at hn
  have : len = n := Nat.eq_of_mul_eq_mul_right hs hn
  subst this
  have hle : k * sz ≤ len * sz := Nat.mul_le_mul_right _ hk
  cases p with
  | none =>
    obtain ⟨e1, e2⟩ := h3 rfl
    have hk0 : k = 0 := by omega
    subst hk0
    refine ⟨.slice none sz 0 0 true, by simp [sliceA], by rw [Nat.zero_mul, List.take_zero]; exact SliceAt.nil _ _ _ _, fun b hb => by cases hb⟩
  | some q =>
    obtain ⟨b, o⟩ := q
    obtain ⟨hsz, ds, ro, h5, h6, h7⟩ := h4 b o rfl
    subst hsz
    refine ⟨.slice (some (b, o + 0 * sz')) sz' (k - 0) (cap - 0) (ex || false), ?_, ?_, fun b' hb' => by simpa [blkOf] using hb'⟩
    · simp [sliceA]; omega
    · refine ⟨some (b, o + 0 * sz'), sz', k - 0, cap - 0, ex || false, rfl, by rw [List.length_take, h1, Nat.min_eq_left hle, Nat.sub_zero], by omega, fun e => (by cases e), fun b' o' e => ?_⟩
      cases e
      refine ⟨rfl, ds, ro, h5, by rw [Nat.sub_zero]; omega, ?_⟩
      rw [← h7, List.take_take]; simp [Nat.min_eq_left hle]
theorem SliceAt.from_ {h : AHeap} {sz : Nat} {v : AV} {cs : List AV} (s : SliceAt h sz v cs) {n : Nat} (k : Nat) (hn : cs.length = n * sz) (hs : 0 < sz) (hk : k ≤ n) (kk : IntKind) :
    ∃ v', sliceA sz v (some (.int kk k)) none none = some v' ∧ SliceAt h sz v' (cs.drop (k * sz)) ∧ (∀ b, blkOf v' = some b → blkOf v = some b) := by
  obtain ⟨p, sz', len, cap, ex, rfl, h1, h2, h3, h4⟩ := s.out
  rw [h1] at hn
  have : len = n := Nat.eq_of_mul_eq_mul_right hs hn
  subst this
  have hle : k * sz ≤ len * sz := Nat.mul_le_mul_right _ hk
  cases p with
  | none =>
    obtain ⟨e1, e2⟩ := h3 rfl
    have hk0 : k = 0 := by omega
    have hc0 : cs = [] := List.eq_nil_of_length_eq_zero (by rw [h1, e1]; simp)
    subst hk0; subst hc0
    subst e1; subst e2
    refine ⟨.slice none sz 0 0 true, by simp [sliceA], by simpa using SliceAt.nil _ _ _ _, fun b hb => by cases hb⟩
  | some q =>
    obtain ⟨b, o⟩ := q
    obtain ⟨hsz, ds, ro, h5, h6, h7⟩ := h4 b o rfl
    subst hsz
    have hm : (len - k) * sz' = len * sz' - k * sz' := Nat.sub_mul _ _ _
    refine ⟨.slice (some (b, o + k * sz')) sz' (len - k) (cap - k) (ex || false), ?_, ?_, fun b' hb' => by simpa [blkOf] using hb'⟩
    · simp [sliceA]; omega
    · refine ⟨some (b, o + k * sz'), sz', len - k, cap - k, ex || false, rfl, by simp [h1, hm], by omega, fun e => (by cases e), fun b' o' e => ?_⟩
      cases e
      refine ⟨rfl, ds, ro, h5, by omega, ?_⟩
      rw [← h7, List.drop_take, List.drop_drop, hm]

/-! ### A slice that has grown since. -/
structure Grown (h0 h : AHeap) (sz : Nat) (v : AV) (cs : List AV) : Prop where
  more : More h0 h
  at_ : SliceAt h sz v cs
  own : ∀ b, blkOf v = some b → h0 b = none ∧ ∃ ds, h b = some (.cells ds false)

theorem Grown.nil {h0 h : AHeap} (m : More h0 h) (sz sz' : Nat) (ex : Bool) : Grown h0 h sz (.slice none sz' 0 0 ex) [] := ⟨m, SliceAt.nil _ _ _ _, fun b hb => by cases hb⟩
theorem Grown.base {h0 h1 h : AHeap} {sz : Nat} {v : AV} {cs : List AV} (g : Grown h1 h sz v cs) (m : More h0 h1) : Grown h0 h sz v cs :=
  ⟨m.trans g.more, g.at_, fun b hb => ⟨m.none_ (g.own b hb).1, (g.own b hb).2⟩⟩
/-- Other blocks come. -/
theorem Grown.grow {h0 h h' : AHeap} {sz : Nat} {v : AV} {cs : List AV} (g : Grown h0 h sz v cs) (m : More h h') : Grown h0 h' sz v cs :=
  ⟨g.more.trans m, slice_more g.at_ m, fun b hb => by obtain ⟨h1, ds, h2⟩ := g.own b hb; exact ⟨h1, ds, m.at_ h2⟩⟩
theorem Grown.one {h : AHeap} {sz b : Nat} {x : List AV} (hb : h b = none) (hx : x.length = sz) : Grown h (h.upd b (.cells x false)) sz (.slice (some (b, 0)) sz 1 1 true) x :=
  ⟨More.upd hb _, slice_one hx, fun c hc => by cases hc; exact ⟨hb, x, AHeap.upd_same _ _ _⟩⟩
theorem Grown.make {h : AHeap} {sz b n : Nat} {x : List AV} {ex : Bool} (hb : h b = none) (hx : x.length = n * sz) : Grown h (h.upd b (.cells x false)) sz (.slice (some (b, 0)) sz n n ex) x :=
  ⟨More.upd hb _, slice_at (AHeap.upd_same _ _ _) hx, fun c hc => by cases hc; exact ⟨hb, x, AHeap.upd_same _ _ _⟩⟩

theorem Grown.append {h0 h : AHeap} {sz bytes : Nat} {v w : AV} {cs x : List AV} (g : Grown h0 h sz v cs) (hw : SliceAt h sz w x) (hs : 0 < sz) (hb : cs.length + x.length ≤ 4294967296) (hbytes : bytes ≤ 1024) (hc : cs.all AV.oneCell = true) (hd : x.all AV.oneCell = true) :
    (x = [] ∧ appendA h sz bytes v w = .val v h) ∨
    (∃ (k : Nat → AV) (h'' : AHeap), appendA h sz bytes v w = .new (.cells (cs ++ x) false) k h'' ∧ (∀ c, h c ≠ none → blkOf v ≠ some c → h'' c = h c) ∧ ∀ b, h'' b = none → Grown h0 (h''.upd b (.cells (cs ++ x) false)) sz (k b) (cs ++ x) ∧ blkOf (k b) = some b ∧ h b = none) := by
  rcases g.at_.append hw hs hb hbytes hc hd fun b hb => (g.own b hb).2 with h1 | ⟨_, k, h'', e, hh, hk⟩
  · exact .inl h1
  · have m : More h0 h'' := by
      rcases hh with rfl | ⟨c, hc, rfl⟩
      · exact g.more
      · intro d hd
        rw [AHeap.upd_other _ _ fun e => hd (by rw [e]; exact (g.own c hc).1)]
        exact g.more d hd
    refine .inr ⟨k, h'', e, fun c hc hne => ?_, fun b hb => ?_⟩
    · rcases hh with rfl | ⟨d, hd, rfl⟩
      · rfl
      · exact AHeap.upd_other _ _ fun e => hne (e ▸ hd)
    · have hhb : h b = none := by
        rcases hh with rfl | ⟨d, hd, rfl⟩
        · exact hb
        · exact (upd_none hb).2
      obtain ⟨h1, h2⟩ := hk b hb
      refine ⟨⟨m.trans (More.upd hb _), h2, fun c hc => ?_⟩, h1, hhb⟩
      rw [h1] at hc; cases hc
      exact ⟨m.none_ hb, _, AHeap.upd_same _ _ _⟩

/-- One more element. -/
theorem Grown.push {h0 h : AHeap} {sz bytes : Nat} {v : AV} {cs x : List AV} (g : Grown h0 h sz v cs) {b : Nat} (hb : h b = none) (hx : x.length = sz) (hs : 0 < sz) (hl : cs.length + sz ≤ 4294967296) (hbytes : bytes ≤ 1024) (hc : cs.all AV.oneCell = true) (hd : x.all AV.oneCell = true) :
    ∃ (k : Nat → AV) (h'' : AHeap), appendA (h.upd b (.cells x false)) sz bytes v (.slice (some (b, 0)) sz 1 1 true) = .new (.cells (cs ++ x) false) k h'' ∧ ∀ b, h'' b = none → Grown h0 (h''.upd b (.cells (cs ++ x) false)) sz (k b) (cs ++ x) := by
  rcases (g.grow (More.upd hb (.cells x false))).append (bytes := bytes) (slice_one hx) hs (by omega) hbytes hc hd with ⟨h1, _⟩ | ⟨k, h'', e, _, hk⟩
  · subst h1; simp at hx; omega
  · exact ⟨k, h'', e, fun b hb => (hk b hb).1⟩

section rules
variable {P : Program} {N : Nat} {rd : Bool} {Q : AEx → TM → List ADef → AHeap → Prop} {ks : List Kont} {tm : TM} {ds : List ADef} {h : AHeap}

/-- AN APPEND to a slice that has grown since: whether or not something came, and wherever. -/
theorem res_append {h0 : AHeap} {sz bytes : Nat} {v w : AV} {cs x : List AV} (g : Grown h0 h sz v cs) (hw : SliceAt h sz w x) (hs : 0 < sz) (hb : cs.length + x.length ≤ 4294967296) (hbytes : bytes ≤ 1024) (hc : cs.all AV.oneCell = true) (hd : x.all AV.oneCell = true)
    {dst : Option Nat} {l : List AOper} (next : ∀ v' h', Grown h0 h' sz v' (cs ++ x) → Dom h h' → (∀ c, h c ≠ none → blkOf v ≠ some c → h' c = h c) → (∀ c, blkOf v' = some c → blkOf v = some c ∨ h c = none) → WkOps P N rd Q ks l (tm.put dst v') ds h') :
    WkRes P N rd Q ks dst l tm ds h (appendA h sz bytes v w) := by
  rcases g.append hw hs hb hbytes hc hd with ⟨h1, e⟩ | ⟨k, h'', e, m, hk⟩
  · rw [e, res_val]
    subst h1
    exact next v h (by rw [List.append_nil]; exact g) (.refl h) (fun _ _ _ => rfl) fun c hc => .inl hc
  · have hdm := ev_keeps (.append sz bytes [] (.const v) (.const w)) tm h
    simp only [AOp.ev, AOpd.ev, e, ARes.keeps] at hdm
    rw [e, res_new]
    intro b hb
    obtain ⟨h1, h2, h3⟩ := hk b hb
    refine next _ _ h1 (hdm.trans (Dom.new hb _)) (fun c hc hne => ?_) fun c hc => ?_
    · rw [AHeap.upd_other _ _ (by intro e; rw [e] at hc; exact hc h3)]; exact m c hc hne
    · rw [h2] at hc; cases hc; exact .inr h3
/-- The same in a statement whose order is open. -/
theorem mres_append {h0 : AHeap} {sz bytes : Nat} {v w : AV} {cs x : List AV} (g : Grown h0 h sz v cs) (hw : SliceAt h sz w x) (hs : 0 < sz) (hb : cs.length + x.length ≤ 4294967296) (hbytes : bytes ≤ 1024) (hc : cs.all AV.oneCell = true) (hd : x.all AV.oneCell = true)
    {dsts : List Nat} {tail : List AOper} {dst : Option Nat} {pend : List AOper} {l : List DOper} (hp : ∀ c, blkOf v = some c → ∀ q ∈ pend, q.notAt tm c)
    (next : ∀ v' h', Grown h0 h' sz v' (cs ++ x) → Dom h h' → (∀ c, h c ≠ none → blkOf v ≠ some c → h' c = h c) → (∀ c, blkOf v' = some c → blkOf v = some c ∨ h c = none) → WkMain P N rd Q ks dsts tail ds l (tm.put dst v') h') :
    WkMRes P N rd Q ks dsts tail ds dst pend l tm h (appendA h sz bytes v w) := by
  have key : ∀ (l : List AOper) (h' : AHeap), (∀ c, blkOf v = some c → ∀ q ∈ l, q.notAt tm c) → (∀ c, h c ≠ none → blkOf v ≠ some c → h' c = h c) → stabs tm h h' l := by
    intro l h' hl hm
    induction l with
    | nil => trivial
    | cons q l ih =>
      refine ⟨?_, ih fun c hc q hq => hl c hc q (List.mem_cons_of_mem _ hq)⟩
      cases hv : blkOf v with
      | none => exact stab_more (fun c hc => hm c hc (by rw [hv]; simp)) q
      | some c => exact stab_but (fun b hb hne => hm b hb (by rw [hv]; simpa using fun e => hne e.symm)) q (hl c hv q (List.mem_cons_self ..))
  unfold WkMRes
  rcases g.append hw hs hb hbytes hc hd with ⟨h1, e⟩ | ⟨k, h'', e, m, hk⟩
  · rw [e]
    subst h1
    exact ⟨key _ _ hp fun _ _ _ => rfl, next v h (by rw [List.append_nil]; exact g) (.refl h) (fun _ _ _ => rfl) fun c hc => .inl hc⟩
  · have hdm := ev_keeps (.append sz bytes [] (.const v) (.const w)) tm h
    simp only [AOp.ev, AOpd.ev, e, ARes.keeps] at hdm
    rw [e]
    intro b hb
    obtain ⟨h1, h2, h3⟩ := hk b hb
    have hm' : ∀ c, h c ≠ none → blkOf v ≠ some c → (h''.upd b (.cells (cs ++ x) false)) c = h c := fun c hc hne => by
      rw [AHeap.upd_other _ _ (by intro e; rw [e] at hc; exact hc h3)]; exact m c hc hne
    exact ⟨key _ _ hp hm', next _ _ h1 (hdm.trans (Dom.new hb _)) hm' fun c hc => by rw [h2] at hc; cases hc; exact .inr h3⟩
/-- A call that only makes blocks keeps all that is pending. -/
theorem mres_ret_more {dsts : List Nat} {tail : List AOper} {dst : Option Nat} {pend : List AOper} {l : List DOper} {f : FuncId} {args : List AV} {R : AV → AHeap → Prop} (hc : ARets P N f args h R) (hm : ∀ v h', R v h' → More h h')
    (h1 : ∀ v h', Dom h h' → R v h' → WkMain P N rd Q ks dsts tail ds l (tm.put dst v) h') :
    WkMRes P N rd Q ks dsts tail ds dst pend l tm h (.call f args) := mres_ret hc fun v h' d r => ⟨stabs_more (hm v h' r) _, h1 v h' d r⟩

theorem cond_cut {a b c : ACode} {v : AV} (J : TM → List ADef → AHeap → Prop)
    (h1 : WkCond P N rd Q (.loop J :: ks) a b tm ds h v) (h2 : ∀ tm ds h, J tm ds h → Wk P N rd Q ks c tm ds h) : WkCond P N rd Q (.seq c :: ks) a b tm ds h v := by
  have key : ∀ a : ACode, Wk P N rd Q (.loop J :: ks) a tm ds h → Wk P N rd Q (.seq c :: ks) a tm ds h := fun a hw => Am.wp_mono a (fun e tm ds h x => by
    cases e with
    | normal => exact h2 _ _ _ x
    | _ => exact x) tm ds h hw
  cases v with
  | bool t => cases t <;> exact key _ h1
  | _ => exact h1
end rules

/-! ### Whose a block is: 0 nobody's. -/
/-- What is nobody's stays. -/
def Off (ρ : Nat → Nat) (h h' : AHeap) : Prop := ∀ c, ρ c = 0 → h c ≠ none → h' c = h c
/-- Whose blocks have only come, or were one's own. -/
def Mine (ρ ρ' : Nat → Nat) (h : AHeap) : Prop := ∀ c, ρ' c ≠ 0 → ρ c ≠ 0 ∨ h c = none
theorem Off.trans {ρ ρ' : Nat → Nat} {a b c : AHeap} (h : Off ρ a b) (k : Off ρ' b c) (m : Mine ρ ρ' a) : Off ρ a c := fun x h0 hx => by
  have h1 := h x h0 hx
  rw [k x (by
    by_cases e : ρ' x = 0
    · exact e
    · rcases m x e with h2 | h2
      · exact absurd h0 h2
      · exact absurd h2 hx) (by rw [h1]; exact hx)]
  exact h1
theorem Mine.trans {ρ ρ' ρ'' : Nat → Nat} {a b : AHeap} (m : Mine ρ ρ' a) (o : Off ρ a b) (k : Mine ρ' ρ'' b) : Mine ρ ρ'' a := fun x hx => by
  rcases k x hx with h1 | h1
  · exact m x h1
  · by_cases e : a x = none
    · exact .inr e
    · by_cases e' : ρ x = 0
      · have := o x e' e; rw [h1] at this; exact absurd this.symm e
      · exact .inl e'
theorem Mine.refl (ρ : Nat → Nat) (h : AHeap) : Mine ρ ρ h := fun _ h => .inl h
theorem Off.refl (ρ : Nat → Nat) (h : AHeap) : Off ρ h h := fun _ _ _ => rfl
theorem More.off {h h' : AHeap} (m : More h h') (ρ : Nat → Nat) : Off ρ h h' := fun c _ hc => m c hc
theorem slice_off {ρ : Nat → Nat} {h h' : AHeap} (o : Off ρ h h') {sz : Nat} {v : AV} {cs : List AV} (s : SliceAt h sz v cs) (hv : ∀ b, blkOf v = some b → ρ b = 0) : SliceAt h' sz v cs :=
  s.keep fun b hb => o b (hv b hb) (s.dom hb)

theorem fill_nil {z : List AV} : fillA (repeatA z 0) [] = some [] := _root_.id rfl
theorem fill_int {z : AV} {k : IntKind} {x : Int} : fillA (repeatA [z] 1) [(0, 1, .int k x)] = some [.int k x] := _root_.id rfl
theorem fill_row {z1 z2 z3 a b c : AV} : fillA (repeatA [z1, z2, z3] 1) [(0, 3, .agg [a, b, c])] = some [a, b, c] := _root_.id rfl
end Go.Am
