/-
  Part of the proofs about the heap: an abstract memory, its compiled code, and the contracts of the functions over it.
  Conditions: each theorem names its own.
-/
import Derived.Test.YtnkdjfmidiffdaaAm2
import Derived.Orders
set_option linter.unusedSimpArgs false
set_option linter.unusedVariables false
/-
  A PREDICATE TRANSFORMER OVER COMPILED CODE, and that what it promises is what the model's code does.
-/
namespace Go.Am
open Go.RowKit

inductive AEnd where
  | ret (v : AV)
  | panic (v : AV)
inductive AEx where
  | normal
  | exit (id : Nat)
  | ret
  | panic (v : AV)
inductive ADef where
  | call (fn : Fn) (cap args : List AV)
  | coll (b : Nat)

def EndRel (ι : Emb) : AEnd → Ending → Prop
  | .ret v, .returned cv => VRel ι v cv
  | .panic v, .panicked chain => ∃ cv, chain = [{ v := cv, recovered := false }] ∧ VRel ι v cv
  | _, _ => False
def ExRel (ι : Emb) : AEx → Ex → Prop
  | .normal, .normal => True
  | .exit i, .exit j => i = j
  | .ret, .ret => True
  | .panic v, .panic chain => ∃ cv, chain = [{ v := cv, recovered := false }] ∧ VRel ι v cv
  | _, _ => False
def DefRel (ι : Emb) : ADef → Deferred → Prop
  | .call fn cap args, d => ∃ cap', d.target = .fn fn cap' ∧ VsRel ι cap cap'.toList ∧ VsRel ι args d.args.toList
  | .coll b, d => ∃ L, ι b = some L ∧ d.target = .collected L.blk
inductive DsRel (ι : Emb) : List ADef → List Deferred → Prop
  | nil : DsRel ι [] []
  | cons (a : ADef) (d : Deferred) (l : List ADef) (m : List Deferred) (h : DefRel ι a d) (hs : DsRel ι l m) : DsRel ι (a :: l) (d :: m)
theorem EndRel.ext {ι ι' : Emb} (e : Ext ι ι') {x : AEnd} {y : Ending} (h : EndRel ι x y) : EndRel ι' x y := by
  cases x <;> cases y <;> simp only [EndRel] at h ⊢
  · exact h.ext e
  · obtain ⟨cv, h1, h2⟩ := h; exact ⟨cv, h1, h2.ext e⟩
theorem DefRel.ext {ι ι' : Emb} (e : Ext ι ι') {x : ADef} {y : Deferred} (h : DefRel ι x y) : DefRel ι' x y := by
  cases x with
  | call fn cap args => obtain ⟨c, h1, h2, h3⟩ := h; exact ⟨c, h1, h2.ext e, h3.ext e⟩
  | coll b => obtain ⟨L, h1, h2⟩ := h; exact ⟨L, e _ _ h1, h2⟩
theorem DsRel.ext {ι ι' : Emb} (e : Ext ι ι') {l : List ADef} {m : List Deferred} (h : DsRel ι l m) : DsRel ι' l m := by
  induction h with
  | nil => exact .nil
  | cons a d l m h _ ih => exact .cons _ _ _ _ (h.ext e) ih

/-- No block has gone. -/
structure Dom (h h' : AHeap) : Prop where
  dom : ∀ b, h b ≠ none → h' b ≠ none
  ro : ∀ b cs, h b = some (.cells cs true) → h' b = some (.cells cs true)
instance (h h' : AHeap) : CoeFun (Dom h h') fun _ => ∀ b, h b ≠ none → h' b ≠ none := ⟨Dom.dom⟩
theorem Dom.refl (h : AHeap) : Dom h h := ⟨fun _ h => h, fun _ _ h => h⟩
theorem Dom.trans {a b c : AHeap} (h : Dom a b) (k : Dom b c) : Dom a c := ⟨fun x hx => k.dom x (h.dom x hx), fun x cs hx => k.ro x cs (h.ro x cs hx)⟩
/-- A block that is not for reading only is turned. -/
theorem Dom.upd (h : AHeap) (b : Nat) (x : ABlk) (hn : ∀ cs, h b ≠ some (.cells cs true)) : Dom h (h.upd b x) :=
  ⟨fun c hc => by
    by_cases e : c = b
    · subst e; rw [AHeap.upd_same]; simp
    · rw [AHeap.upd_other _ _ e]; exact hc,
   fun c cs hc => by
    by_cases e : c = b
    · subst e; exact absurd hc (hn cs)
    · rw [AHeap.upd_other _ _ e]; exact hc⟩
theorem Dom.new {h : AHeap} {b : Nat} (hb : h b = none) (x : ABlk) : Dom h (h.upd b x) := Dom.upd h b x fun cs e => by rw [hb] at e; cases e
theorem Dom.more {h h' : AHeap} (m : ∀ b, h b ≠ none → h' b = h b) : Dom h h' := ⟨fun b hb => by rw [m b hb]; exact hb, fun b cs hb => by rw [m b (by rw [hb]; simp)]; exact hb⟩
/-- What was there keeps its place, and what had none gets none. -/
structure Grow (ι : Emb) (h : AHeap) (ι' : Emb) (h' : AHeap) : Prop where
  ext : Ext ι ι'
  dom : Dom h h'
  free : ∀ b, h b ≠ none → ι b = none → ι' b = none
theorem Grow.refl (ι : Emb) (h : AHeap) : Grow ι h ι h := ⟨.refl _, .refl _, fun _ _ e => e⟩
theorem Grow.trans {ι ι' ι'' : Emb} {h h' h'' : AHeap} (a : Grow ι h ι' h') (b : Grow ι' h' ι'' h'') : Grow ι h ι'' h'' :=
  ⟨a.ext.trans b.ext, a.dom.trans b.dom, fun c hc e => b.free c (a.dom c hc) (a.free c hc e)⟩
theorem Grow.of_dom {ι : Emb} {h h' : AHeap} (d : Dom h h') : Grow ι h ι h' := ⟨.refl _, d, fun _ _ e => e⟩

theorem ofOpt_dom {h : AHeap} {o : Option AV} {v : AV} {h' : AHeap} (e : ARes.ofOpt h o = .val v h') : h' = h := by
  cases o <;> simp only [ARes.ofOpt] at e <;> cases e; rfl
theorem ofOpt_new {h : AHeap} {o : Option AV} {x : ABlk} {k : Nat → AV} {h' : AHeap} (e : ARes.ofOpt h o = .new x k h') : False := by
  cases o <;> simp only [ARes.ofOpt] at e <;> cases e
theorem ofOpt_any {h : AHeap} {o : Option AV} {l : List (AV × AHeap)} (e : ARes.ofOpt h o = .any l) : False := by
  cases o <;> simp only [ARes.ofOpt] at e <;> cases e
/-- No operation lets a block go. -/
def ARes.keeps (h : AHeap) : ARes → Prop
  | .val _ h' => Dom h h'
  | .new _ _ h' => Dom h h'
  | .any l => ∀ o ∈ l, Dom h o.2
  | _ => True
theorem keeps_ofOpt (h : AHeap) (o : Option AV) : (ARes.ofOpt h o).keeps h := by cases o <;> first | exact .refl h | trivial
theorem ev_keeps (op : AOp) (tm : TM) (h : AHeap) : (op.ev tm h).keeps h := by
  cases op <;> simp only [AOp.ev] <;> first
    | exact keeps_ofOpt _ _
    | exact Dom.refl h
    | trivial
    | (split <;> first | exact keeps_ofOpt _ _ | exact Dom.refl h | trivial)
    | skip
  case load => unfold loadA; split <;> (try trivial); split <;> (try trivial); split <;> (split <;> first | exact Dom.refl h | trivial)
  case store => unfold storeA; split <;> (try trivial); split <;> (try trivial); split <;> first | exact Dom.upd _ _ _ (fun cs hc => by simp_all) | trivial
  case mapUpdate => unfold updateA; split <;> (try trivial); split <;> (try trivial); split <;> (try trivial); split <;> first | exact Dom.upd _ _ _ (fun cs hc => by simp_all) | trivial
  case delete => unfold deleteA; split <;> (try trivial); split <;> (try trivial); split <;> (try trivial); split <;> first | exact Dom.upd _ _ _ (fun cs hc => by simp_all) | trivial
  case range => unfold rangeA; split <;> (try trivial) <;> (try exact Dom.refl h); split <;> first | exact Dom.refl h | trivial
  case next =>
    unfold nextA
    split <;> (try trivial)
    split <;> (try trivial) <;> (try exact Dom.refl h)
    split <;> (try trivial)
    split
    · trivial
    · intro o ho
      rcases List.mem_append.1 ho with ho | ho
      · split at ho
        · simp at ho; subst ho; exact Dom.refl h
        · simp at ho
      · obtain ⟨e, _, rfl⟩ := List.mem_map.1 ho
        exact Dom.upd _ _ _ (fun cs hc => by simp_all)
  case append =>
    unfold appendA
    split <;> (try trivial)
    split <;> (try exact Dom.refl h)
    split <;> (try trivial)
    split <;> (try trivial)
    split <;> (try exact Dom.refl h)
    split <;> (try exact Dom.refl h)
    split <;> (try trivial)
    split <;> first | exact Dom.upd _ _ _ (fun cs hc => by simp_all) | trivial
  case call => unfold callA; split <;> trivial
  case minInt => split <;> (try trivial); split <;> first | exact Dom.refl h | trivial
  case makeSlice => unfold makeA; split <;> (try trivial); split <;> first | exact Dom.refl h | trivial

/-- A function of the program that has a body. -/
def GoodFn (P : Program) (f : FuncId) : Prop := ∃ fn, P.funcs[f]? = some fn ∧ fn.body.isSome = true ∧ (fn.name == "runtime.NumGoroutine") = false

/-- What a call leaves, told by an abstract memory. -/
def EndPost (N : Nat) (ι : Emb) (h : AHeap) (w : World) (R : AEnd → AHeap → Prop) (e : Ending) (w' : World) : Prop :=
  ∃ ι' h' x, Grow ι h ι' h' ∧ Sim N ι' h' w' ∧ Below N w w' ∧ EndRel ι' x e ∧ R x h'
/-- A CALL, TOLD BY AN ABSTRACT MEMORY. -/
def ACalls (P : Program) (N : Nat) (f : FuncId) (args : List AV) (h : AHeap) (R : AEnd → AHeap → Prop) : Prop :=
  GoodFn P f ∧ ∀ ι w vs, Sim N ι h w → VsRel ι args vs.toList → Calls P f vs w (EndPost N ι h w R)
/-- A round of a loop over a function, called by it. -/
def AYields (P : Program) (N : Nat) (b : Nat) (args : List AV) (h : AHeap) (R : AEnd → AHeap → Prop) : Prop :=
  ∀ ι w L vs, Sim N ι h w → ι b = some L → VsRel ι args vs.toList → ∃ l f tmps assign body, (Instr.yield L.blk vs).run P w = .ok (.round l f tmps assign body) w ∧
    Runs P (Frame.round l f tmps assign body .normal) w (EndPost N ι h w R)

theorem ACalls.mono' {P : Program} {N : Nat} {f : FuncId} {args : List AV} {h : AHeap} {R R' : AEnd → AHeap → Prop} (c : ACalls P N f args h R) (hr : ∀ x h', Dom h h' → R x h' → R' x h') : ACalls P N f args h R' :=
  ⟨c.1, fun ι w vs s hv => (c.2 ι w vs s hv).mono fun _ _ ⟨ι', h', x, a, b, d, e, r⟩ => ⟨ι', h', x, a, b, d, e, hr _ _ a.dom r⟩⟩
theorem ACalls.mono {P : Program} {N : Nat} {f : FuncId} {args : List AV} {h : AHeap} {R R' : AEnd → AHeap → Prop} (c : ACalls P N f args h R) (hr : ∀ x h', R x h' → R' x h') : ACalls P N f args h R' :=
  ⟨c.1, fun ι w vs s hv => (c.2 ι w vs s hv).mono fun _ _ ⟨ι', h', x, a, b, d, e, r⟩ => ⟨ι', h', x, a, b, d, e, hr _ _ r⟩⟩

def ARes.wp (P : Program) (N : Nat) (rd : Bool) (h : AHeap) (K : AV → AHeap → Prop) (Kp : AV → AHeap → Prop) (Kd : ADef → Prop) : ARes → Prop
  | .val v h' => K v h'
  | .new x k h' => ∀ b, h' b = none → K (k b) (h'.upd b x)
  | .any l => ∀ o ∈ l, K o.1 o.2
  | .call f args => ACalls P N f args h fun e h' => match e with
    | .ret v => K v h'
    | .panic v => Kp v h'
  | .yield b args => AYields P N b args h fun e h' => match e with
    | .ret v => K v h'
    | .panic v => Kp v h'
  | .panic v => Kp v h
  | .defer fn cap args => rd = false ∧ Kd (.call fn cap args)
  | .stuck => False

def wantA (tm : TM) : Option (Nat × Bool) → Bool
  | none => true
  | some (d, b) => match tm d with
    | .bool t => t == b
    | _ => false

def wpOps (P : Program) (N : Nat) (rd : Bool) (Q : AEx → TM → List ADef → AHeap → Prop) : List AOper → TM → List ADef → AHeap → Prop
  | [], tm, ds, h => Q .normal tm ds h
  | o :: l, tm, ds, h =>
    if wantA tm o.guard = true then (o.op.ev tm h).wp P N rd h (fun v h' => wpOps P N rd Q l (tm.put o.dst v) ds h') (fun v h' => Q (.panic v) tm ds h') (fun d => wpOps P N rd Q l (tm.put o.dst undefA) (d :: ds) h)
    else wpOps P N rd Q l (tm.put o.dst undefA) ds h

/-- All temporaries that operations write are of the frame. -/
def boundOps (n : Nat) (l : List AOper) : Bool := l.all fun o => match o.dst with
  | some d => decide (d < n)
  | none => true

/-- What code leaves, told by an abstract memory. -/
def ExPost (N : Nat) (ι : Emb) (h0 : AHeap) (w : World) (n : Nat) (Q : AEx → TM → List ADef → AHeap → Prop) (e : Ex) (a : Act) (w' : World) : Prop :=
  ∃ ι' x tm ds h, Grow ι h0 ι' h ∧ Sim N ι' h w' ∧ Below N w w' ∧ ExRel ι' x e ∧ ActRel ι' n tm a.tmps ∧ DsRel ι' ds a.defers ∧ Q x tm ds h
theorem ExPost.back {N : Nat} {ι ι' : Emb} {h0 h1 : AHeap} {w w1 : World} {n : Nat} {Q : AEx → TM → List ADef → AHeap → Prop} {e : Ex} {a : Act} {w' : World} (h : ExPost N ι' h1 w1 n Q e a w') (he : Grow ι h0 ι' h1) (hb : Below N w w1) : ExPost N ι h0 w n Q e a w' :=
  let ⟨i, x, tm, ds, k, a1, a2, a3, a4⟩ := h; ⟨i, x, tm, ds, k, he.trans a1, a2, hb.trans a3, a4⟩
theorem ExPost.mono {N : Nat} {ι : Emb} {h0 : AHeap} {w : World} {n : Nat} {Q Q' : AEx → TM → List ADef → AHeap → Prop} {e : Ex} {a : Act} {w' : World} (h : ExPost N ι h0 w n Q e a w') (hq : ∀ x tm ds h, Q x tm ds h → Q' x tm ds h) : ExPost N ι h0 w n Q' e a w' :=
  let ⟨i, x, tm, ds, k, a1, a2, a3, a4, a5, a6, a7⟩ := h; ⟨i, x, tm, ds, k, a1, a2, a3, a4, a5, a6, hq _ _ _ _ a7⟩

theorem OpOut.mono {P : Program} {r : Option Nat} {o : Oper} {a : Act} {next next' : Act → World → Prop} {Q Q' : Ex → Act → World → Prop} {res : Result Next} (h : OpOut P r o a next Q res)
    (h1 : ∀ a w, next a w → next' a w) (h2 : ∀ e a w, Q e a w → Q' e a w) : OpOut P r o a next' Q' res := by
  unfold OpOut at h ⊢
  split at h <;> first
    | exact h1 _ _ h
    | exact ⟨h.1, h1 _ _ h.2⟩
    | exact h2 _ _ _ h
    | exact h.elim
    | (refine h.mono fun e w hx => ?_
       cases e with
       | returned v => exact h1 _ _ hx
       | panicked c => exact h2 _ _ _ hx
       | outgrown => exact hx)

/-- One operation: from what its twin promises to what the model's does. -/
theorem oper_sound {P : Program} {N : Nat} {ι : Emb} {h : AHeap} {w : World} (s : Sim N ι h w) {n : Nat} {tm : TM} {act : Act} (ha : ActRel ι n tm act.tmps) {ds : List ADef} (_hds : DsRel ι ds act.defers) {o : Oper} {x : AOp} (hc : compOp P o.op = some x)
    (r : Option Nat) {next : Act → World → Prop} {Q : Ex → Act → World → Prop} {K : AV → AHeap → Prop} {Kp : AV → AHeap → Prop} {Kd : ADef → Prop} (hwp : (x.ev tm h).wp P N r.isSome h K Kp Kd)
    (hK : ∀ ι' v cv h' w', Grow ι h ι' h' → Sim N ι' h' w' → Below N w w' → VRel ι' v cv → K v h' → next (act.put o.dst cv) w')
    (hKp : ∀ ι' v cv h' w', Grow ι h ι' h' → Sim N ι' h' w' → Below N w w' → VRel ι' v cv → Kp v h' → Q (.panic [{ v := cv, recovered := false }]) act w')
    (hKd : ∀ d cd, DefRel ι d cd → r = none → Kd d → next ({ act with defers := cd :: act.defers }.put o.dst undef) w) :
    (r = none ∨ ∀ c, o.op ≠ .defer c) ∧ OpOut P r o act next Q ((execOp act.eval o).run P w) := by
  have m := op_sound s ha hc
  have hkeep := ev_keeps x tm h
  refine ⟨?_, ?_⟩
  · cases r with
    | none => exact .inl rfl
    | some l =>
      refine .inr fun c hd => ?_
      rw [hd] at hc
      replace hc : cDefer c = some x := hc
      unfold cDefer at hc
      split at hc
      · split at hc
        · cases hc
          simp only [AOp.ev] at hwp
          split at hwp
          · exact absurd hwp.1 (by simp)
          · exact hwp
        · cases hc
      · cases hc
  · generalize (execOp act.eval o).run P w = res at m
    cases hev : x.ev tm h with
    | val v h' =>
      rw [hev] at m hwp hkeep
      obtain ⟨cv, w', hres, hv, s', hb⟩ := m
      rcases hres with rfl | ⟨rfl, rfl⟩
      · exact hK ι v cv h' w' (.of_dom hkeep) s' hb hv hwp
      · exact hK ι v undef h' w' (.of_dom hkeep) s' hb hv hwp
    | new y k h' =>
      rw [hev] at m hwp hkeep
      obtain ⟨⟨b, hfin⟩, m⟩ := m
      have hb := hfin b (Nat.le_refl b)
      obtain ⟨L, cv, w', he, rfl, hv, s', hbl⟩ := m b hb
      refine hK _ (k b) cv _ w' ⟨he, hkeep.trans (Dom.new hb _), fun c hc hi => ?_⟩ s' hbl hv (hwp b hb)
      have hcb : c ≠ b := fun e => hkeep.dom c hc (by rw [e]; exact hb)
      rw [Emb.upd_other _ _ hcb]; exact hi
    | any l =>
      rw [hev] at m hwp hkeep
      obtain ⟨p, hp, cv, w', rfl, hv, s', hb⟩ := m
      exact hK ι p.1 cv p.2 w' (.of_dom (hkeep p hp)) s' hb hv (hwp p hp)
    | call f args =>
      rw [hev] at m hwp
      obtain ⟨cargs, rfl, hv⟩ := m hwp.1
      have := hwp.2 ι w cargs s hv
      refine (Runs.of_calls this fun w' ⟨_, _, x, _, _, _, h, _⟩ => by cases x <;> exact h).mono fun e w' ⟨ι', h', x, e1, s', hb, hr, hk⟩ => ?_
      cases e with
      | returned cv =>
        cases x with
        | ret v => exact hK ι' v cv h' w' e1 s' hb hr hk
        | panic v => exact hr.elim
      | panicked chain =>
        cases x with
        | ret v => exact hr.elim
        | panic v => obtain ⟨cv, rfl, hv⟩ := hr; exact hKp ι' v cv h' w' e1 s' hb hv hk
      | outgrown => cases x <;> exact hr
    | yield b args =>
      rw [hev] at m hwp
      obtain ⟨L, cargs, hL, hv, rfl⟩ := m
      obtain ⟨l, f, tmps, assign, body, hy, hruns⟩ := hwp ι w L cargs s hL hv
      rw [hy]
      refine hruns.mono fun e w' ⟨ι', h', x, e1, s', hb, hr, hk⟩ => ?_
      cases e with
      | returned cv =>
        cases x with
        | ret v => exact hK ι' v cv h' w' e1 s' hb hr hk
        | panic v => exact hr.elim
      | panicked chain =>
        cases x with
        | ret v => exact hr.elim
        | panic v => obtain ⟨cv, rfl, hv⟩ := hr; exact hKp ι' v cv h' w' e1 s' hb hv hk
      | outgrown => cases x <;> exact hr
    | panic v =>
      rw [hev] at m hwp
      obtain ⟨cv, rfl, hv⟩ := m
      exact hKp ι v cv h w (.refl ι h) s (.refl _ _) hv hwp
    | defer fn cap args =>
      rw [hev] at m hwp
      obtain ⟨ccap, cargs, rfl, h1, h2⟩ := m
      have hr : r = none := by cases r <;> simp_all [ARes.wp]
      exact ⟨hr, hKd (.call fn cap args) _ ⟨ccap, rfl, h1, h2⟩ hr hwp.2⟩
    | stuck => rw [hev] at hwp; exact hwp.elim
end Go.Am
/-
  REGIONS, CODE AND CALLS: what the predicate transformer promises is what the model's code does.
-/
namespace Go.Am
open Go.RowKit

theorem want_sound {ι : Emb} {n : Nat} {tm : TM} {act : Act} (ha : ActRel ι n tm act.tmps) {ops : Array Oper} {o : Oper} {g : Option (Nat × Bool)} (hg : compGuard ops o = some g) :
    Region.wanted o (yielded ops act.tmps) = wantA tm g := by
  unfold compGuard at hg
  unfold Region.wanted
  cases ho : o.guard with
  | none => rw [ho] at hg; cases hg; rfl
  | some p =>
    obtain ⟨j, b⟩ := p
    rw [ho] at hg
    simp only [] at hg ⊢
    split at hg
    · rename_i d hd
      cases hg
      simp only [yielded, hd, Option.bind_some, wantA]
      have hv := ha.get d
      rw [Array.getD_eq_getD_getElem?] at hv
      cases he : act.tmps[d]? with
      | none =>
        rw [he] at hv
        simp only [Option.getD_none] at hv
        cases ht : tm d with
        | bool t => rw [ht] at hv; cases hv
        | _ => rfl
      | some v =>
        rw [he] at hv
        simp only [Option.getD_some] at hv
        cases ht : tm d with
        | bool t =>
          rw [ht] at hv; cases hv
          show (some t == some b) = (t == b)
          cases t <;> cases b <;> rfl
        | _ => rw [ht] at hv; cases hv <;> rfl
    · cases hg

section
variable {P : Program} {N : Nat}

theorem OpsW.mono {r : Option Nat} {ops : Array Oper} {Q Q' : Ex → Act → World → Prop} (hq : ∀ e a w, Q e a w → Q' e a w) {l : List Nat} : ∀ {a : Act} {u : World}, OpsW P r ops Q l a u → OpsW P r ops Q' l a u := by
  induction l with
  | nil => intro a u h; exact hq _ _ _ h
  | cons i l ihl =>
    intro a u h
    simp only [OpsW] at h ⊢
    cases hi : ops[i]? with
    | none => rw [hi] at h; exact ihl h
    | some oo =>
      rw [hi] at h
      simp only [] at h ⊢
      split
      · rename_i hw
        rw [if_pos hw] at h
        exact ⟨h.1, h.2.mono (fun _ _ => ihl) fun e a w h => hq _ _ _ h⟩
      · rename_i hw
        rw [if_neg hw] at h
        exact ihl h

theorem compOper_inv {ops : Array Oper} {o : Oper} {a : AOper} (h : compOper P ops o = some a) : ∃ x g, compOp P o.op = some x ∧ compGuard ops o = some g ∧ a = { dst := o.dst, op := x, guard := g, after := compAfter o } := by
  unfold compOper at h
  split at h
  · cases h; exact ⟨_, _, by assumption, by assumption, rfl⟩
  · cases h

theorem ops_sound (r : Option Nat) {n : Nat} {ops : Array Oper} {Q : AEx → TM → List ADef → AHeap → Prop} : ∀ (suf : List Oper) (al : List AOper) (k : Nat), compOpers P ops suf = some al → (∀ j, j < suf.length → ops[k + j]? = suf[j]?) → boundOps n al = true →
    ∀ {tm : TM} {ds : List ADef} {h : AHeap} {ι : Emb} {w : World} {act : Act}, wpOps P N r.isSome Q al tm ds h → Sim N ι h w → ActRel ι n tm act.tmps → DsRel ι ds act.defers →
      OpsW P r ops (ExPost N ι h w n Q) (List.range' k suf.length) act w
  | [], al, k, hc, _, _, tm, ds, h, ι, w, act, hwp, s, ha, hd => by
    simp only [compOpers] at hc; cases hc
    exact ⟨ι, .normal, tm, ds, h, .refl ι h, s, .refl _ _, trivial, ha, hd, hwp⟩
  | o :: suf, al, k, hc, hops, hbnd, tm, ds, h, ι, w, act, hwp, s, ha, hd => by
    simp only [compOpers] at hc
    split at hc
    · rename_i a l h1 h2
      cases hc
      obtain ⟨x, g, hx, hg, rfl⟩ := compOper_inv h1
      simp only [boundOps, List.all_cons, Bool.and_eq_true] at hbnd
      have hdst : ∀ d, o.dst = some d → d < n := fun d hd' => by have := hbnd.1; simp only [hd'] at this; simpa using this
      have ho : ops[k]? = some o := by have := hops 0 (by simp); simpa using this
      have hops' : ∀ j, j < suf.length → ops[k + 1 + j]? = suf[j]? := fun j hj => by
        have := hops (j + 1) (by simp; omega)
        rw [show k + 1 + j = k + (j + 1) by omega, this]; simp
      have ih := fun {tm ds h ι w act} => ops_sound (Q := Q) r suf l (k + 1) h2 hops' hbnd.2 (tm := tm) (ds := ds) (h := h) (ι := ι) (w := w) (act := act)
      have back : ∀ {ι' : Emb} {h' : AHeap} {w' : World}, Grow ι h ι' h' → Below N w w' → ∀ {act' : Act}, OpsW P r ops (ExPost N ι' h' w' n Q) (List.range' (k + 1) suf.length) act' w' → OpsW P r ops (ExPost N ι h w n Q) (List.range' (k + 1) suf.length) act' w' :=
        fun he hb => OpsW.mono fun e a u hx => hx.back he hb
      simp only [List.length_cons, List.range'_succ, OpsW, ho]
      simp only [wpOps] at hwp
      rw [want_sound ha hg]
      split
      · rename_i hw
        rw [if_pos hw] at hwp
        exact oper_sound s ha hd hx r hwp
          (fun ι' v cv h' w' he s' hb hv hk => back he hb (ih hk s' ((ha.ext he.ext).put o.dst hdst hv) (by cases ho' : o.dst <;> (simp only [Act.put]; exact hd.ext he.ext))))
          (fun ι' v cv h' w' he s' hb hv hk => ⟨ι', .panic v, tm, ds, h', he, s', hb, ⟨cv, rfl, hv⟩, ha.ext he.ext, hd.ext he.ext, hk⟩)
          (fun d cd hdr hr hk => ih hk s (act := { act with defers := cd :: act.defers }.put o.dst undef) (ActRel.put (a := { act with defers := cd :: act.defers }) ha o.dst hdst (.undef ι)) (by cases ho' : o.dst <;> (simp only [Act.put]; exact .cons _ _ _ _ hdr hd)))
      · rename_i hw
        rw [if_neg hw] at hwp
        exact ih hwp s (ha.put o.dst hdst (.undef ι)) (by cases ho' : o.dst <;> (simp only [Act.put]; exact hd))
    · cases hc
end

theorem wpOps_strip {P : Program} {N : Nat} {rd : Bool} {Q : AEx → TM → List ADef → AHeap → Prop} : ∀ (l : List AOper), wpOps P N rd Q (l.map AOper.strip) = wpOps P N rd Q l
  | [] => rfl
  | o :: l => by
    funext tm ds h
    have ih := wpOps_strip (P := P) (N := N) (rd := rd) (Q := Q) l
    simp only [List.map_cons, wpOps, ih]
    rfl
theorem boundOps_strip (n : Nat) (l : List AOper) : boundOps n (l.map AOper.strip) = boundOps n l := by
  simp only [boundOps, List.all_map]
  rfl

/-- All temporaries that code writes are of the frame. -/
def ACode.bound (n : Nat) : ACode → Bool
  | .region l => boundOps n l
  | .draw main tail => boundOps n (main.map (·.o)) && boundOps n tail
  | .seq a b | .cond _ a b => a.bound n && b.bound n
  | .block _ c | .loop c => c.bound n
  | .rangeFunc _ ps a b => ps.all (fun p => decide (p < n)) && a.bound n && b.bound n
  | _ => true

end Go.Am
/-
  STATEMENTS WITH AN OPEN ORDER: what their operations answer to, apart from the model's code.
-/
namespace Go.Am
open Go.RowKit

theorem AOpd.ev_congr {tm tm' : TM} : ∀ {x : AOpd}, (∀ t ∈ x.nm, tm' t = tm t) → x.ev tm' = x.ev tm
  | .tmp t, h => h t (by simp [AOpd.nm])
  | .const _, _ => rfl
theorem evAll_congr {tm tm' : TM} : ∀ {l : List AOpd}, (∀ t ∈ nmAll l, tm' t = tm t) → evAll tm' l = evAll tm l
  | [], _ => rfl
  | x :: l, h => by
    simp only [nmAll, List.mem_append] at h
    simp only [evAll]
    rw [AOpd.ev_congr fun t ht => h t (.inl ht), evAll_congr fun t ht => h t (.inr ht)]
theorem evOpt_congr {tm tm' : TM} : ∀ {x : Option AOpd}, (∀ t ∈ nmOpt x, tm' t = tm t) → evOpt tm' x = evOpt tm x
  | none, _ => rfl
  | some _, h => congrArg some (AOpd.ev_congr h)
theorem evParts_congr {tm tm' : TM} : ∀ {l : List (Nat × Nat × AOpd)}, (∀ t ∈ nmParts l, tm' t = tm t) → evParts tm' l = evParts tm l
  | [], _ => rfl
  | (o, s, x) :: l, h => by
    simp only [nmParts, List.mem_append] at h
    simp only [evParts]
    rw [AOpd.ev_congr fun t ht => h t (.inl ht), evParts_congr fun t ht => h t (.inr ht)]
/-- An operation looks at the temporaries that it names alone. -/
theorem ev_congr {tm tm' : TM} {op : AOp} (h : ∀ t ∈ op.names, tm' t = tm t) (hp : AHeap) : op.ev tm' hp = op.ev tm hp := by
  cases op <;> simp only [AOp.names, List.mem_append] at h <;> simp only [AOp.ev] <;>
    first
      | rfl
      | rw [AOpd.ev_congr h]
      | rw [evParts_congr h]
      | rw [AOpd.ev_congr fun t ht => h t (.inl ht), AOpd.ev_congr fun t ht => h t (.inr ht)]
      | rw [AOpd.ev_congr fun t ht => h t (.inl (.inl ht)), AOpd.ev_congr fun t ht => h t (.inl (.inr ht)), AOpd.ev_congr fun t ht => h t (.inr ht)]
      | rw [evAll_congr fun t ht => h t (.inl ht), evAll_congr fun t ht => h t (.inr ht)]
      | rw [AOpd.ev_congr fun t ht => h t (.inl ht), evAll_congr fun t ht => h t (.inr ht)]
      | rw [AOpd.ev_congr fun t ht => h t (.inl (.inl (.inl ht))), evOpt_congr fun t ht => h t (.inl (.inl (.inr ht))), evOpt_congr fun t ht => h t (.inl (.inr ht)), evOpt_congr fun t ht => h t (.inr ht)]
theorem wantA_congr {tm tm' : TM} {q : AOper} (h : ∀ t ∈ q.reads, tm' t = tm t) : wantA tm' q.guard = wantA tm q.guard := by
  cases hg : q.guard with
  | none => rfl
  | some p => obtain ⟨d, b⟩ := p; simp only [wantA]; rw [h d (by simp [AOper.reads, hg])]
theorem ev_congr' {tm tm' : TM} {q : AOper} (h : ∀ t ∈ q.reads, tm' t = tm t) (hp : AHeap) : q.op.ev tm' hp = q.op.ev tm hp :=
  ev_congr (fun t ht => h t (by simp [AOper.reads, ht])) hp

theorem ofOpt_cases (h : AHeap) (o : Option AV) : (∃ v, o = some v ∧ ARes.ofOpt h o = .val v h) ∨ (o = none ∧ ARes.ofOpt h o = .stuck) := by
  cases o
  · exact .inr ⟨rfl, rfl⟩
  · exact .inl ⟨_, rfl, rfl⟩
theorem ofOpt_val {h : AHeap} {o : Option AV} {v : AV} {h' : AHeap} (e : ARes.ofOpt h o = .val v h') : o = some v := by
  cases o <;> simp only [ARes.ofOpt] at e <;> cases e; rfl

/-- What a quiet operation that only looks does. -/
theorem lenA_pure {h : AHeap} {k : LenKind} (hk : k ≠ .map) (x : AV) : lenA h k x = none ∨ ∃ v, ∀ h', lenA h' k x = some v := by
  cases k <;> cases x <;> first | exact .inl rfl | exact .inr ⟨_, fun _ => rfl⟩ | exact absurd rfl hk
theorem pure_ev {op : AOp} {tm : TM} {h : AHeap} (hk : op.kind = .pure) : op.ev tm h = .stuck ∨ ∃ v, ∀ h', op.ev tm h' = .val v h' := by
  cases op
  case len k x =>
    have hk' : k ≠ .map := fun e => by subst e; simp [AOp.kind] at hk
    simp only [AOp.ev]
    rcases lenA_pure (h := h) hk' (x.ev tm) with e | ⟨v, e⟩
    · exact .inl (by rw [e]; rfl)
    · exact .inr ⟨v, fun h' => by rw [e h']; rfl⟩
  all_goals simp only [AOp.kind] at hk
  all_goals (try exact absurd hk (by decide))
  all_goals simp only [AOp.ev]
  all_goals first
    | exact .inr ⟨_, fun _ => rfl⟩
    | (split <;> first | exact .inr ⟨_, fun _ => rfl⟩ | exact .inl rfl)
    | (split <;> (try exact .inl rfl); split <;> first | exact .inr ⟨_, fun _ => rfl⟩ | exact .inl rfl)
    | (rcases ofOpt_cases h (nilCheckA _) with ⟨v, e, _⟩ | ⟨_, e⟩
       · exact .inr ⟨v, fun _ => by rw [e]; rfl⟩
       · exact .inl e)
    | skip
  all_goals first
    | (generalize hv : Option.map AV.agg _ = o
       cases o
       · exact .inl rfl
       · exact .inr ⟨_, fun _ => rfl⟩)
    | (generalize hv : binA _ _ _ _ = o
       cases o
       · exact .inl rfl
       · exact .inr ⟨_, fun _ => rfl⟩)
    | (generalize hv : sliceA _ _ _ _ _ = o
       cases o
       · exact .inl rfl
       · exact .inr ⟨_, fun _ => rfl⟩)
    | (generalize hv : indexSliceA _ _ _ = o
       cases o
       · exact .inl rfl
       · exact .inr ⟨_, fun _ => rfl⟩)
    | (generalize hv : indexArrA _ _ _ _ = o
       cases o
       · exact .inl rfl
       · exact .inr ⟨_, fun _ => rfl⟩)
    | (generalize hv : indexA _ _ _ _ _ = o
       cases o
       · exact .inl rfl
       · exact .inr ⟨_, fun _ => rfl⟩)
    | (generalize hv : indexStrA _ _ = o
       cases o
       · exact .inl rfl
       · exact .inr ⟨_, fun _ => rfl⟩)
    | (generalize hv : assertA _ _ _ _ = o
       cases o
       · exact .inl rfl
       · exact .inr ⟨_, fun _ => rfl⟩)
    | (split
       · generalize hv : (partA _ _ _) = o
         cases o
         · exact .inl rfl
         · exact .inr ⟨_, fun _ => rfl⟩
       · exact .inl rfl)
    | (split
       · rename_i i _ vs _
         generalize hv : vs[i]? = o
         cases o
         · exact .inl rfl
         · exact .inr ⟨_, fun _ => rfl⟩
       · exact .inl rfl)

/-- What an operation that makes a block does. -/
theorem alloc_ev {op : AOp} {tm : TM} {h : AHeap} (hk : op.kind = .alloc) : op.ev tm h = .stuck ∨ ∃ x k, ∀ h', op.ev tm h' = .new x k h' := by
  cases op
  case len k x => cases k <;> simp [AOp.kind] at hk
  all_goals simp only [AOp.kind] at hk
  all_goals (try exact absurd hk (by decide))
  all_goals simp only [AOp.ev]
  all_goals first
    | exact .inr ⟨_, _, fun _ => rfl⟩
    | (split <;> first | exact .inr ⟨_, _, fun _ => rfl⟩ | exact .inl rfl)
    | (unfold makeA
       split <;> (try exact .inl rfl)
       split <;> first | exact .inr ⟨_, _, fun _ => rfl⟩ | exact .inl rfl)

theorem lookupA_mono {h h' : AHeap} {kk : KeyKind} {z m k v : AV} {ok : Bool} (e : lookupA h kk z m k ok = some v) (hh : ∀ c, h c ≠ none → h' c = h c) : lookupA h' kk z m k ok = some v := by
  cases m with
  | map p =>
    cases p with
    | none => exact e
    | some b =>
      simp only [lookupA] at e ⊢
      cases hb : h b with
      | none => rw [hb] at e; cases e
      | some y => rw [hh b (by simp [hb]), hb]; rw [hb] at e; exact e
  | _ => cases e
theorem lenA_mono {h h' : AHeap} {k : LenKind} {x v : AV} (e : lenA h k x = some v) (hh : ∀ c, h c ≠ none → h' c = h c) : lenA h' k x = some v := by
  cases k <;> cases x <;> first | exact e | skip
  rename_i p
  cases p with
  | none => exact e
  | some b =>
    simp only [lenA] at e ⊢
    cases hb : h b with
    | none => rw [hb] at e; cases e
    | some y => rw [hh b (by simp [hb]), hb]; rw [hb] at e; exact e

/-- What an operation that reads the memory does. -/
theorem read_ev {op : AOp} {tm : TM} {h : AHeap} (hk : op.kind = .read) : op.ev tm h = .stuck ∨ ∃ v, op.ev tm h = .val v h ∧ ∀ h' : AHeap, (∀ c, h c ≠ none → h' c = h c) → op.ev tm h' = .val v h' := by
  cases op <;> simp only [AOp.kind] at hk <;> (try exact absurd hk (by decide)) <;> simp only [AOp.ev]
  case load n a =>
    unfold loadA
    split <;> (try exact .inl rfl)
    rename_i b o _
    cases hb : h b with
    | none => exact .inl rfl
    | some y =>
      cases y <;> (try exact .inl rfl)
      cases n with
      | none =>
        simp only []
        rename_i cs ro
        cases hc : cs[o]? with
        | none => exact .inl rfl
        | some v => exact .inr ⟨v, rfl, fun h' hh => by rw [hh b (by simp [hb]), hb]; simp only [hc]⟩
      | some n =>
        simp only []
        split
        · rename_i hc
          exact .inr ⟨_, rfl, fun h' hh => by rw [hh b (by simp [hb]), hb]; simp only [hc, if_true]⟩
        · exact .inl rfl
  case lookup kk z m k ok =>
    split
    · rcases ofOpt_cases h (lookupA h kk z (m.ev tm) (k.ev tm) ok) with ⟨v, e, e'⟩ | ⟨_, e⟩
      · exact .inr ⟨v, e', fun h' hh => by rw [lookupA_mono e hh]; rfl⟩
      · exact .inl e
    · exact .inl rfl
  case len k x =>
    rcases ofOpt_cases h (lenA h k (x.ev tm)) with ⟨v, e, e'⟩ | ⟨_, e⟩
    · exact .inr ⟨v, e', fun h' hh => by rw [lenA_mono e hh]; rfl⟩
    · exact .inl e

/-- Does a thing that a quiet operation gave still hold behind a loud one? -/
def stab (tm : TM) (h h' : AHeap) (q : AOper) : Prop := wantA tm q.guard = true → match q.op.kind with
  | .read => ∀ d, q.dst = some d → q.op.ev tm h = .val (tm d) h → q.op.ev tm h' = .val (tm d) h'
  | .alloc => ∀ d x k b, q.dst = some d → q.op.ev tm h = .new x k h → tm d = k b → h b = some x → h' b = some x
  | _ => True
def stabs (tm : TM) (h h' : AHeap) : List AOper → Prop
  | [] => True
  | q :: l => stab tm h h' q ∧ stabs tm h h' l
theorem stabs_mem {tm : TM} {h h' : AHeap} {l : List AOper} (s : stabs tm h h' l) {q : AOper} (hq : q ∈ l) : stab tm h h' q := by
  induction l with
  | nil => cases hq
  | cons a l ih =>
    rcases List.mem_cons.1 hq with rfl | hq
    · exact s.1
    · exact ih s.2 hq

/-- Where blocks have only come, what was read is read. -/
theorem stab_more {tm : TM} {h h' : AHeap} (m : ∀ c, h c ≠ none → h' c = h c) (q : AOper) : stab tm h h' q := by
  intro hw
  split
  · rename_i hk
    intro d hd he
    rcases read_ev (tm := tm) (h := h) hk with hst | ⟨v, e, k⟩
    · rw [hst] at he; cases he
    · rw [e] at he
      have := k h' m
      rw [this]
      injection he with h1 _
      rw [h1]
  · intro d x k b _ _ _ hb
    rw [m b (by rw [hb]; simp)]; exact hb
  · trivial
theorem stabs_more {tm : TM} {h h' : AHeap} (m : ∀ c, h c ≠ none → h' c = h c) : ∀ l : List AOper, stabs tm h h' l
  | [] => trivial
  | q :: l => ⟨stab_more m q, stabs_more m l⟩
/-- An operation does not look at a block. -/
def AOper.notAt (tm : TM) (c : Nat) (q : AOper) : Prop := match q.op with
  | .load _ a => ∀ o, a.ev tm ≠ .ptr (some (c, o))
  | .lookup _ _ m _ _ => m.ev tm ≠ .map (some c)
  | .len _ x => x.ev tm ≠ .map (some c)
  | _ => match q.op.kind with
    | .alloc => ∀ d x k b, q.dst = some d → (∃ h, q.op.ev tm h = .new x k h) → tm d = k b → b ≠ c
    | _ => True
theorem loadA_at {h h' : AHeap} {n : Option Nat} {a v : AV} (hh : ∀ b o, a = .ptr (some (b, o)) → h b ≠ none → h' b = h b) (e : loadA h n a = .val v h) : loadA h' n a = .val v h' := by
  cases a with
  | ptr p =>
    cases p with
    | none => simp [loadA] at e
    | some p =>
      obtain ⟨b, o⟩ := p
      cases hb : h b with
      | none => simp [loadA, hb] at e
      | some y =>
        have hb' := hh b o rfl (by rw [hb]; simp)
        cases y with
        | cells cs ro =>
          cases n with
          | none =>
            cases hc : cs[o]? with
            | none => simp [loadA, hb, hc] at e
            | some u => simp [loadA, hb, hc] at e; simp [loadA, hb', hb, hc, e]
          | some n =>
            simp only [loadA, hb] at e
            simp only [loadA, hb', hb]
            split at e
            · rename_i hc; injection e with e1; rw [if_pos hc, e1]
            · cases e
        | _ => simp [loadA, hb] at e
  | _ => simp [loadA] at e
theorem lookupA_at {h h' : AHeap} {kk : KeyKind} {z m k v : AV} {ok : Bool} (hh : ∀ b, m = .map (some b) → h b ≠ none → h' b = h b) (e : lookupA h kk z m k ok = some v) : lookupA h' kk z m k ok = some v := by
  cases m with
  | map p =>
    cases p with
    | none => exact e
    | some b =>
      cases hb : h b with
      | none => simp [lookupA, hb] at e
      | some y => simp only [lookupA, hh b rfl (by rw [hb]; simp)]; exact e
  | _ => simp [lookupA] at e
theorem lenA_at {h h' : AHeap} {k : LenKind} {x v : AV} (hh : ∀ b, x = .map (some b) → h b ≠ none → h' b = h b) (e : lenA h k x = some v) : lenA h' k x = some v := by
  cases x with
  | map p =>
    cases p with
    | none => cases k <;> exact e
    | some b =>
      cases k <;> try exact e
      cases hb : h b with
      | none => simp [lenA, hb] at e
      | some y => simp only [lenA, hh b rfl (by rw [hb]; simp)]; exact e
  | _ => cases k <;> exact e
theorem stab_but {tm : TM} {h h' : AHeap} {c : Nat} (m : ∀ b, h b ≠ none → b ≠ c → h' b = h b) (q : AOper) (hq : q.notAt tm c) : stab tm h h' q := by
  intro hw
  obtain ⟨dst, op, g, af⟩ := q
  cases op
  case load n a =>
    intro d hd he
    exact loadA_at (fun b o e hb => m b hb fun e' => hq o (e' ▸ e)) he
  case lookup kk z mm k ok =>
    intro d hd he
    simp only [AOp.ev] at he ⊢
    split at he
    · rename_i hk
      rw [if_pos hk, lookupA_at (fun b e hb => m b hb fun e' => hq (e' ▸ e)) (ofOpt_val he)]; rfl
    · cases he
  case len lk x =>
    cases lk
    case map =>
      intro d hd he
      simp only [AOp.ev] at he ⊢
      rw [lenA_at (fun b e hb => m b hb fun e' => hq (e' ▸ e)) (ofOpt_val he)]; rfl
    all_goals trivial
  all_goals first
    | trivial
    | (intro d x k b hd he hk hb
       rw [m b (by rw [hb]; simp) (hq d x k b hd ⟨h, he⟩ hk)]; exact hb)

def wpMain (P : Program) (N : Nat) (rd : Bool) (dsts : List Nat) (Qp : AV → TM → AHeap → Prop) (K : TM → AHeap → Prop) : List DOper → TM → AHeap → Prop
  | [], tm, h => K tm h
  | p :: l, tm, h =>
    if wantA tm p.o.guard = true then (p.o.op.ev tm h).wp P N rd h (fun v h' => stabs tm h h' p.pend ∧ wpMain P N rd dsts Qp K l (tm.put p.o.dst v) h')
      (fun v h' => ∀ tm' : TM, (∀ t, t ∉ dsts → tm' t = tm t) → Qp v tm' h') (fun _ => False)
    else wpMain P N rd dsts Qp K l (tm.put p.o.dst undefA) h

/-- What is known of a quiet operation that the chosen order has behind it and the real one has ahead. -/
def PS (q : AOper) (ob : Option Nat) (tm : TM) (h : AHeap) : Prop := ∃ d, q.dst = some d ∧
  ((wantA tm q.guard = false ∧ tm d = undefA) ∨
   (wantA tm q.guard = true ∧ q.op.ev tm h = .val (tm d) h) ∨
   (wantA tm q.guard = true ∧ ∃ x k b, q.op.ev tm h = .new x k h ∧ ob = some b ∧ tm d = k b ∧ h b = some x))

theorem PS.to {q : AOper} {ob : Option Nat} {tm tm' : TM} {h h' : AHeap} (hq : q.quiet = true) (ps : PS q ob tm h) (hr : ∀ t ∈ q.reads, tm' t = tm t) (hd : ∀ d, q.dst = some d → tm' d = tm d)
    (hs : stab tm h h' q) : PS q ob tm' h' := by
  obtain ⟨d, hdst, ps⟩ := ps
  refine ⟨d, hdst, ?_⟩
  rw [wantA_congr hr, hd d hdst, ev_congr' hr]
  have hk : q.op.kind ≠ .loud := by simpa [AOper.quiet] using hq
  rcases ps with ⟨w, e⟩ | ⟨w, e⟩ | ⟨w, x, k, b, e, hob, hk', hx⟩
  · exact .inl ⟨w, e⟩
  · refine .inr (.inl ⟨w, ?_⟩)
    have hs := hs w
    cases hkk : q.op.kind with
    | pure =>
      rcases pure_ev (tm := tm) (h := h) hkk with hst | ⟨v, hv⟩
      · rw [hst] at e; cases e
      · have := hv h; rw [e] at this; cases this; exact hv h'
    | read => rw [hkk] at hs; exact hs d hdst e
    | alloc =>
      rcases alloc_ev (tm := tm) (h := h) hkk with hst | ⟨x, k, hv⟩
      · rw [hst] at e; cases e
      · rw [hv h] at e; cases e
    | loud => exact absurd hkk hk
  · refine .inr (.inr ⟨w, x, k, b, ?_, hob, hk', ?_⟩)
    · cases hkk : q.op.kind with
      | pure =>
        rcases pure_ev (tm := tm) (h := h) hkk with hst | ⟨v, hv⟩
        · rw [hst] at e; cases e
        · have := hv h; rw [e] at this; cases this
      | read =>
        rcases read_ev (tm := tm) (h := h) hkk with hst | ⟨v, hv, _⟩
        · rw [hst] at e; cases e
        · rw [e] at hv; cases hv
      | alloc =>
        rcases alloc_ev (tm := tm) (h := h) hkk with hst | ⟨x', k', hv⟩
        · rw [hst] at e; cases e
        · have := hv h; rw [e] at this; cases this; exact hv h'
      | loud => exact absurd hkk hk
    · have hs := hs w
      cases hkk : q.op.kind with
      | pure =>
        rcases pure_ev (tm := tm) (h := h) hkk with hst | ⟨v, hv⟩
        · rw [hst] at e; cases e
        · have := hv h; rw [e] at this; cases this
      | read =>
        rcases read_ev (tm := tm) (h := h) hkk with hst | ⟨v, hv, _⟩
        · rw [hst] at e; cases e
        · rw [e] at hv; cases hv
      | alloc => rw [hkk] at hs; exact hs d x k b hdst e hk' hx
      | loud => exact absurd hkk hk
/-- A quiet operation's thing holds where blocks have only come. -/
theorem stab_grow {q : AOper} {ob : Option Nat} {tm : TM} {h h' : AHeap} (ps : PS q ob tm h) (hh : ∀ c, h c ≠ none → h' c = h c) : stab tm h h' q := by
  intro w
  obtain ⟨d, hdst, ps⟩ := ps
  cases hkk : q.op.kind with
  | pure => trivial
  | loud => trivial
  | read =>
    intro d' hd'
    rw [hdst] at hd'; cases hd'
    rcases read_ev (tm := tm) (h := h) hkk with hst | ⟨v, hv, hm⟩
    · rcases ps with ⟨w', _⟩ | ⟨_, e⟩ | ⟨_, x, k, b, e, _⟩
      · rw [w] at w'; cases w'
      · rw [hst] at e; cases e
      · rw [hst] at e; cases e
    · rcases ps with ⟨w', _⟩ | ⟨_, e⟩ | ⟨_, x, k, b, e, _⟩
      · rw [w] at w'; cases w'
      · rw [hv] at e; cases e; exact fun _ => hm h' hh
      · rw [hv] at e; cases e
  | alloc =>
    intro d' x k b _ _ _ hx
    rw [hh b (by simp [hx])]; exact hx
end Go.Am
/-
  STATEMENTS WITH AN OPEN ORDER: whatever order the model draws, it does what the chosen order does.
-/
namespace Go.Am
open Go.RowKit

/-- What the test of a statement says. -/
structure DF (al : List AOper) (as : List (List Nat)) (m : Nat) (σ : List Nat) : Prop where
  hm : m ≤ al.length
  cover : ∀ i, i < m → i ∈ σ
  small : ∀ i ∈ σ, i < m
  after_lt : ∀ i, i < al.length → ∀ j ∈ (al.getD i default).after, j < i
  made : ∀ i, i < al.length → ∀ k ∈ anc as i, k ∈ (al.getD i default).after ∨ ∃ j ∈ (al.getD i default).after, k ∈ anc as j
  has : ∀ i, i < m → (al.getD i default).quiet = true → ∃ d, (al.getD i default).dst = some d
  once : ∀ i j d, i < m → j < m → j ≠ i → (al.getD i default).dst = some d → (al.getD j default).dst ≠ some d
  reads : ∀ i j d, i < m → j < m → j ≠ i → (al.getD i default).dst = some d → d ∈ (al.getD j default).reads → i ∈ anc as j
  self : ∀ i d, i < m → (al.getD i default).dst = some d → d ∉ (al.getD i default).reads
  loud : ∀ i j, i < m → j < i → (al.getD i default).quiet = false → (al.getD j default).quiet = false → j ∈ anc as i
  last : ∀ i, i < al.length → m ≤ i → ∀ j, j < i → j ∈ anc as i
  nodefer : ∀ i f a, i < m → (al.getD i default).op ≠ .defer f a

theorem drawOk_inv {al : List AOper} {as : List (List Nat)} {m : Nat} {σ : List Nat} (h : drawOk al as m σ = true) : DF al as m σ := by
  simp only [drawOk, Bool.and_eq_true, decide_eq_true_eq, List.all_eq_true, List.mem_range, List.contains_iff_mem] at h
  obtain ⟨⟨⟨⟨⟨⟨⟨⟨⟨h1, h2⟩, h3⟩, h4⟩, h5⟩, h6⟩, h7⟩, h8⟩, h9⟩, h10⟩ := h
  refine ⟨h1, h3, h4, fun i hi => (h5 i hi).1.1, fun i hi k hk => ?_, fun i hi hq => ?_, fun i j d hi hj hn hd => ?_, fun i j d hi hj hn hd hr => ?_, fun i d hi hd hr => ?_, fun i j hi hj hq hq' => ?_, fun i hi hmi j hj => ?_, fun i f a hi e => ?_⟩
  · have := (h5 i hi).1.2 k hk
    simp only [Bool.or_eq_true, List.any_eq_true, List.contains_iff_mem] at this
    exact this
  · have := h6 i hi
    cases hd : (al.getD i default).dst with
    | none => rw [hd] at this; simp only [hq] at this; cases this
    | some d => exact ⟨d, rfl⟩
  · have := h6 i hi
    rw [hd] at this
    simp only [List.all_eq_true, List.mem_range] at this
    have := this j hj
    simp only [Bool.or_eq_true, beq_iff_eq, Bool.and_eq_true, bne_iff_ne] at this
    rcases this with e | e
    · exact absurd e hn
    · exact e.1
  · have := h6 i hi
    rw [hd] at this
    simp only [List.all_eq_true, List.mem_range] at this
    have := this j hj
    simp only [Bool.or_eq_true, beq_iff_eq, Bool.and_eq_true, bne_iff_ne, Bool.not_eq_true', List.contains_iff_mem] at this
    rcases this with e | ⟨_, e | e⟩
    · exact absurd e hn
    · rw [← Bool.not_eq_true, List.contains_iff_mem] at e; exact absurd hr e
    · exact e
  · have := h7 i hi
    rw [hd] at this
    simp only [Bool.not_eq_true'] at this
    rw [← Bool.not_eq_true, List.contains_iff_mem] at this; exact this hr
  · have := h8 i hi
    simp only [hq, Bool.false_or, List.all_eq_true, List.mem_range] at this
    have := this j hj
    simp only [hq', Bool.false_or, List.contains_iff_mem] at this
    exact this
  · have := h9 i hi
    simp only [Bool.or_eq_true, decide_eq_true_eq, List.all_eq_true, List.mem_range, List.contains_iff_mem] at this
    rcases this with e | e
    · omega
    · exact e j hj
  · have := h10 i hi
    rw [e] at this; cases this

inductive EOk (al : List AOper) (as : List (List Nat)) : List Nat → List Nat → Prop
  | nil (done : List Nat) : EOk al as done []
  | cons (done : List Nat) (i : Nat) (rest : List Nat) (new : i ∉ done) (up : ∀ j ∈ anc as i, j ∈ done) (sep : (al.getD i default).quiet = false → ∀ j ∈ rest, (al.getD j default).quiet = true → i ∈ anc as j)
      (h : EOk al as (done ++ [i]) rest) : EOk al as done (i :: rest)
theorem eagerOk_inv {al : List AOper} {as : List (List Nat)} : ∀ {σ done : List Nat}, eagerOk al as done σ = true → EOk al as done σ
  | [], _, _ => .nil _
  | i :: rest, done, h => by
    simp only [eagerOk, Bool.and_eq_true, Bool.not_eq_true', List.all_eq_true, List.contains_iff_mem] at h
    obtain ⟨⟨⟨h1, h2⟩, h3⟩, h4⟩ := h
    refine .cons done i rest ?_ h2 (fun hq j hj hqj => ?_) (eagerOk_inv h4)
    · rw [← Bool.not_eq_true, List.contains_iff_mem] at h1; exact h1
    · rw [hq] at h3
      simp only [Bool.false_eq_true, if_false, List.all_eq_true] at h3
      have := h3 j hj
      simp only [hqj, Bool.not_true, Bool.false_or, List.contains_iff_mem] at this
      exact this
theorem EOk.not_mem {al : List AOper} {as : List (List Nat)} {done σ : List Nat} (h : EOk al as done σ) : ∀ j ∈ σ, j ∉ done := by
  induction h with
  | nil => intro j hj; cases hj
  | cons done i rest new up sep h ih =>
    intro j hj hd
    rcases List.mem_cons.1 hj with rfl | hj
    · exact new hd
    · exact ih j hj (List.mem_append_left _ hd)

structure Inv (al : List AOper) (as : List (List Nat)) (m : Nat) (h0 : AHeap) (L : Nat → Bool) (σ1 : List Nat) (tm1 : TM) (h1 : AHeap) (tmA : TM) (ι : Emb) (B : Nat → Option Nat) : Prop where
  sub : ∀ i, L i = true → i ∈ σ1
  loud : ∀ i ∈ σ1, (al.getD i default).quiet = false → L i = true
  small : ∀ i ∈ σ1, i < m
  cl : ∀ i ∈ σ1, ∀ j ∈ anc as i, j ∈ σ1
  clL : ∀ i, L i = true → ∀ j ∈ anc as i, L j = true
  off : ∀ t, (∀ i ∈ σ1, L i = false → (al.getD i default).dst ≠ some t) → tmA t = tm1 t
  ps : ∀ i ∈ σ1, L i = false → PS (al.getD i default) (B i) tm1 h1
  free : ∀ i ∈ σ1, L i = false → ∀ b, B i = some b → ι b = none ∧ h1 b ≠ none ∧ h0 b = none
  inj : ∀ i ∈ σ1, L i = false → ∀ j ∈ σ1, L j = false → ∀ b, B i = some b → B j = some b → i = j

theorem TM.put_other {tm : TM} {d t : Nat} {v : AV} (h : t ≠ d) : (tm.put (some d) v) t = tm t := by simp [TM.put, h]
theorem TM.put_same {tm : TM} {d : Nat} {v : AV} : (tm.put (some d) v) d = v := by simp [TM.put]

section
variable {al : List AOper} {as : List (List Nat)} {m : Nat} {σ : List Nat} {h0 : AHeap} {L : Nat → Bool} {σ1 : List Nat} {tm1 : TM} {h1 : AHeap} {tmA : TM} {ι : Emb} {B : Nat → Option Nat}

/-- What stands behind reads nothing that comes later. -/
theorem Inv.reads_ne (df : DF al as m σ) (iv : Inv al as m h0 L σ1 tm1 h1 tmA ι B) {i d : Nat} (him : i < m) (hi : i ∉ σ1) (hd : (al.getD i default).dst = some d) {j : Nat} (hj : j ∈ σ1) : ∀ t ∈ (al.getD j default).reads, t ≠ d := by
  intro t ht e
  subst e
  exact hi (iv.cl j hj i (df.reads i j t him (iv.small j hj) (fun e => hi (e ▸ hj)) hd ht))
theorem Inv.dst_ne (df : DF al as m σ) (iv : Inv al as m h0 L σ1 tm1 h1 tmA ι B) {i d : Nat} (him : i < m) (hi : i ∉ σ1) (hd : (al.getD i default).dst = some d) {j : Nat} (hj : j ∈ σ1) : ∀ d', (al.getD j default).dst = some d' → d' ≠ d := by
  intro d' hd' e
  subst e
  exact df.once i j d' him (iv.small j hj) (fun e => hi (e ▸ hj)) hd hd'

/-- The chosen order takes a quiet one. -/
theorem Inv.push (df : DF al as m σ) (iv : Inv al as m h0 L σ1 tm1 h1 tmA ι B) {i d : Nat} (him : i < m) (hi : i ∉ σ1) (hd : (al.getD i default).dst = some d) (hq : (al.getD i default).quiet = true) (hup : ∀ j ∈ anc as i, j ∈ σ1)
    {v : AV} {h1' : AHeap} (hh : ∀ c, h1 c ≠ none → h1' c = h1 c) {ob : Option Nat} (hps : PS (al.getD i default) ob (tm1.put (some d) v) h1') (hob : ∀ b, ob = some b → ι b = none ∧ h1' b ≠ none ∧ h0 b = none ∧ h1 b = none) :
    Inv al as m h0 L (σ1 ++ [i]) (tm1.put (some d) v) h1' tmA ι (fun j => if j = i then ob else B j) := by
  have hiL : L i = false := by
    cases h : L i with
    | false => rfl
    | true => exact absurd (iv.sub i h) hi
  have mem : ∀ j, j ∈ σ1 ++ [i] → j ∈ σ1 ∧ j ≠ i ∨ j = i := fun j hj => by
    rcases List.mem_append.1 hj with h | h
    · exact .inl ⟨h, fun e => hi (e ▸ h)⟩
    · exact .inr (by simpa using h)
  refine ⟨fun j hj => List.mem_append_left _ (iv.sub j hj), fun j hj hqj => ?_, fun j hj => ?_, fun j hj k hk => ?_, iv.clL, fun t ht => ?_, fun j hj hLj => ?_, fun j hj hLj b hb => ?_, fun j hj hLj k hk hLk b hb hb' => ?_⟩
  · rcases mem j hj with ⟨h, _⟩ | rfl
    · exact iv.loud j h hqj
    · rw [hq] at hqj; cases hqj
  · rcases mem j hj with ⟨h, _⟩ | rfl
    · exact iv.small j h
    · exact him
  · rcases mem j hj with ⟨h, _⟩ | rfl
    · exact List.mem_append_left _ (iv.cl j h k hk)
    · exact List.mem_append_left _ (hup k hk)
  · rw [iv.off t fun j hj hLj => ht j (List.mem_append_left _ hj) hLj]
    have : t ≠ d := fun e => ht i (by simp) hiL (e ▸ hd)
    rw [TM.put_other this]
  · rcases mem j hj with ⟨h, hne⟩ | rfl
    · simp only [if_neg hne]
      have p := iv.ps j h hLj
      have hqj : (al.getD j default).quiet = true := by
        cases hq : (al.getD j default).quiet with
        | true => rfl
        | false => rw [iv.loud j h hq] at hLj; cases hLj
      exact p.to hqj (fun t ht => TM.put_other (iv.reads_ne df him hi hd h t ht)) (fun d' hd' => TM.put_other (iv.dst_ne df him hi hd h d' hd')) (stab_grow p hh)
    · simp only [if_true]; exact hps
  · rcases mem j hj with ⟨h, hne⟩ | rfl
    · simp only [if_neg hne] at hb
      have := iv.free j h hLj b hb
      exact ⟨this.1, by rw [hh b this.2.1]; exact this.2.1, this.2.2⟩
    · simp only [if_true] at hb
      have := hob b hb
      exact ⟨this.1, this.2.1, this.2.2.1⟩
  · rcases mem j hj with ⟨h, hne⟩ | rfl
    · simp only [if_neg hne] at hb
      rcases mem k hk with ⟨h', hne'⟩ | rfl
      · simp only [if_neg hne'] at hb'
        exact iv.inj j h hLj k h' hLk b hb hb'
      · simp only [if_true] at hb'
        exact absurd (hob b hb').2.2.2 (iv.free j h hLj b hb).2.1
    · simp only [if_true] at hb
      rcases mem k hk with ⟨h', hne'⟩ | rfl
      · simp only [if_neg hne'] at hb'
        exact absurd (hob b hb).2.2.2 (iv.free k h' hLk b hb').2.1
      · rfl
end

/-- A block of the abstract memory that has no place may hold anything. -/
theorem Sim.upd_free {N : Nat} {ι : Emb} {h : AHeap} {w : World} (s : Sim N ι h w) {b : Nat} (hb : ι b = none) (x : ABlk) : Sim N ι (h.upd b x) w := by
  have ne : ∀ c L, ι c = some L → c ≠ b := fun c L hL e => by rw [e, hb] at hL; cases hL
  refine ⟨s.size, AHeap.fin_upd s.fin _ _, fun c L hL => ?_, fun c L y hL hy => ?_, fun c c' L L' y y' hn hL hL' hy hy' => ?_⟩
  · obtain ⟨y, hy⟩ := s.dom c L hL
    exact ⟨y, by rw [AHeap.upd_other _ _ (ne c L hL)]; exact hy⟩
  · rw [AHeap.upd_other _ _ (ne c L hL)] at hy; exact s.at_ c L y hL hy
  · rw [AHeap.upd_other _ _ (ne c L hL)] at hy; rw [AHeap.upd_other _ _ (ne c' L' hL')] at hy'; exact s.apart c c' L L' y y' hn hL hL' hy hy'
def AHeap.without (h : AHeap) (b : Nat) : AHeap := fun c => if c = b then none else h c
theorem Sim.without {N : Nat} {ι : Emb} {h : AHeap} {w : World} (s : Sim N ι h w) {b : Nat} (hb : ι b = none) : Sim N ι (h.without b) w := by
  have ne : ∀ c L, ι c = some L → c ≠ b := fun c L hL e => by rw [e, hb] at hL; cases hL
  have at_ : ∀ c, c ≠ b → (h.without b) c = h c := fun c hc => by simp [AHeap.without, hc]
  refine ⟨s.size, ?_, fun c L hL => ?_, fun c L y hL hy => ?_, fun c c' L L' y y' hn hL hL' hy hy' => ?_⟩
  · obtain ⟨m, hm⟩ := s.fin
    exact ⟨m, fun c hc => by unfold AHeap.without; split <;> first | rfl | exact hm c hc⟩
  · obtain ⟨y, hy⟩ := s.dom c L hL
    exact ⟨y, by rw [at_ c (ne c L hL)]; exact hy⟩
  · rw [at_ c (ne c L hL)] at hy; exact s.at_ c L y hL hy
  · rw [at_ c (ne c L hL)] at hy; rw [at_ c' (ne c' L' hL')] at hy'; exact s.apart c c' L L' y y' hn hL hL' hy hy'
theorem AHeap.without_upd {h : AHeap} {b : Nat} {x : ABlk} (e : h b = some x) : (h.without b).upd b x = h := by
  funext c
  by_cases hc : c = b
  · subst hc; rw [AHeap.upd_same, e]
  · rw [AHeap.upd_other _ _ hc]; simp [AHeap.without, hc]

theorem quiet_ev {q : AOper} (hq : q.quiet = true) (tm : TM) (h : AHeap) : q.op.ev tm h = .stuck ∨ (∃ v, q.op.ev tm h = .val v h) ∨ (∃ x k, ∀ h', q.op.ev tm h' = .new x k h') := by
  have hk : q.op.kind ≠ .loud := by simpa [AOper.quiet] using hq
  cases hkk : q.op.kind with
  | pure =>
    rcases pure_ev (tm := tm) (h := h) hkk with h' | ⟨v, hv⟩
    · exact .inl h'
    · exact .inr (.inl ⟨v, hv h⟩)
  | read =>
    rcases read_ev (tm := tm) (h := h) hkk with h' | ⟨v, hv, _⟩
    · exact .inl h'
    · exact .inr (.inl ⟨v, hv⟩)
  | alloc =>
    rcases alloc_ev (tm := tm) (h := h) hkk with h' | ⟨x, k, hv⟩
    · exact .inl h'
    · exact .inr (.inr ⟨x, k, hv⟩)
  | loud => exact absurd hkk hk
end Go.Am
/-
  STATEMENTS WITH AN OPEN ORDER: the proof.
-/
namespace Go.Am
open Go.RowKit

section
variable {P : Program} {N : Nat} {rd : Bool} {dsts : List Nat} {Qp : AV → TM → AHeap → Prop} {K : TM → AHeap → Prop}
variable {al : List AOper} {as : List (List Nat)} {m : Nat} {σ : List Nat} {h0 : AHeap} {L : Nat → Bool} {ι0 ι : Emb} {w : World} {tmA : TM}

/-- The chosen order runs ahead over all that is quiet. -/
theorem advance (df : DF al as m σ) : ∀ (σ2 σ1 : List Nat) (tm1 : TM) (h1 : AHeap) (B : Nat → Option Nat), EOk al as σ1 σ2 → (∀ i ∈ σ2, i < m) → Inv al as m h0 L σ1 tm1 h1 tmA ι B → Sim N ι h1 w → Grow ι0 h0 ι h1 →
    wpMain P N rd dsts Qp K (dopers al as σ1 σ2) tm1 h1 →
    ∃ (σ2' σ1' : List Nat) (tm1' : TM) (h1' : AHeap) (B' : Nat → Option Nat), σ1' ++ σ2' = σ1 ++ σ2 ∧ EOk al as σ1' σ2' ∧ Inv al as m h0 L σ1' tm1' h1' tmA ι B' ∧ Sim N ι h1' w ∧ Grow ι0 h0 ι h1' ∧
      wpMain P N rd dsts Qp K (dopers al as σ1' σ2') tm1' h1' ∧ ∀ i l, σ2' = i :: l → (al.getD i default).quiet = false
  | [], σ1, tm1, h1, B, he, _, iv, s, g, hwp => ⟨[], σ1, tm1, h1, B, rfl, he, iv, s, g, hwp, fun _ _ e => by cases e⟩
  | i :: σ2, σ1, tm1, h1, B, he, hm, iv, s, g, hwp => by
    cases hq : (al.getD i default).quiet with
    | false => exact ⟨i :: σ2, σ1, tm1, h1, B, rfl, he, iv, s, g, hwp, fun _ _ e => by cases e; exact hq⟩
    | true =>
      cases he with
      | cons _ _ _ new up sep he' =>
        have him := hm i (by simp)
        obtain ⟨d, hd⟩ := df.has i him hq
        have hself := df.self i d him hd
        have hr : ∀ v, ∀ t ∈ (al.getD i default).reads, (tm1.put (some d) v) t = tm1 t := fun v t ht => TM.put_other fun e => hself (e ▸ ht)
        simp only [dopers, wpMain, hd] at hwp
        have go : ∀ (v : AV) (h1' : AHeap) (ob : Option Nat), (∀ c, h1 c ≠ none → h1' c = h1 c) → Sim N ι h1' w → PS (al.getD i default) ob (tm1.put (some d) v) h1' → (∀ b, ob = some b → ι b = none ∧ h1' b ≠ none ∧ h0 b = none ∧ h1 b = none) →
            wpMain P N rd dsts Qp K (dopers al as (σ1 ++ [i]) σ2) (tm1.put (some d) v) h1' → _ := fun v h1' ob hh s' hps hob hw =>
          advance df σ2 (σ1 ++ [i]) (tm1.put (some d) v) h1' _ he' (fun j hj => hm j (List.mem_cons_of_mem _ hj)) (iv.push df him new hd hq up hh hps hob) s' (g.trans (.of_dom (Dom.more hh))) hw
        have fin : (∃ (σ2' σ1' : List Nat) (tm1' : TM) (h1' : AHeap) (B' : Nat → Option Nat), σ1' ++ σ2' = (σ1 ++ [i]) ++ σ2 ∧ EOk al as σ1' σ2' ∧ Inv al as m h0 L σ1' tm1' h1' tmA ι B' ∧ Sim N ι h1' w ∧ Grow ι0 h0 ι h1' ∧
            wpMain P N rd dsts Qp K (dopers al as σ1' σ2') tm1' h1' ∧ ∀ i l, σ2' = i :: l → (al.getD i default).quiet = false) := by
          by_cases hw : wantA tm1 (al.getD i default).guard = true
          · rw [if_pos hw] at hwp
            rcases quiet_ev hq tm1 h1 with e | ⟨v, e⟩ | ⟨x, k, e⟩
            · rw [e] at hwp; exact hwp.elim
            · rw [e] at hwp
              refine go v h1 none (fun _ _ => rfl) s ⟨d, hd, .inr (.inl ⟨?_, ?_⟩)⟩ (fun _ e => by cases e) hwp.2
              · rw [wantA_congr (hr v)]; exact hw
              · rw [ev_congr' (hr v), e, TM.put_same]
            · rw [e] at hwp
              obtain ⟨b, hb⟩ := s.fin
              have hbn := hb b (Nat.le_refl b)
              have hib : ι b = none := by
                cases hi : ι b with
                | none => rfl
                | some Lc => obtain ⟨y, hy⟩ := s.dom b Lc hi; rw [hbn] at hy; cases hy
              have h0b : h0 b = none := by
                cases hi : h0 b with
                | none => rfl
                | some y => exact absurd hbn (g.dom b (by rw [hi]; simp))
              have hh : ∀ c, h1 c ≠ none → (h1.upd b x) c = h1 c := fun c hc => AHeap.upd_other _ _ fun e => hc (e ▸ hbn)
              refine go (k b) (h1.upd b x) (some b) hh (s.upd_free hib x) ⟨d, hd, .inr (.inr ⟨?_, x, k, b, ?_, rfl, TM.put_same, AHeap.upd_same _ _ _⟩)⟩ (fun c e => ?_) (hwp b hbn).2
              · rw [wantA_congr (hr _)]; exact hw
              · rw [ev_congr' (hr _)]; exact e _
              · cases e; exact ⟨hib, by rw [AHeap.upd_same]; simp, h0b, hbn⟩
          · rw [if_neg hw] at hwp
            refine go undefA h1 none (fun _ _ => rfl) s ⟨d, hd, .inl ⟨?_, TM.put_same⟩⟩ (fun _ e => by cases e) hwp
            rw [wantA_congr (hr _)]; simpa using hw
        obtain ⟨σ2', σ1', tm1', h1', B', e, r⟩ := fin
        exact ⟨σ2', σ1', tm1', h1', B', by rw [e]; simp, r⟩

/-- What an operation reads is the same in both orders. -/
theorem Inv.agree {σ1 : List Nat} {tm1 : TM} {h1 : AHeap} {B : Nat → Option Nat} (df : DF al as m σ) (iv : Inv al as m h0 L σ1 tm1 h1 tmA ι B) {i : Nat} (him : i < m) (hup : ∀ j ∈ anc as i, L j = true) : ∀ t ∈ (al.getD i default).reads, tmA t = tm1 t := by
  intro t ht
  refine iv.off t fun j hj hLj hd => ?_
  by_cases e : j = i
  · subst e; exact df.self j t him hd ht
  · have := hup j (df.reads j i t (iv.small j hj) him (fun e' => e e'.symm) hd ht)
    rw [hLj] at this; cases this

/-- The real order takes a quiet one that the chosen one has behind it. -/
theorem Inv.take {σ1 : List Nat} {tm1 : TM} {h1 : AHeap} {B : Nat → Option Nat} (_df : DF al as m σ) (iv : Inv al as m h0 L σ1 tm1 h1 tmA ι B) {i d : Nat} (hi : i ∈ σ1) (hd : (al.getD i default).dst = some d) (hup : ∀ j ∈ anc as i, L j = true)
    {L' : Nat → Bool} (hL' : ∀ j, L' j = (L j || decide (j = i))) {ι' : Emb} (hι : ∀ b, B i = some b ∨ (h1 b ≠ none → ι b = none → ι' b = none)) (hLi : L i = false) :
    Inv al as m h0 L' σ1 tm1 h1 (tmA.put (some d) (tm1 d)) ι' B := by
  have un : ∀ j, L' j = false → L j = false ∧ j ≠ i := fun j hj => by
    rw [hL'] at hj
    simp only [Bool.or_eq_false_iff, decide_eq_false_iff_not] at hj
    exact hj
  refine ⟨fun j hj => ?_, fun j hj hq => ?_, iv.small, iv.cl, fun j hj k hk => ?_, fun t ht => ?_, fun j hj hLj => iv.ps j hj (un j hLj).1, fun j hj hLj b hb => ?_, fun j hj hLj k hk hLk b hb hb' => iv.inj j hj (un j hLj).1 k hk (un k hLk).1 b hb hb'⟩
  · rw [hL'] at hj
    simp only [Bool.or_eq_true, decide_eq_true_eq] at hj
    rcases hj with hj | rfl
    · exact iv.sub j hj
    · exact hi
  · rw [hL', iv.loud j hj hq]; rfl
  · rw [hL'] at hj ⊢
    simp only [Bool.or_eq_true, decide_eq_true_eq] at hj ⊢
    rcases hj with hj | rfl
    · exact .inl (iv.clL j hj k hk)
    · exact .inl (hup k hk)
  · by_cases e : t = d
    · subst e; exact TM.put_same
    · rw [TM.put_other e]
      refine iv.off t fun j hj hLj hdj => ?_
      by_cases e' : j = i
      · subst e'; rw [hd] at hdj; exact e (by cases hdj; rfl)
      · exact ht j hj (by rw [hL', hLj]; simp [e']) hdj
  · have f := iv.free j hj (un j hLj).1 b hb
    rcases hι b with hb' | e
    · exact absurd (iv.inj j hj (un j hLj).1 i hi hLi b hb hb') (un j hLj).2
    · exact ⟨e f.2.1 f.1, f.2⟩

/-- Both orders take a loud one. -/
theorem Inv.loudStep {σ1 : List Nat} {tm1 : TM} {h1 : AHeap} {B : Nat → Option Nat} (df : DF al as m σ) (iv : Inv al as m h0 L σ1 tm1 h1 tmA ι B) {i : Nat} (him : i < m) (hi : i ∉ σ1) (hup : ∀ j ∈ anc as i, L j = true)
    {L' : Nat → Bool} (hL' : ∀ j, L' j = (L j || decide (j = i))) {v : AV} {h1' : AHeap} {ι' : Emb} (g : Grow ι h1 ι' h1')
    (hst : ∀ j ∈ σ1, L j = false → stab tm1 h1 h1' (al.getD j default)) :
    Inv al as m h0 L' (σ1 ++ [i]) (tm1.put (al.getD i default).dst v) h1' (tmA.put (al.getD i default).dst v) ι' B := by
  have un : ∀ j, L' j = false → L j = false ∧ j ≠ i := fun j hj => by
    rw [hL'] at hj
    simp only [Bool.or_eq_false_iff, decide_eq_false_iff_not] at hj
    exact hj
  have mem : ∀ j, j ∈ σ1 ++ [i] → j ≠ i → j ∈ σ1 := fun j hj hne => by
    rcases List.mem_append.1 hj with h | h
    · exact h
    · exact absurd (by simpa using h) hne
  refine ⟨fun j hj => ?_, fun j hj hq => ?_, fun j hj => ?_, fun j hj k hk => ?_, fun j hj k hk => ?_, fun t ht => ?_, fun j hj hLj => ?_, fun j hj hLj b hb => ?_, fun j hj hLj k hk hLk b hb hb' => iv.inj j (mem j hj (un j hLj).2) (un j hLj).1 k (mem k hk (un k hLk).2) (un k hLk).1 b hb hb'⟩
  · rw [hL'] at hj
    simp only [Bool.or_eq_true, decide_eq_true_eq] at hj
    rcases hj with hj | rfl
    · exact List.mem_append_left _ (iv.sub j hj)
    · simp
  · rw [hL']
    by_cases e : j = i
    · simp [e]
    · rw [iv.loud j (mem j hj e) hq]; rfl
  · by_cases e : j = i
    · exact e ▸ him
    · exact iv.small j (mem j hj e)
  · by_cases e : j = i
    · subst e; exact List.mem_append_left _ (iv.sub k (hup k hk))
    · exact List.mem_append_left _ (iv.cl j (mem j hj e) k hk)
  · rw [hL'] at hj ⊢
    simp only [Bool.or_eq_true, decide_eq_true_eq] at hj ⊢
    rcases hj with hj | rfl
    · exact .inl (iv.clL j hj k hk)
    · exact .inl (hup k hk)
  · have : tmA t = tm1 t ∨ (al.getD i default).dst = some t := by
      by_cases e : (al.getD i default).dst = some t
      · exact .inr e
      · refine .inl (iv.off t fun j hj hLj hdj => ?_)
        exact ht j (List.mem_append_left _ hj) (by rw [hL', hLj]; simp; intro e'; exact hi (e' ▸ hj)) hdj
    cases hd : (al.getD i default).dst with
    | none =>
      rw [hd] at this
      rcases this with h | h
      · exact h
      · cases h
    | some d =>
      by_cases e : t = d
      · subst e; rw [TM.put_same, TM.put_same]
      · rw [TM.put_other e, TM.put_other e]
        rcases this with h | h
        · exact h
        · rw [hd] at h; cases h; exact absurd rfl e
  · have hjs := mem j hj (un j hLj).2
    have hLj' := (un j hLj).1
    have p := iv.ps j hjs hLj'
    have hqj : (al.getD j default).quiet = true := by
      cases hq : (al.getD j default).quiet with
      | true => rfl
      | false => rw [iv.loud j hjs hq] at hLj'; cases hLj'
    cases hd : (al.getD i default).dst with
    | none => exact p.to hqj (fun _ _ => rfl) (fun _ _ => rfl) (hst j hjs hLj')
    | some d => exact p.to hqj (fun t ht => TM.put_other (iv.reads_ne df him hi hd hjs t ht)) (fun d' hd' => TM.put_other (iv.dst_ne df him hi hd hjs d' hd')) (hst j hjs hLj')
  · have f := iv.free j (mem j hj (un j hLj).2) (un j hLj).1 b hb
    exact ⟨g.free b f.2.1 f.1, g.dom b f.2.1, f.2.2⟩
end
end Go.Am
/-
  STATEMENTS WITH AN OPEN ORDER: soundness.
-/
namespace Go.Am
open Go.RowKit

theorem countP_less (l : List Nat) (p q : Nat → Bool) {i : Nat} (hi : i ∈ l) (hp : p i = true) (hq : q i = false) (h : ∀ j, q j = true → p j = true) : l.countP q < l.countP p := by
  induction l with
  | nil => cases hi
  | cons a l ih =>
    have le : l.countP q ≤ l.countP p := List.countP_mono_left fun j _ hj => h j hj
    rw [List.countP_cons, List.countP_cons]
    rcases List.mem_cons.1 hi with rfl | hi
    · simp only [hp, hq, if_true]; simp; omega
    · have := ih hi
      cases ha : q a with
      | true => rw [h a ha]; simp; exact this
      | false => cases hpa : p a <;> simp <;> omega

section
variable {P : Program} {N : Nat} {ops : Array Oper} {al : List AOper} {as : List (List Nat)} {m : Nat} {σ : List Nat}

theorem compOpers_get {l : List Oper} : ∀ {al : List AOper}, compOpers P ops l = some al → al.length = l.length ∧ ∀ (i : Nat) (o : Oper), l[i]? = some o → ∃ a, al[i]? = some a ∧ compOper P ops o = some a := by
  induction l with
  | nil => intro al h; simp only [compOpers] at h; cases h; exact ⟨rfl, fun i o h => by simp at h⟩
  | cons o l ih =>
    intro al h
    simp only [compOpers] at h
    split at h
    · rename_i a l' h1 h2
      cases h
      obtain ⟨e, f⟩ := ih h2
      refine ⟨by simp [e], fun i o' hi => ?_⟩
      cases i with
      | zero => simp at hi; subst hi; exact ⟨a, by simp, h1⟩
      | succ i => obtain ⟨b, hb, hc⟩ := f i o' (by simpa using hi); exact ⟨b, by simpa using hb, hc⟩
    · cases h

theorem mem_after {o : Oper} {j : Nat} : j ∈ compAfter o ↔ ∃ e ∈ o.after, Region.binds .any e = true ∧ e.on = j := by
  unfold compAfter
  simp only [List.mem_filterMap, Array.mem_toList_iff]
  constructor
  · rintro ⟨e, he, h⟩
    refine ⟨e, he, ?_⟩
    unfold Region.binds
    split at h
    · cases h
    · cases h
    · cases h
      refine ⟨?_, rfl⟩
      split <;> simp_all
  · rintro ⟨e, he, hb, rfl⟩
    refine ⟨e, he, ?_⟩
    unfold Region.binds at hb
    split at hb
    · cases hb
    · cases hb
    · split <;> simp_all

theorem anc_lt (df : DF al as m σ) : ∀ (i : Nat), i < al.length → ∀ j ∈ anc as i, j < i := by
  intro i
  induction i using Nat.strongRecOn with
  | _ i ih =>
    intro hi j hj
    rcases df.made i hi j hj with h | ⟨k, hk, hj⟩
    · exact df.after_lt i hi j h
    · have hki := df.after_lt i hi k hk
      have := ih k hki (by omega) j hj
      omega

/-- What is ready. -/
theorem ready_iff (hc : compOpers P ops ops.toList = some al) {listed : Array Bool} (hsz : listed.size = ops.size) {i : Nat} :
    i ∈ Region.ready .any ops listed ↔ i < al.length ∧ listed.getD i false = false ∧ ∀ j ∈ (al.getD i default).after, listed.getD j false = true := by
  obtain ⟨hlen, hget⟩ := compOpers_get hc
  rw [mem_ready]
  constructor
  · rintro ⟨h0, o, ho, hall⟩
    have hlt : i < ops.size := (Array.getElem?_eq_some_iff.1 ho).1
    obtain ⟨a, ha, hca⟩ := hget i o (by simpa using ho)
    obtain ⟨x, g, _, _, rfl⟩ := compOper_inv hca
    refine ⟨by rw [hlen]; simpa using hlt, ?_, ?_⟩
    · have : i < listed.size := by omega
      simp only [Array.getD_eq_getD_getElem?, Array.getElem?_eq_getElem this, Option.getD_some] at h0 ⊢
      exact h0
    · intro j hj
      rw [List.getD_eq_getElem?_getD, ha] at hj
      obtain ⟨e, he, hb, rfl⟩ := mem_after.1 hj
      exact hall e he hb
  · rintro ⟨hlt, h0, hall⟩
    have hlt' : i < ops.size := by rw [hlen] at hlt; simpa using hlt
    refine ⟨?_, ops[i], Array.getElem?_eq_getElem hlt', fun e he hb => ?_⟩
    · have : i < listed.size := by omega
      simp only [Array.getD_eq_getD_getElem?, Array.getElem?_eq_getElem this, Option.getD_some] at h0 ⊢
      exact h0
    · obtain ⟨a, ha, hca⟩ := hget i ops[i] (by simp [hlt'])
      obtain ⟨x, g, _, _, rfl⟩ := compOper_inv hca
      refine hall e.on ?_
      rw [List.getD_eq_getElem?_getD, ha]
      exact mem_after.2 ⟨e, he, hb, rfl⟩

theorem getD_set {listed : Array Bool} {i : Nat} (hi : i < listed.size) (j : Nat) : (listed.setIfInBounds i true).getD j false = (listed.getD j false || decide (j = i)) := by
  by_cases e : j = i
  · subst e; simp [hi]
  · rw [getD_set_ne false (fun h => e h.symm)]; simp [e]

/-- Whatever comes last comes in its order. -/
theorem tail_go (hc : compOpers P ops ops.toList = some al) (df : DF al as m σ) : ∀ (fuel t : Nat) (listed : Array Bool) (k : Nat), listed.size = ops.size → m ≤ k → k ≤ al.length → (∀ j, j < al.length → listed.getD j false = decide (j < k)) → al.length - k ≤ fuel →
    Region.linearise.go .any ops fuel t listed [] = List.range' k (al.length - k) := by
  have hlen := (compOpers_get hc).1
  intro fuel
  induction fuel with
  | zero => intro t listed k _ _ _ _ hf; rw [show al.length - k = 0 by omega]; rfl
  | succ fuel ih =>
    intro t listed k hsz hmk hk hl hf
    simp only [Region.linearise.go]
    change (match (Region.ready .any ops listed)[t % (Region.ready .any ops listed).length]? with
      | some i => Region.linearise.go .any ops fuel (t / (Region.ready .any ops listed).length) (listed.setIfInBounds i true) [i]
      | none => _) = _
    have only : ∀ i ∈ Region.ready .any ops listed, i = k := by
      intro i hi
      obtain ⟨h1, h2, h3⟩ := (ready_iff hc hsz).1 hi
      rw [hl i h1, decide_eq_false_iff_not] at h2
      by_cases e : i = k
      · exact e
      · have hki : k < i := by omega
        have hka := df.last i h1 (by omega) k hki
        rcases df.made i h1 k hka with h | ⟨j, hj, hkj⟩
        · have := h3 k h; rw [hl k (by omega)] at this; simp at this
        · have hji := df.after_lt i h1 j hj
          have hjl := h3 j hj
          rw [hl j (by omega), decide_eq_true_eq] at hjl
          have := anc_lt df j (by omega) k hkj
          omega
    by_cases he : k = al.length
    · have hnil : Region.ready .any ops listed = [] := by
        rw [List.eq_nil_iff_forall_not_mem]
        intro i hi
        have := only i hi
        have h1 := ((ready_iff hc hsz).1 hi).1
        omega
      rw [hnil]
      simp [he]
    · have hk' : k < al.length := by omega
      have hmem : k ∈ Region.ready .any ops listed := by
        refine (ready_iff hc hsz).2 ⟨hk', by rw [hl k hk']; simp, fun j hj => ?_⟩
        have := df.after_lt k hk' j hj
        rw [hl j (by omega)]; simp [this]
      have hpos : 0 < (Region.ready .any ops listed).length := List.length_pos_of_mem hmem
      have hi := List.getElem?_eq_getElem (Nat.mod_lt t hpos)
      rw [hi]
      simp only []
      have hik := only _ (List.getElem_mem (Nat.mod_lt t hpos))
      rw [hik, linearise_go_acc, List.reverse_singleton, List.singleton_append]
      rw [ih _ (listed.setIfInBounds k true) (k + 1) (by simp [hsz]) (by omega) (by omega) (fun j hj => ?_) (by omega)]
      · rw [show al.length - k = (al.length - (k + 1)) + 1 by omega, List.range'_succ]
      · have hksz : k < listed.size := by rw [hsz]; rw [hlen] at hk'; simpa using hk'
        rw [getD_set hksz, hl j hj, Bool.eq_iff_iff]
        simp only [Bool.or_eq_true, decide_eq_true_eq]
        omega
end
end Go.Am
/-
  STATEMENTS WITH AN OPEN ORDER: every order that the model draws.
-/
namespace Go.Am
open Go.RowKit

theorem getD_get {al : List AOper} {i : Nat} {a : AOper} (h : al[i]? = some a) : al.getD i default = a := by
  rw [List.getD_eq_getElem?_getD, h]; rfl

section
variable {P : Program} {N : Nat} {ops : Array Oper} {al : List AOper} {as : List (List Nat)} {m : Nat} {σ : List Nat} {r : Option Nat} {n : Nat} {Q : AEx → TM → List ADef → AHeap → Prop} {dsts : List Nat}

theorem compOpers_drop : ∀ {l : List Oper} {al : List AOper}, compOpers P ops l = some al → ∀ k, compOpers P ops (l.drop k) = some (al.drop k)
  | l, al, h, 0 => by simpa using h
  | [], al, h, k + 1 => by simp only [compOpers] at h; cases h; simp [compOpers]
  | o :: l, al, h, k + 1 => by
    simp only [compOpers] at h
    split at h
    · rename_i a l' h1 h2
      cases h
      simpa using compOpers_drop h2 k
    · cases h

theorem draw_go (hc : compOpers P ops ops.toList = some al) (df : DF al as m σ) (hbnd : boundOps n al = true) (hdsts : ∀ i d, i < m → (al.getD i default).dst = some d → d ∈ dsts) {ι0 : Emb} {h0 : AHeap} {w0 : World} {ds : List ADef} :
    ∀ (fuel t : Nat) (listed : Array Bool) (σ1 σ2 : List Nat) (tm1 tmA : TM) (h1 : AHeap) (B : Nat → Option Nat) (ι : Emb) (w : World) (act : Act),
      listed.size = ops.size → (List.range ops.size).countP (fun j => !listed.getD j false) ≤ fuel → EOk al as σ1 σ2 → (∀ i ∈ σ1 ++ σ2, i < m) → (∀ i, i < m → i ∈ σ1 ++ σ2) →
      Inv al as m h0 (fun j => listed.getD j false) σ1 tm1 h1 tmA ι B → Sim N ι h1 w → Grow ι0 h0 ι h1 → Below N w0 w → ActRel ι n tmA act.tmps → DsRel ι ds act.defers →
      wpMain P N r.isSome dsts (fun v tm h => Q (.panic v) tm ds h) (fun tm h => wpOps P N r.isSome Q (al.drop m) tm ds h) (dopers al as σ1 σ2) tm1 h1 →
      OpsW P r ops (ExPost N ι0 h0 w0 n Q) (Region.linearise.go .any ops fuel t listed []) act w := by
  have hlen : al.length = ops.size := by have := (compOpers_get hc).1; simpa using this
  have hget := (compOpers_get hc).2
  intro fuel
  induction fuel with
  | zero =>
    intro t listed σ1 σ2 tm1 tmA h1 B ι w act hsz hcount he hm2 hcov iv s g hb ha hd hwp
    have hall : ∀ j, j < ops.size → listed.getD j false = true := fun j hj => by
      have := List.countP_eq_zero.1 (Nat.le_zero.1 hcount) j (List.mem_range.2 hj)
      simpa using this
    -- everything has been done, so there is no tail
    have hmn : m = al.length := by
      by_cases e : m < al.length
      · have h1 := iv.sub m (hall m (by omega))
        exact absurd (iv.small m h1) (Nat.lt_irrefl m)
      · have := df.hm; omega
    have hσ2 : σ2 = [] := by
      rw [List.eq_nil_iff_forall_not_mem]
      exact fun j hj => he.not_mem j hj (iv.sub j (hall j (by have := hm2 j (List.mem_append_right _ hj); omega)))
    subst hσ2
    have htm : tmA = tm1 := funext fun t => iv.off t fun i hi hL => by
      have := hall i (by have := iv.small i hi; omega)
      rw [this] at hL; cases hL
    simp only [dopers, wpMain] at hwp
    rw [hmn, List.drop_length] at hwp
    simp only [wpOps] at hwp
    exact ⟨ι, .normal, tm1, ds, h1, g, s, hb, trivial, htm ▸ ha, hd, hwp⟩
  | succ fuel ih =>
    intro t listed σ1 σ2 tm1 tmA h1 B ι w act hsz hcount he hm2 hcov iv s g hb ha hd hwp
    by_cases hdone : ∀ j, j < m → listed.getD j false = true
    · -- what stands ahead is done
      have hσ2 : σ2 = [] := by
        rw [List.eq_nil_iff_forall_not_mem]
        exact fun j hj => he.not_mem j hj (iv.sub j (hdone j (hm2 j (List.mem_append_right _ hj))))
      subst hσ2
      have htm : tmA = tm1 := funext fun t => iv.off t fun i hi hL => by
        have := hdone i (iv.small i hi)
        rw [this] at hL; cases hL
      subst htm
      simp only [dopers, wpMain] at hwp
      have hl : ∀ j, j < al.length → listed.getD j false = decide (j < m) := fun j hj => by
        by_cases e : j < m
        · rw [hdone j e]; simp [e]
        · simp only [e, decide_false]
          cases h : listed.getD j false with
          | false => rfl
          | true => exact absurd (iv.small j (iv.sub j h)) e
      have hfuel : al.length - m ≤ fuel + 1 := by
        refine Nat.le_trans ?_ hcount
        rw [← hlen]
        have : (List.range al.length) = List.range m ++ List.range' m (al.length - m) := by
          have := List.range'_append_1 (s := 0) (m := m) (n := al.length - m)
          rw [Nat.zero_add, Nat.add_sub_cancel' df.hm] at this
          rw [List.range_eq_range', List.range_eq_range', this]
        rw [this, List.countP_append]
        have : (List.range' m (al.length - m)).countP (fun j => !listed.getD j false) = (List.range' m (al.length - m)).length := by
          rw [List.countP_eq_length]
          intro j hj
          rw [List.mem_range'_1] at hj
          rw [hl j (by omega)]
          simp; omega
        rw [this, List.length_range']
        omega
      rw [tail_go hc df (fuel + 1) t listed m hsz (Nat.le_refl m) df.hm hl hfuel]
      have hcd : compOpers P ops (ops.toList.drop m) = some (al.drop m) := compOpers_drop hc m
      have hbd : boundOps n (al.drop m) = true := by
        simp only [boundOps, List.all_eq_true] at hbnd ⊢
        exact fun o ho => hbnd o (List.mem_of_mem_drop ho)
      have hx := ops_sound (N := N) (Q := Q) r (ops.toList.drop m) (al.drop m) m hcd (fun j _ => by rw [List.getElem?_drop]; simp) hbd hwp s ha hd
      rw [List.length_drop, Array.length_toList, ← hlen] at hx
      exact hx.mono fun e a u h => h.back g hb
    · simp only [Region.linearise.go]
      change OpsW P r ops _ (match (Region.ready .any ops listed)[t % (Region.ready .any ops listed).length]? with
        | some i => Region.linearise.go .any ops fuel (t / (Region.ready .any ops listed).length) (listed.setIfInBounds i true) [i]
        | none => _) act w
      -- something is ready
      have hne : Region.ready .any ops listed ≠ [] := by
        intro hnil
        refine hdone ?_
        intro j
        induction j using Nat.strongRecOn with
        | _ j ihj =>
          intro hj
          cases hlj : listed.getD j false with
          | true => rfl
          | false =>
            have hjl : j < al.length := Nat.lt_of_lt_of_le hj df.hm
            have : j ∈ Region.ready .any ops listed := (ready_iff hc hsz).2 ⟨hjl, hlj, fun k hk => ihj k (df.after_lt j hjl k hk) (Nat.lt_trans (df.after_lt j hjl k hk) hj)⟩
            rw [hnil] at this; cases this
      have hpos : 0 < (Region.ready .any ops listed).length := List.length_pos_iff.2 hne
      obtain ⟨i, hi⟩ : ∃ i, (Region.ready .any ops listed)[t % (Region.ready .any ops listed).length]? = some i := ⟨_, List.getElem?_eq_getElem (Nat.mod_lt t hpos)⟩
      rw [hi]
      simp only []
      have hmem := List.mem_of_getElem? hi
      rw [linearise_go_acc, List.reverse_singleton, List.singleton_append]
      obtain ⟨hil, hLi, hafter⟩ := (ready_iff hc hsz).1 hmem
      have hup : ∀ j ∈ anc as i, listed.getD j false = true := fun j hj => by
        rcases df.made i hil j hj with h | ⟨k, hk, hj⟩
        · exact hafter j h
        · exact iv.clL k (hafter k hk) j hj
      have him : i < m := by
        by_cases e : i < m
        · exact e
        · exact absurd (fun j hj => hup j (df.last i hil (by omega) j (by omega))) hdone
      have hilt : i < listed.size := by omega
      have hL' : ∀ j, (listed.setIfInBounds i true).getD j false = (listed.getD j false || decide (j = i)) := getD_set hilt
      have hsz' : (listed.setIfInBounds i true).size = ops.size := by simp [hsz]
      have hcount' : (List.range ops.size).countP (fun j => !(listed.setIfInBounds i true).getD j false) ≤ fuel := by
        have := countP_less (List.range ops.size) (fun j => !listed.getD j false) (fun j => !(listed.setIfInBounds i true).getD j false) (i := i) (List.mem_range.2 (by omega)) (by rw [hLi]; rfl) (by rw [hL']; simp) (fun j hj => by
          rw [hL'] at hj; simp only [Bool.not_or, Bool.and_eq_true] at hj; exact hj.1)
        omega
      -- the chosen order runs ahead
      obtain ⟨σ2', σ1', tm1', h1', B', hσ, he', iv', s', g', hwp', hloud⟩ := advance df σ2 σ1 tm1 h1 B he (fun j hj => hm2 j (List.mem_append_right _ hj)) iv s g hwp
      have hcov' : ∀ i, i < m → i ∈ σ1' ++ σ2' := fun i hi => by rw [hσ]; exact hcov i hi
      have hm2' : ∀ i ∈ σ1' ++ σ2', i < m := fun i hi => hm2 i (hσ ▸ hi)
      clear hwp he hσ s g
      -- the operation itself
      have hio : i < ops.size := by omega
      obtain ⟨o, ho⟩ : ∃ o, ops[i]? = some o := ⟨_, Array.getElem?_eq_getElem hio⟩
      obtain ⟨a, hal, hca⟩ := hget i o (by simpa using ho)
      have hga := getD_get hal
      obtain ⟨x, gd, hx, hg, haeq⟩ := compOper_inv hca
      have hadst : o.dst = (al.getD i default).dst := by rw [hga, haeq]
      have haop : (al.getD i default).op = x := by rw [hga, haeq]
      have hagd : (al.getD i default).guard = gd := by rw [hga, haeq]
      have hdn : ∀ d, (al.getD i default).dst = some d → d < n := fun d hd' => by
        have hm' : (al.getD i default) ∈ al := by rw [hga]; exact List.mem_of_getElem? hal
        simp only [boundOps, List.all_eq_true] at hbnd
        have := hbnd _ hm'
        rw [hd'] at this; simpa using this
      have hdn' : ∀ d, o.dst = some d → d < n := fun d hd' => hdn d (hadst ▸ hd')
      have hag := iv'.agree df him hup
      have hwant : Region.wanted o (yielded ops act.tmps) = wantA tm1' (al.getD i default).guard := by
        rw [want_sound ha hg, ← hagd, wantA_congr hag]
      have hev : x.ev tmA h1' = x.ev tm1' h1' := by rw [← haop]; exact ev_congr' hag _
      have hnd : ∀ c, o.op ≠ .defer c := fun c e => by
        rw [e] at hx
        replace hx : cDefer c = some x := hx
        unfold cDefer at hx
        split at hx
        · split at hx
          · cases hx; exact df.nodefer i _ _ him haop
          · cases hx
        · cases hx
      simp only [OpsW, ho]
      rw [hwant]
      by_cases hin : i ∈ σ1'
      · -- the chosen order has it behind it already
        have hq : (al.getD i default).quiet = true := by
          cases hq : (al.getD i default).quiet with
          | true => rfl
          | false => have := iv'.loud i hin hq; rw [hLi] at this; cases this
        obtain ⟨d, hd', ps⟩ := iv'.ps i hin hLi
        have hod : o.dst = some d := by rw [hadst, hd']
        have fin : ∀ (ι' : Emb) (cv : Value) (w' : World), Ext ι ι' → (∀ b, B' i = some b ∨ (h1' b ≠ none → ι b = none → ι' b = none)) → Grow ι0 h0 ι' h1' → Sim N ι' h1' w' → Below N w w' → VRel ι' (tm1' d) cv →
            OpsW P r ops (ExPost N ι0 h0 w0 n Q) (Region.linearise.go .any ops fuel (t / (Region.ready .any ops listed).length) (listed.setIfInBounds i true) []) (act.put o.dst cv) w' := fun ι' cv w' he1 hι g2 s2 hb2 hv =>
          ih _ (listed.setIfInBounds i true) σ1' σ2' tm1' (tmA.put (some d) (tm1' d)) h1' B' ι' w' (act.put o.dst cv) hsz' hcount' he' hm2' hcov' (iv'.take df hin hd' hup hL' hι hLi) s2 g2 (hb.trans hb2)
            (by rw [hod]; exact (ha.ext he1).put (some d) (fun x hx => by cases hx; exact hdn d hd') hv) (by rw [hod]; exact hd.ext he1) hwp'
        rcases ps with ⟨hw, hu⟩ | ⟨hw, hv⟩ | ⟨hw, y, k, b, hv, hB, hk, hy⟩
        · rw [hw]
          exact fin ι undef w (.refl ι) (fun b => .inr fun _ h => h) g' s' (.refl N w) (by rw [hu]; exact .undef ι)
        · rw [hw, if_pos rfl]
          refine ⟨.inr hnd, (oper_sound (K := fun v h' => v = tm1' d ∧ h' = h1') (Kp := fun _ _ => False) (Kd := fun _ => False) s' ha hd hx r ?_ (fun ι' v cv h' w' gg s2 hb2 hvr hK => ?_) (fun _ _ _ _ _ _ _ _ _ h => h.elim) (fun _ _ _ _ h => h.elim)).2⟩
          · rw [hev, ← haop, hv]; exact ⟨rfl, rfl⟩
          · obtain ⟨rfl, rfl⟩ := hK
            exact fin ι' cv w' gg.ext (fun b => .inr (gg.free b)) (g'.trans gg) s2 hb2 hvr
        · rw [hw, if_pos rfl]
          refine ⟨.inr hnd, ?_⟩
          obtain ⟨hib, hbn, h0b⟩ := iv'.free i hin hLi b hB
          have hk' : ∀ h', x.ev tmA h' = .new y k h' := by
            rw [← haop]
            intro h'
            rcases quiet_ev hq tm1' h1' with e | ⟨v, e⟩ | ⟨y', k', e⟩
            · rw [hv] at e; cases e
            · rw [hv] at e; cases e
            · rw [ev_congr' hag h', e h']
              have := e h1'
              rw [hv] at this; cases this; rfl
          have me := op_sound (s'.without hib) ha hx
          rw [hk'] at me
          obtain ⟨Lc, cv, w', he1, hres, hvr, s2, hb2⟩ := me.2 b (by simp [AHeap.without])
          rw [AHeap.without_upd hy] at s2
          rw [hres]
          refine fin (ι.upd b Lc) cv w' he1 (fun c => ?_) ⟨g'.ext.trans he1, g'.dom, fun c hc hi => ?_⟩ s2 hb2 (hk ▸ hvr)
          · by_cases e : c = b
            · exact .inl (e ▸ hB)
            · exact .inr fun _ h => by rw [Emb.upd_other _ _ e]; exact h
          · have : c ≠ b := fun e => hc (e ▸ h0b)
            rw [Emb.upd_other _ _ this]; exact g'.free c hc hi
      · -- a loud one: the chosen order has it next
        have hi2 : i ∈ σ2' := by
          rcases List.mem_append.1 (hcov' i him) with h | h
          · exact absurd h hin
          · exact h
        cases he' with
        | nil => cases hi2
        | cons _ hh rest new up sep he2 =>
          have hql := hloud hh rest rfl
          have key : hh ∈ anc as i → False := fun h => new (iv'.sub hh (hup hh h))
          have hi : i = hh := by
            rcases List.mem_cons.1 hi2 with e | hr
            · exact e
            · cases hq : (al.getD i default).quiet with
              | true => exact (key (sep hql i hr hq)).elim
              | false =>
                rcases Nat.lt_trichotomy i hh with h | h | h
                · exact absurd (up i (df.loud hh i (hm2' hh (by simp)) h hql hq)) hin
                · exact h
                · exact (key (df.loud i hh him h hq hql)).elim
          subst hi
          have hhm := him
          simp only [dopers, wpMain] at hwp'
          have fin : ∀ (ι' : Emb) (v : AV) (cv : Value) (h' : AHeap) (w' : World), Grow ι h1' ι' h' → Sim N ι' h' w' → Below N w w' → VRel ι' v cv → (∀ j ∈ σ1', listed.getD j false = false → stab tm1' h1' h' (al.getD j default)) →
              wpMain P N r.isSome dsts (fun v tm h => Q (.panic v) tm ds h) (fun tm h => wpOps P N r.isSome Q (al.drop m) tm ds h) (dopers al as (σ1' ++ [i]) rest) (tm1'.put (al.getD i default).dst v) h' →
              OpsW P r ops (ExPost N ι0 h0 w0 n Q) (Region.linearise.go .any ops fuel (t / (Region.ready .any ops listed).length) (listed.setIfInBounds i true) []) (act.put o.dst cv) w' := fun ι' v cv h' w' gg s2 hb2 hv hst hw =>
            ih _ (listed.setIfInBounds i true) (σ1' ++ [i]) rest _ (tmA.put (al.getD i default).dst v) h' B' ι' w' (act.put o.dst cv) hsz' hcount' he2 (fun j hj => hm2' j (by simpa using hj)) (fun j hj => by simpa using hcov' j hj)
              (iv'.loudStep df him hin hup hL' gg hst) s2 (g'.trans gg) (hb.trans hb2) (by rw [← hadst]; exact (ha.ext gg.ext).put o.dst hdn' hv) (by cases hod : o.dst <;> exact hd.ext gg.ext) hw
          by_cases hw : wantA tm1' (al.getD i default).guard = true
          · rw [if_pos hw] at hwp' ⊢
            refine ⟨.inr hnd, (oper_sound (Kd := fun _ => False) s' ha hd hx r (by rw [hev, ← haop]; exact hwp') (fun ι' v cv h' w' gg s2 hb2 hvr hK => ?_) (fun ι' v cv h' w' gg s2 hb2 hvr hK => ?_) (fun _ _ _ _ h => h.elim)).2⟩
            · refine fin ι' v cv h' w' gg s2 hb2 hvr (fun j hj hLj => ?_) hK.2
              have hqj : (al.getD j default).quiet = true := by
                cases hq : (al.getD j default).quiet with
                | true => rfl
                | false => have := iv'.loud j hj hq; simp only [hLj] at this; cases this
              by_cases hpure : (al.getD j default).op.kind = .pure
              · intro _; rw [hpure]; trivial
              · refine stabs_mem hK.1 ?_
                rw [hql]
                simp only [Bool.false_eq_true, if_false]
                refine List.mem_map.2 ⟨j, List.mem_filter.2 ⟨hj, ?_⟩, rfl⟩
                simp only [Bool.and_eq_true, Bool.not_eq_true', bne_iff_ne]
                refine ⟨⟨?_, hpure⟩, hqj⟩
                rw [← Bool.not_eq_true, List.contains_iff_mem]
                exact fun h => by have := hup j h; rw [hLj] at this; cases this
            · refine ⟨ι', .panic v, tmA, ds, h', g'.trans gg, s2, hb.trans hb2, ⟨cv, rfl, hvr⟩, ha.ext gg.ext, hd.ext gg.ext, hK tmA fun t ht => iv'.off t fun j hj _ hdj => ht (hdsts j t (iv'.small j hj) hdj)⟩
          · rw [if_neg hw] at hwp' ⊢
            exact fin ι undefA undef h1' w (.refl ι h1') s' (.refl N w) (.undef ι) (fun j hj hLj => stab_grow (iv'.ps j hj hLj) fun _ _ => rfl) hwp'
end
end Go.Am
