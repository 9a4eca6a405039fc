/-
  Part of the proofs about the heap: an abstract memory, its compiled code, and the contracts of the functions over it.
  Conditions: each theorem names its own.
-/
import Derived.Test.YtnkdjfmidiffdaaH6
import Derived.Test.YtnkdjfmidiffdaaAm5
import Derived.Test.YtnkdjfmidiffdaaRows
set_option linter.unusedSimpArgs false
set_option linter.unusedVariables false
namespace Go.Proofs.Ytnkdjfmidiffdaa
open Go Go.Proofs Go.Am
variable {N : Nat} {H : Type}

def lts : List TypeId := [3, 4, 22, 23, 24, 44, 62]
theorem cells3 : Try.prog.cellsOf 3 = 1 := by kernel_rfl
theorem cells4 : Try.prog.cellsOf 4 = 1 := by kernel_rfl
theorem cells62 : Try.prog.cellsOf 62 = 6 := by kernel_rfl
theorem one3 : oneT Try.prog 3 = true := by kernel_rfl
theorem one22 : oneT Try.prog 22 = true := by kernel_rfl
theorem one23 : oneT Try.prog 23 = true := by kernel_rfl
theorem one24 : oneT Try.prog 24 = true := by kernel_rfl

theorem bulk_one (d : DataW H) : 1 ≤ Rows.uptoBulk d := by
  cases d with
  | lit l => cases l <;> simp [Rows.uptoBulk]
  | _ => simp [Rows.uptoBulk]
theorem bulk_mem {d : DataW H} {l : List (DataW H)} (h : d ∈ l) : Rows.uptoBulk d ≤ Rows.uptoBulkAll l := by
  induction l with
  | nil => cases h
  | cons x r ih =>
    simp only [Rows.uptoBulkAll]
    rcases List.mem_cons.1 h with e | e
    · subst e; omega
    · have := ih e; omega
theorem bulk_len (l : List (DataW H)) : l.length ≤ Rows.uptoBulkAll l := by
  induction l with
  | nil => simp [Rows.uptoBulkAll]
  | cons x r ih => have := bulk_one x; simp only [Rows.uptoBulkAll, List.length_cons]; omega
theorem bulk_slice (elems spare : List (DataW H)) : Rows.uptoBulkAll elems + 1 ≤ Rows.uptoBulk (.slice elems spare) := by simp only [Rows.uptoBulk]; omega
theorem bulk_agg (parts : List (DataW H)) : Rows.uptoBulkAll parts + 1 = Rows.uptoBulk (.agg parts) := by simp only [Rows.uptoBulk]

theorem all_of {α : Type} {f : α → List AV} : ∀ {css : List (List AV)}, (∀ c ∈ css, ∃ a, c = f a) → ∃ xs : List α, css = xs.map f
  | [], _ => ⟨[], rfl⟩
  | c :: css, h => by
    obtain ⟨a, rfl⟩ := h c (List.mem_cons_self ..)
    obtain ⟨xs, rfl⟩ := all_of fun c hc => h c (List.mem_cons_of_mem _ hc)
    exact ⟨a :: xs, rfl⟩
theorem flatten_single {α : Type} (g : α → AV) (xs : List α) : (xs.map fun a => [g a]).flatten = xs.map g := by
  induction xs with
  | nil => rfl
  | cons x xs ih => simp [ih]

theorem ints_rep {h : AHeap} {d : DataW H} {l : List AV} (r : RepD Try.prog h 24 d l) (hb : Rows.uptoBulk d ≤ 1048576) : ∃ (v : AV) (xs : List Int), l = [v] ∧ RSlice h 1 v (xs.map (.int .i64)) ∧ xs.length ≤ 2000000 := by
  rcases r.slice_ Try.underlying24 with ⟨rfl, rfl⟩ | ⟨elems, spare, css, v, rfl, rfl, hp, hs, hl, hz, he⟩
  · exact ⟨_, [], rfl, ⟨SliceAt.nil _ _ _ _, fun b hb => (by cases hb)⟩, by simp⟩
  · obtain ⟨xs, rfl⟩ := all_of (f := fun n : Int => [AV.int .i64 n]) (css := css) fun c hc => by
      obtain ⟨i, hi, rfl⟩ := List.mem_iff_getElem.1 hc
      obtain ⟨n, _, e, _⟩ := (he i hi (by omega)).int_ Try.underlying3
      exact ⟨n, e⟩
    rw [cells3, flatten_single] at hs
    have h1 := bulk_slice elems spare
    have h2 := bulk_len elems
    simp at hl
    exact ⟨v, xs, rfl, hs, by omega⟩
theorem bools_rep {h : AHeap} {d : DataW H} {l : List AV} (r : RepD Try.prog h 23 d l) (hb : Rows.uptoBulk d ≤ 1048576) : ∃ (v : AV) (xs : List Bool), l = [v] ∧ RSlice h 1 v (xs.map .bool) ∧ xs.length ≤ 2000000 := by
  rcases r.slice_ Try.underlying23 with ⟨rfl, rfl⟩ | ⟨elems, spare, css, v, rfl, rfl, hp, hs, hl, hz, he⟩
  · exact ⟨_, [], rfl, ⟨SliceAt.nil _ _ _ _, fun b hb => (by cases hb)⟩, by simp⟩
  · obtain ⟨xs, rfl⟩ := all_of (f := fun n : Bool => [AV.bool n]) (css := css) fun c hc => by
      obtain ⟨i, hi, rfl⟩ := List.mem_iff_getElem.1 hc
      obtain ⟨n, _, e⟩ := (he i hi (by omega)).bool_ Try.underlying4
      exact ⟨n, e⟩
    rw [cells4, flatten_single] at hs
    have h1 := bulk_slice elems spare
    have h2 := bulk_len elems
    simp at hl
    exact ⟨v, xs, rfl, hs, by omega⟩
theorem act_rep {h : AHeap} {d : DataW H} {l : List AV} (r : RepD Try.prog h 62 d l) (hb : Rows.uptoBulk d ≤ 1048576) : ∃ a, ActAt h l a := by
  obtain ⟨parts, css, rfl, rfl, h1, h2, he⟩ := r.agg_ Try.underlying62
  have hp := bulk_agg parts
  obtain ⟨c0, c1, c2, c3, c4, c5, rfl⟩ : ∃ c0 c1 c2 c3 c4 c5, css = [c0, c1, c2, c3, c4, c5] := by
    match css, h2 with
    | [c0, c1, c2, c3, c4, c5], _ => exact ⟨_, _, _, _, _, _, rfl⟩
  obtain ⟨p0, p1, p2, p3, p4, p5, rfl⟩ : ∃ c0 c1 c2 c3 c4 c5, parts = [c0, c1, c2, c3, c4, c5] := by
    match parts, h1 with
    | [c0, c1, c2, c3, c4, c5], _ => exact ⟨_, _, _, _, _, _, rfl⟩
  have hb4 : Rows.uptoBulk p4 ≤ 1048576 := by have := bulk_mem (d := p4) (l := [p0, p1, p2, p3, p4, p5]) (by simp); omega
  have hb5 : Rows.uptoBulk p5 ≤ 1048576 := by have := bulk_mem (d := p5) (l := [p0, p1, p2, p3, p4, p5]) (by simp); omega
  obtain ⟨n0, _, e0, _⟩ := (he 0 (by simp) (by simp) (by simp)).int_ Try.underlying3
  obtain ⟨n1, _, e1, _⟩ := (he 1 (by simp) (by simp) (by simp)).int_ Try.underlying3
  obtain ⟨n2, _, e2, _⟩ := (he 2 (by simp) (by simp) (by simp)).int_ Try.underlying3
  obtain ⟨n3, _, e3, w3⟩ := (he 3 (by simp) (by simp) (by simp)).int_ Try.underlying44
  obtain ⟨v4, xs4, e4, s4, l4⟩ := bools_rep (he 4 (by simp) (by simp) (by simp)) hb4
  obtain ⟨v5, xs5, e5, s5, l5⟩ := ints_rep (he 5 (by simp) (by simp) (by simp)) hb5
  simp only [List.getElem_cons_zero, List.getElem_cons_succ] at e0 e1 e2 e3 e4 e5
  subst e0 e1 e2 e3 e4 e5
  have hn3 : 0 ≤ n3 ∧ n3 < 18446744073709551616 := by
    simp [Lit.wf, IntKind.has, IntKind.min, IntKind.max, IntKind.bits, IntKind.signed] at w3
    omega
  refine ⟨⟨n0, n1, n2, n3.toNat, xs4, xs5⟩, v4, v5, ?_, s4, s5, by simp only []; omega, l4, l5⟩
  have : ((n3.toNat : Nat) : Int) = n3 := by omega
  simp [this]
theorem acts_rep {h : AHeap} {d : DataW H} {l : List AV} (r : RepD Try.prog h 22 d l) (hb : Rows.uptoBulk d ≤ 1048576) : ∃ (v : AV) (acts : List ActD), l = [v] ∧ ActsAt h v acts := by
  rcases r.slice_ Try.underlying22 with ⟨rfl, rfl⟩ | ⟨elems, spare, css, v, rfl, rfl, hp, hs, hl, hz, he⟩
  · exact ⟨_, [], rfl, [], ⟨SliceAt.nil _ _ _ _, fun b hb => (by cases hb)⟩, rfl, fun i hi => (by simp at hi), by simp⟩
  · have h1 := bulk_slice elems spare
    have h2 := bulk_len elems
    have hex : ∀ i (hi : i < css.length), ∃ a, ActAt h css[i] a := fun i hi => act_rep (he i hi (by omega)) (by have := bulk_mem (d := elems[i]'(by omega)) (l := elems) (List.getElem_mem _); omega)
    have : ∃ acts : List ActD, acts.length = css.length ∧ ∀ i (hi : i < css.length) (hi' : i < acts.length), ActAt h css[i] acts[i] := by
      clear hs hl hz he hp
      induction css with
      | nil => exact ⟨[], rfl, fun i hi => by simp at hi⟩
      | cons c css ih =>
        obtain ⟨a, ha⟩ := hex 0 (by simp)
        obtain ⟨acts, q1, q2⟩ := ih fun i hi => by
          have := hex (i + 1) (by simpa using hi)
          simpa using this
        refine ⟨a :: acts, by simp [q1], fun i hi hi' => ?_⟩
        cases i with
        | zero => exact ha
        | succ i => simpa using q2 i (by simpa using hi) (by simpa using hi')
    obtain ⟨acts, q1, q2⟩ := this
    rw [cells62] at hs
    exact ⟨v, acts, rfl, css, hs, q1.symm, q2, by omega⟩
end Go.Proofs.Ytnkdjfmidiffdaa
