/-
  The law HeapActs answers true at all of its arguments.
  Conditions: the arguments are of their types and of the bulk that the given statement names (HeapActsUptoSaid); nothing else is asked of them.
-/
import Derived.Test.YtnkdjfmidiffdaaIn
import Derived.Test.YtnkdjfmidiffdaaH8
set_option linter.unusedSimpArgs false
set_option linter.unusedVariables false
namespace Go.Proofs.Ytnkdjfmidiffdaa
open Go Go.Proofs Go.Am Go.RowKit
theorem own : ownKnob Try.prog.godebug = none := by kernel_rfl

/-- What comes in is of small bulk. -/
def Small {H : Type} (ds : List (DataW H)) : Prop := Rows.uptoBulkAll ds ≤ 1048576
theorem small_of {H : Type} {ds : List (DataW H)} (hk : Rows.uptoSmall H ds = true) : Small ds := by
  have h : Rows.uptoBulkAll ds ≤ 1048576 := of_decide_eq_true hk
  exact h

namespace Acts
set_option maxRecDepth 100000 in
theorem contract (H : Type) (enc : TypeId × Value → H) (W : World) (base : Nat) (args : Array Value) (ds gs : List (DataW H)) (before : List MemPlace)
    (hval : ∀ (j : Nat) t v, Try.f7.params[j]? = some t → args[j]? = some v → Value.okWide Try.prog W .any base t v)
    (hW : DataW.Whole enc Try.prog Try.f7.params.toList Rows.heapActsSpec.vars false W args.toList ds gs before) (hk : Rows.uptoSmall H (ds ++ gs) = true) :
    Calls Try.prog 7 args W fun e W' => ∃ v, e = .returned v ∧ Rows.heapActsSpec.post enc Try.prog Try.f7 false true false false W args v W' := by
  have hk' := small_of hk
  have frm : frameB Try.prog lts Try.f7 4 = true := by kernel_rfl
  have vrs : Rows.heapActsSpec.vars = [] := by kernel_rfl
  refine law_contract (s := Rows.heapActsSpec) (f := Try.f7) (l := lts) (tb := 4) frm Try.underlying4 vrs (fun ds hd => ?_) (k := Small) (fun N h avs ds h1 h2 hr hk => ?_) hval hW hk'
  · rw [Try.params7] at hd
    match ds, hd with
    | [_, _], _ => rfl
  · rw [Try.params7] at h2
    unfold Small at hk
    match ds, h2, avs, h1 with
    | [d0, d1], _, [a0, a1], _ =>
      have hp : Try.f7.params.size = 2 := by rw [Try.params7]; rfl
      obtain ⟨r0, o0⟩ := hr 0 (by simp) (by simp) (by omega)
      obtain ⟨r1, o1⟩ := hr 1 (by simp) (by simp) (by omega)
      simp only [Try.params7, List.getElem_cons_zero, List.getElem_cons_succ, List.getElem_toArray] at r0 r1 o0 o1
      have b1 := bulk_mem (d := d1) (l := [d0, d1]) (by simp)
      obtain ⟨n, _, e0, _⟩ := r0.int_ Try.underlying3
      obtain ⟨v1, l1, e1, A1⟩ := acts_rep r1 (by omega)
      rw [o0 one3] at e0; rw [o1 one22] at e1
      cases e0; cases e1
      exact acts_c n A1

set_option maxRecDepth 100000 in
theorem lifted (os : Os) (started : os.Started) (H : Type) (enc : TypeId × Value → H) (F : Stop.Interp) :
    ReturnsInHanded {} Try.checked os 7 .any ((Rows.OpenSpec.upto Rows.heapActsSpec).pre6 enc Try.prog Try.f7 Rows.heapActsUptoRow.domain false) (((Rows.OpenSpec.upto Rows.heapActsSpec).at F).post enc Try.prog Try.f7 false true false false) := by
  refine returnsInHanded_of_cond (C := Try.checked) (s := Rows.OpenSpec.upto Rows.heapActsSpec) (k := Rows.uptoSmall) rfl own started (by kernel_rfl) Try.func7
    (OpenSpec.witness (enc := enc) (C := Try.checked) (s := Rows.OpenSpec.upto Rows.heapActsSpec) (k := Rows.uptoSmall) rfl false ⟨#[], #[.int .i64 0, .slice none 0 0], []⟩ 7 (by kernel_rfl) (by kernel_rfl) (by kernel_rfl)
      (x := ([.lit (.int .i64 0), .nil], [], [])) (by kernel_rfl) rfl (by kernel_rfl)) ?_
  intro W base args ds gs before hval hW _ hk _
  exact contract H enc W base args ds gs before hval hW hk
end Acts

theorem heapActs_upto : Rows.HeapActsUptoSaid :=
  OpenClaim.holds_of_cond 7 Try.f7 rfl rfl rfl rfl rfl rfl rfl ⟨rfl, rfl, rfl, rfl, rfl⟩ rfl rfl rfl rfl rfl (by kernel_rfl) Try.func7 (by kernel_rfl)
    (of_decide_eq_true (by kernel_rfl)) (by unfold Func.isWrapper; first | (rw [if_pos (by decide +kernel)]; kernel_rfl) | (rw [if_neg (by decide +kernel)]; exact ⟨rfl, rfl⟩))
    (fun os started H enc _ F => Acts.lifted os started H enc F)
end Go.Proofs.Ytnkdjfmidiffdaa
