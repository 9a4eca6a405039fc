/-
  The law HeapRoom answers true at all of its arguments.
  Conditions: the arguments are of their types and of the bulk that the given statement names (HeapRoomUptoSaid); nothing else is asked of them.
-/
import Derived.Test.YtnkdjfmidiffdaaIn
import Derived.Test.YtnkdjfmidiffdaaH11
set_option linter.unusedSimpArgs false
set_option linter.unusedVariables false
namespace Go.Proofs.Ytnkdjfmidiffdaa
open Go Go.Proofs Go.Am Go.RowKit
theorem own : ownKnob Try.prog.godebug = none := by kernel_rfl

/-- What comes in is of small bulk. -/
def Small {H : Type} (ds : List (DataW H)) : Prop := Rows.uptoBulkAll ds ≤ 1048576
theorem small_of {H : Type} {ds : List (DataW H)} (hk : Rows.uptoSmall H ds = true) : Small ds := by
  have h : Rows.uptoBulkAll ds ≤ 1048576 := of_decide_eq_true hk
  exact h

namespace Room
set_option maxRecDepth 100000 in
theorem contract (H : Type) (enc : TypeId × Value → H) (W : World) (base : Nat) (args : Array Value) (ds gs : List (DataW H)) (before : List MemPlace)
    (hval : ∀ (j : Nat) t v, Try.f3.params[j]? = some t → args[j]? = some v → Value.okWide Try.prog W .any base t v)
    (hW : DataW.Whole enc Try.prog Try.f3.params.toList Rows.heapRoomSpec.vars false W args.toList ds gs before) (hk : Rows.uptoSmall H (ds ++ gs) = true) :
    Calls Try.prog 3 args W fun e W' => ∃ v, e = .returned v ∧ Rows.heapRoomSpec.post enc Try.prog Try.f3 false true false false W args v W' := by
  have hk' := small_of hk
  have frm : frameB Try.prog lts Try.f3 4 = true := by kernel_rfl
  have vrs : Rows.heapRoomSpec.vars = [] := by kernel_rfl
  refine law_contract (s := Rows.heapRoomSpec) (f := Try.f3) (l := lts) (tb := 4) frm Try.underlying4 vrs (fun ds hd => ?_) (k := Small) (fun N h avs ds h1 h2 hr hk => ?_) hval hW hk'
  · rw [Try.params3] at hd
    match ds, hd with
    | [_, _, _, _], _ => rfl
  · rw [Try.params3] at h2
    unfold Small at hk
    match ds, h2, avs, h1 with
    | [d0, d1, d2, d3], _, [a0, a1, a2, a3], _ =>
      have hp : Try.f3.params.size = 4 := by rw [Try.params3]; rfl
      obtain ⟨r0, o0⟩ := hr 0 (by simp) (by simp) (by omega)
      obtain ⟨r1, o1⟩ := hr 1 (by simp) (by simp) (by omega)
      obtain ⟨r2, o2⟩ := hr 2 (by simp) (by simp) (by omega)
      obtain ⟨r3, o3⟩ := hr 3 (by simp) (by simp) (by omega)
      simp only [Try.params3, List.getElem_cons_zero, List.getElem_cons_succ, List.getElem_toArray] at r0 r1 r2 r3 o0 o1 o2 o3
      have b1 := bulk_mem (d := d1) (l := [d0, d1, d2, d3]) (by simp)
      have b2 := bulk_mem (d := d2) (l := [d0, d1, d2, d3]) (by simp)
      have b3 := bulk_mem (d := d3) (l := [d0, d1, d2, d3]) (by simp)
      obtain ⟨n0, _, e0, _⟩ := r0.int_ Try.underlying3
      obtain ⟨v1, l1, e1, A1⟩ := acts_rep r1 (by omega)
      obtain ⟨v2, l2, e2, S2, q2⟩ := bools_rep r2 (by omega)
      obtain ⟨v3, l3, e3, S3, q3⟩ := ints_rep r3 (by omega)
      rw [o0 one3] at e0; rw [o1 one22] at e1; rw [o2 one23] at e2; rw [o3 one24] at e3
      cases e0; cases e1; cases e2; cases e3
      exact room_law n0 A1 S2 q2 S3 q3

set_option maxRecDepth 100000 in
theorem lifted (os : Os) (started : os.Started) (H : Type) (enc : TypeId × Value → H) (F : Stop.Interp) :
    ReturnsInHanded {} Try.checked os 3 .any ((Rows.OpenSpec.upto Rows.heapRoomSpec).pre6 enc Try.prog Try.f3 Rows.heapRoomUptoRow.domain false) (((Rows.OpenSpec.upto Rows.heapRoomSpec).at F).post enc Try.prog Try.f3 false true false false) := by
  refine returnsInHanded_of_cond (C := Try.checked) (s := Rows.OpenSpec.upto Rows.heapRoomSpec) (k := Rows.uptoSmall) rfl own started (by kernel_rfl) Try.func3
    (OpenSpec.witness (enc := enc) (C := Try.checked) (s := Rows.OpenSpec.upto Rows.heapRoomSpec) (k := Rows.uptoSmall) rfl false ⟨#[], #[.int .i64 0, .slice none 0 0, .slice none 0 0, .slice none 0 0], []⟩ 3 (by kernel_rfl) (by kernel_rfl) (by kernel_rfl)
      (x := ([.lit (.int .i64 0), .nil, .nil, .nil], [], [])) (by kernel_rfl) rfl (by kernel_rfl)) ?_
  intro W base args ds gs before hval hW _ hk _
  exact contract H enc W base args ds gs before hval hW hk
end Room

theorem heapRoom_upto : Rows.HeapRoomUptoSaid :=
  OpenClaim.holds_of_cond 3 Try.f3 rfl rfl rfl rfl rfl rfl rfl ⟨rfl, rfl, rfl, rfl, rfl⟩ rfl rfl rfl rfl rfl (by kernel_rfl) Try.func3 (by kernel_rfl)
    (of_decide_eq_true (by kernel_rfl)) (by unfold Func.isWrapper; first | (rw [if_pos (by decide +kernel)]; kernel_rfl) | (rw [if_neg (by decide +kernel)]; exact ⟨rfl, rfl⟩))
    (fun os started H enc _ F => Room.lifted os started H enc F)
end Go.Proofs.Ytnkdjfmidiffdaa
