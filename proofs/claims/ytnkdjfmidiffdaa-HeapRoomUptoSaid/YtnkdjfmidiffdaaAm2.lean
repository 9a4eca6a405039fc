/-
  Part of the proofs about the heap: an abstract memory, its compiled code, and the contracts of the functions over it.
  Conditions: each theorem names its own.
-/
import Derived.Test.YtnkdjfmidiffdaaAm1
import Derived.Laws.Cells
import Derived.Laws.Append
import Derived.Laws.AppendOwn
import Derived.Laws.MakeOwn
import Derived.Laws.IdiomCopy
set_option linter.unusedSimpArgs false
set_option linter.unusedVariables false
/-
  EACH OPERATION OF THE MODEL DOES WHAT ITS ABSTRACT TWIN SAYS (second part).
-/
namespace Go.Am
open Go.RowKit

section
variable {P : Program} {N : Nat} {ι : Emb} {h : AHeap} {w : World} (s : Sim N ι h w) {n : Nat} {tm : TM} {act : Act} (ha : ActRel ι n tm act.tmps)

theorem opt_bind_some {α β : Type} {o : Option α} {f : α → Option β} {b : β} (e : (do let a ← o; f a) = some b) : ∃ a, o = some a ∧ f a = some b := by
  cases o with
  | none => cases e
  | some a => exact ⟨a, rfl, e⟩

include s ha in
theorem sound_move {o : Oper} {x : Operand} {y : AOpd} (ho : o.op = .move x ∨ o.op = .assign x) (hc : compOpd x = some y) :
    Meets P N ι w ((execOp act.eval o).run P w) (AOp.ev tm h (.move y)) := by
  refine .val_same s ?_ (compOpd_sound ha hc)
  rcases ho with ho | ho <;> simp [execOp, ho]

include s ha in
theorem sound_pick {o : Oper} {c a b : Operand} {c' a' b' : AOpd} (ho : o.op = .pick c a b) (hc : compOpd c = some c') (h1 : compOpd a = some a') (h2 : compOpd b = some b') :
    Meets P N ι w ((execOp act.eval o).run P w) (AOp.ev tm h (.pick c' a' b')) := by
  have hv := compOpd_sound ha hc
  simp only [AOp.ev]
  split
  · rename_i t ht
    rw [ht] at hv
    have hv' := hv.bool_inv
    refine .val_same s (cv := if t then act.eval a else act.eval b) ?_ ?_
    · simp [execOp, ho, hv', asBool]
    · cases t
      · exact compOpd_sound ha h2
      · exact compOpd_sound ha h1
  · trivial

include s ha in
theorem sound_nilCheck {o : Oper} {x : Operand} {y : AOpd} (ho : o.op = .nilCheck x) (hc : compOpd x = some y) : Meets P N ι w ((execOp act.eval o).run P w) (AOp.ev tm h (.nilCheck y)) := by
  have hv := compOpd_sound ha hc
  simp only [AOp.ev]
  refine .opt_same s fun v e => ⟨act.eval x, ?_, ?_⟩
  · simp only [execOp, ho]
    obtain ⟨cu, hcu⟩ : ∃ cu, cu = act.eval x := ⟨_, rfl⟩
    rw [← hcu] at hv ⊢
    generalize y.ev tm = u at hv e
    cases hv <;> simp [nilCheckA] at e ⊢
    rename_i fn f c f' c' _ _
    cases fn <;> simp at e ⊢
  · have : v = y.ev tm := by
      generalize y.ev tm = u at e
      cases u <;> simp only [nilCheckA] at e <;> first
        | exact (Option.some.inj e).symm
        | (rename_i p; cases p <;> simp only [] at e <;> first | (cases e; done) | exact (Option.some.inj e).symm)
        | (rename_i fn _ _; cases fn <;> simp only [] at e <;> first | (cases e; done) | exact (Option.some.inj e).symm)
        | cases e
    rw [this]; exact hv

include s ha in
theorem sound_binOp {o : Oper} {op : BinOp} {t : TypeId} {x y : Operand} {yt : TypeId} {kd : EqKind} {a b : AOpd} (ho : o.op = .binOp op t x y yt) (hk : eqKind P t = some kd)
    (hi : kd = .iface → isC x = true ∨ isC y = true) (h1 : compOpd x = some a) (h2 : compOpd y = some b) :
    Meets P N ι w ((execOp act.eval o).run P w) (AOp.ev tm h (.binOp op kd a b)) := by
  simp only [AOp.ev]
  refine .opt_same s fun v e => ?_
  obtain ⟨cv, hr, hv⟩ := bin_sound (w := w) hk hi (compOpd_sound ha h1) (compOpd_sound ha h2) e
  exact ⟨cv, by simp only [execOp, ho, Sem.run_bind] at hr ⊢; simp only [hr, Result.andThen_ok]; rfl, hv⟩

include s ha in
theorem sound_not {o : Oper} {t : TypeId} {x : Operand} {y : AOpd} (ho : o.op = .unOp .not t x) (hc : compOpd x = some y) : Meets P N ι w ((execOp act.eval o).run P w) (AOp.ev tm h (.not y)) := by
  have hv := compOpd_sound ha hc
  simp only [AOp.ev]
  split
  · rename_i b hb
    rw [hb] at hv
    exact .val_same s (by simp [execOp, ho, hv.bool_inv, Op.unary]) (.bool _)
  · trivial

include s ha in
theorem sound_convInt {o : Oper} {t u : TypeId} {k k' : IntKind} {x : Operand} {y : AOpd} (ho : o.op = .convert t u x) (h1 : P.underlying t = some (.int k')) (h2 : P.underlying u = some (.int k)) (hc : compOpd x = some y) :
    Meets P N ι w ((execOp act.eval o).run P w) (AOp.ev tm h (.convInt k y)) := by
  have hv := compOpd_sound ha hc
  simp only [AOp.ev]
  split
  · rename_i k'' m hb
    rw [hb] at hv
    exact .val_same s (by simp [execOp, ho, hv.int_inv, convert, run_underlyingD h1, run_underlyingD h2, Conv.intToInt]) (.int _ _)
  · trivial

include s ha in
theorem sound_makeIface {o : Oper} {t : TypeId} {d : TypeDesc} {x : Operand} {y : AOpd} (ho : o.op = .makeInterface t x) (hd : P.underlying t = some d) (hni : ∀ m, d ≠ .interface m) (hc : compOpd x = some y) :
    Meets P N ι w ((execOp act.eval o).run P w) (AOp.ev tm h (.makeIface t y)) := by
  have hv := compOpd_sound ha hc
  refine .val_same s (cv := .iface t (act.eval x)) ?_ (.iface _ _ _ hv)
  simp only [execOp, ho, Instr.makeInterface, Sem.run_bind, run_underlyingD hd, Result.andThen_ok]
  cases d <;> first | rfl | exact absurd rfl (hni _)

include s ha in
theorem sound_makeFunc {o : Oper} {fn : Fn} {f c : Array Operand} {f' c' : List AOpd} (ho : o.op = .makeFunc fn f c) (h1 : compOpds f.toList = some f') (h2 : compOpds c.toList = some c') :
    Meets P N ι w ((execOp act.eval o).run P w) (AOp.ev tm h (.makeFunc fn f' c')) := by
  refine .val_same s (cv := .func fn (f.map act.eval) (c.map act.eval)) ?_ (.func _ _ _ _ _ ?_ ?_)
  · simp [execOp, ho, Instr.makeFunc]
  · rw [Array.toList_map]; exact compOpds_sound ha h1
  · rw [Array.toList_map]; exact compOpds_sound ha h2

include s ha in
theorem sound_extract {o : Oper} {t : Operand} {i : Nat} {y : AOpd} (ho : o.op = .extract t i) (hc : compOpd t = some y) : Meets P N ι w ((execOp act.eval o).run P w) (AOp.ev tm h (.extract y i)) := by
  have hv := compOpd_sound ha hc
  simp only [AOp.ev]
  split
  · rename_i vs hvs
    rw [hvs] at hv
    obtain ⟨cu, hcu⟩ : ∃ cu, cu = act.eval t := ⟨_, rfl⟩
    rw [← hcu] at hv
    cases hv
    rename_i a hl
    refine .opt_same s fun v e => ?_
    obtain ⟨cv, h1, h2⟩ := hl.get e
    exact ⟨cv, by simp [execOp, ho, ← hcu, Instr.extract, by simpa using h1], h2⟩
  · trivial

/-- An abstract pointer's cell, in the concrete. -/
theorem Sim.cell (s : Sim N ι h w) {b o : Nat} {cs : List AV} {ro : Bool} {L : Loc} (hL : ι b = some L) (hb : h b = some (.cells cs ro)) {v : AV} (hv : cs[o]? = some v) :
    ∃ cv, w.cell? ⟨L.blk, L.off + o, none⟩ = some cv ∧ VRel ι v cv := (s.at_ b L _ hL hb).2.2.2 o v hv

theorem isAgg_of {t : TypeId} {r : Option Nat} (hz : aggSize P t = some r) :
    ∃ d, P.underlying t = some d ∧ ((r = none ∧ (isAgg t).run P w = .ok false w) ∨ (∃ i, P.info? t = some i ∧ r = some i.size ∧ (isAgg t).run P w = .ok true w)) := by
  unfold aggSize isAggT at hz
  cases hu : P.underlying t with
  | none => simp [hu] at hz
  | some d =>
    refine ⟨d, rfl, ?_⟩
    have hrun : ∀ b, (match d with | .struct _ | .array _ _ => true | _ => false) = b → (isAgg t).run P w = .ok b w := by
      rintro b rfl
      simp only [isAgg, Sem.run_bind, run_underlyingD hu, Result.andThen_ok]
      cases d <;> rfl
    rw [hu] at hz
    cases d <;> simp at hz <;> first
      | (left; exact ⟨hz.symm, hrun _ rfl⟩)
      | (right; obtain ⟨i, hi, hr⟩ := hz; exact ⟨i, hi, hr.symm, hrun _ rfl⟩)

theorem addr_add (a b o i : Nat) : (Addr.mk a (b + o) none).add i = ⟨a, b + (o + i), none⟩ := by
  unfold Addr.add; split <;> simp_all <;> omega

/-- Cells in a row, read at once. -/
theorem Sim.cellsIn (s : Sim N ι h w) {b o m : Nat} {cs : List AV} {ro : Bool} {L : Loc} (hL : ι b = some L) (hb : h b = some (.cells cs ro)) (hm : o + m ≤ cs.length) :
    ∃ cvs : List Value, cvs.length = m ∧ VsRel ι ((cs.drop o).take m) cvs ∧ ∀ j v, cvs[j]? = some v → w.cell? ((Addr.mk L.blk (L.off + o) none).add j) = some v := by
  induction m with
  | zero => exact ⟨[], rfl, by simp; exact .nil, by simp⟩
  | succ m ih =>
    obtain ⟨cvs, hl, hr, hc⟩ := ih (by omega)
    obtain ⟨v, hv⟩ : ∃ v, cs[o + m]? = some v := ⟨cs[o + m], by simp⟩
    obtain ⟨cv, h1, h2⟩ := s.cell hL hb hv
    refine ⟨cvs ++ [cv], by simp [hl], ?_, fun j u hu => ?_⟩
    · rw [List.take_add_one, List.getElem?_drop, hv]
      exact hr.append (.cons _ _ _ _ h2 .nil)
    · rw [List.getElem?_append] at hu
      split at hu
      · exact hc j u hu
      · rename_i hj
        rw [List.getElem?_singleton] at hu
        split at hu
        · simp at hu; subst hu
          rw [addr_add, show o + j = o + m by omega]; exact h1
        · simp at hu

include s ha in
theorem sound_load {o : Oper} {t : TypeId} {x : Operand} {y : AOpd} {r : Option Nat} (ho : o.op = .load t x) (hz : aggSize P t = some r) (hc : compOpd x = some y) :
    Meets P N ι w ((execOp act.eval o).run P w) (AOp.ev tm h (.load r y)) := by
  have hv := compOpd_sound ha hc
  simp only [AOp.ev]
  unfold loadA
  split
  · rename_i b k hp
    rw [hp] at hv
    obtain ⟨cu, hcu⟩ : ∃ cu, cu = act.eval x := ⟨_, rfl⟩
    rw [← hcu] at hv
    cases hv
    rename_i L hL
    split
    · rename_i cs ro hb
      obtain ⟨d, hd, hr⟩ := isAgg_of (w := w) hz
      rcases hr with ⟨rfl, hrun⟩ | ⟨i, hi, rfl, hrun⟩
      · split
        · rename_i m hm; cases hm
          split
          · rename_i v hv
            obtain ⟨cv, h1, h2⟩ := s.cell hL hb hv
            exact .val_same s (cv := cv) (by simp [execOp, ho, ← hcu, Instr.loadAt, Instr.sureAddr, loadVar, hrun, h1]) h2
          · trivial
        · rename_i hm; cases hm
      · split
        · rename_i hm; cases hm
        · rename_i m hm; cases hm
          split
          · rename_i hle
            obtain ⟨cvs, hl, hr, hcell⟩ := s.cellsIn hL hb hle
            refine .val_same s (cv := .agg cvs.toArray) ?_ (.agg _ _ (by simpa using hr))
            have := run_loadCells_list (P := P) w _ cvs hcell
            rw [hl] at this
            simp [execOp, ho, ← hcu, Instr.loadAt, Instr.sureAddr, loadVar, hrun, sizeOf, run_info hi, this]
          · trivial
    · trivial
  · trivial

include s ha in
theorem sound_fieldAddr {o : Oper} {t : TypeId} {x : Operand} {f : Nat} {y : AOpd} {fs : Array Field} {fd : Field} {k : Nat} (ho : o.op = .fieldAddr t x f) (hd : P.underlying t = some (.struct fs)) (hf : fs[f]? = some fd)
    (hz : sizeT P fd.type = some (k + 1)) (hc : compOpd x = some y) : Meets P N ι w ((execOp act.eval o).run P w) (AOp.ev tm h (.fieldAddr fd.offset y)) := by
  have hv := compOpd_sound ha hc
  simp only [AOp.ev]
  split
  · rename_i b q hp
    rw [hp] at hv
    obtain ⟨cu, hcu⟩ : ∃ cu, cu = act.eval x := ⟨_, rfl⟩
    rw [← hcu] at hv
    cases hv
    rename_i L hL
    simp only [sizeT, Option.map_eq_some_iff] at hz
    obtain ⟨i, hi, hz⟩ := hz
    refine .val_same s (cv := .pointer (some ⟨L.blk, L.off + (q + fd.offset), none⟩)) ?_ (.ptr _ _ _ hL)
    have hz' : ¬ i.size = 0 := by omega
    simp [execOp, ho, ← hcu, Instr.fieldAt, run_underlyingD hd, hf, Instr.sureAddr, fieldPlace, sizeOf, run_info hi, hz', addr_add]
  · trivial

theorem part_sound {t : TypeId} {r : Option Nat} (hz : aggSize P t = some r) {cs : List AV} {a : Array Value} (hl : VsRel ι cs a.toList) {off : Nat} {v : AV} (e : partA cs off r = some v) :
    ∃ cv, (part t a off).run P w = .ok cv w ∧ VRel ι v cv := by
  obtain ⟨d, hd, hr⟩ := isAgg_of (w := w) hz
  rcases hr with ⟨rfl, hrun⟩ | ⟨i, hi, rfl, hrun⟩
  · simp only [partA] at e
    obtain ⟨cv, h1, h2⟩ := hl.get e
    have h1' : a[off]? = some cv := by simpa using h1
    exact ⟨cv, by simp [part, hrun, h1'], h2⟩
  · simp only [partA] at e
    cases e
    refine ⟨.agg (a.extract off (off + i.size)), by simp [part, hrun, sizeOf, run_info hi], .agg _ _ ?_⟩
    have : (a.extract off (off + i.size)).toList = (a.toList.drop off).take i.size := by
      simp [Array.toList_extract]
    rw [this]
    exact (hl.drop off).take _

include s ha in
theorem sound_field {o : Oper} {t : TypeId} {x : Operand} {f : Nat} {y : AOpd} {fs : Array Field} {fd : Field} {r : Option Nat} (ho : o.op = .field t x f) (hd : P.underlying t = some (.struct fs)) (hf : fs[f]? = some fd)
    (hz : aggSize P fd.type = some r) (hc : compOpd x = some y) : Meets P N ι w ((execOp act.eval o).run P w) (AOp.ev tm h (.field fd.offset r y)) := by
  have hv := compOpd_sound ha hc
  simp only [AOp.ev]
  split
  · rename_i cs hp
    rw [hp] at hv
    obtain ⟨cu, hcu⟩ : ∃ cu, cu = act.eval x := ⟨_, rfl⟩
    rw [← hcu] at hv
    cases hv
    rename_i a hl
    refine .opt_same s fun v e => ?_
    obtain ⟨cv, h1, h2⟩ := part_sound (w := w) hz hl e
    exact ⟨cv, by simp [execOp, ho, ← hcu, Instr.field, run_underlyingD hd, hf, asAgg, h1], h2⟩
  · trivial

include s ha in
theorem sound_indexSlice {o : Oper} {t e : TypeId} {x i : Operand} {y j : AOpd} {sz : Nat} (ho : o.op = .indexAddr t x i) (hd : P.underlying t = some (.slice e)) (hz : sizeT P e = some sz)
    (hc : compOpd x = some y) (hc' : compOpd i = some j) : Meets P N ι w ((execOp act.eval o).run P w) (AOp.ev tm h (.indexSlice sz y j)) := by
  have hv := compOpd_sound ha hc
  have hv' := compOpd_sound ha hc'
  simp only [AOp.ev]
  refine .opt_same s fun v e' => ?_
  obtain ⟨cu, hcu⟩ : ∃ cu, cu = act.eval x := ⟨_, rfl⟩
  rw [← hcu] at hv
  unfold indexSliceA at e'
  split at e'
  · rename_i b q sz' len cap ex k m hp hq
    rw [hp] at hv; rw [hq] at hv'
    split at e'
    · rename_i hcond
      obtain ⟨rfl, h0, hlt⟩ := hcond
      cases e'
      cases hv
      rename_i L a C hL hadr hcC hl' hex
      obtain ⟨ha', _⟩ := hadr (by omega)
      simp only [sizeT, Option.map_eq_some_iff] at hz
      obtain ⟨info, hi, hz⟩ := hz
      refine ⟨.pointer (some ⟨L.blk, L.off + (q + m.toNat * sz'), none⟩), ?_, .ptr _ _ _ hL⟩
      subst ha'
      simp [execOp, ho, ← hcu, hv'.int_inv, Instr.indexAt, asIntOf, run_underlyingD hd, h0, hlt, sizeOf, run_info hi, hz, addr_add]
    · cases e'
  · cases e'

include s ha in
theorem sound_indexArr {o : Oper} {t e : TypeId} {len : Nat} {x i : Operand} {y j : AOpd} {sz : Nat} (ho : o.op = .indexAddr t x i) (hd : P.underlying t = some (.array len e)) (hz : sizeT P e = some sz)
    (hc : compOpd x = some y) (hc' : compOpd i = some j) : Meets P N ι w ((execOp act.eval o).run P w) (AOp.ev tm h (.indexArr sz len y j)) := by
  have hv := compOpd_sound ha hc
  have hv' := compOpd_sound ha hc'
  simp only [AOp.ev]
  refine .opt_same s fun v e' => ?_
  obtain ⟨cu, hcu⟩ : ∃ cu, cu = act.eval x := ⟨_, rfl⟩
  rw [← hcu] at hv
  unfold indexArrA at e'
  split at e'
  · rename_i b q k m hp hq
    rw [hp] at hv; rw [hq] at hv'
    split at e'
    · rename_i hcond
      cases e'
      cases hv
      rename_i L hL
      simp only [sizeT, Option.map_eq_some_iff] at hz
      obtain ⟨info, hi, hz⟩ := hz
      refine ⟨.pointer (some ⟨L.blk, L.off + (q + m.toNat * sz), none⟩), ?_, .ptr _ _ _ hL⟩
      simp [execOp, ho, ← hcu, hv'.int_inv, Instr.indexAt, asIntOf, run_underlyingD hd, Instr.sureAddr, hcond.1, hcond.2, sizeOf, run_info hi, hz, addr_add]
    · cases e'
  · cases e'

include s ha in
theorem sound_index {o : Oper} {t e : TypeId} {len : Nat} {x i : Operand} {y j : AOpd} {sz : Nat} {r : Option Nat} (ho : o.op = .index t x i) (hd : P.underlying t = some (.array len e)) (hz : sizeT P e = some sz)
    (hr : aggSize P e = some r) (hc : compOpd x = some y) (hc' : compOpd i = some j) : Meets P N ι w ((execOp act.eval o).run P w) (AOp.ev tm h (.index sz len r y j)) := by
  have hv := compOpd_sound ha hc
  have hv' := compOpd_sound ha hc'
  simp only [AOp.ev]
  refine .opt_same s fun v e' => ?_
  obtain ⟨cu, hcu⟩ : ∃ cu, cu = act.eval x := ⟨_, rfl⟩
  rw [← hcu] at hv
  unfold indexA at e'
  split at e'
  · rename_i cs k m hp hq
    rw [hp] at hv; rw [hq] at hv'
    split at e'
    · rename_i hcond
      cases hv
      rename_i a hl
      simp only [sizeT, Option.map_eq_some_iff] at hz
      obtain ⟨info, hi, hz⟩ := hz
      obtain ⟨cv, h1, h2⟩ := part_sound (w := w) hr hl e'
      refine ⟨cv, ?_, h2⟩
      simp [execOp, ho, ← hcu, hv'.int_inv, Instr.index, asIntOf, run_underlyingD hd, hcond.1, hcond.2, sizeOf, run_info hi, hz, h1]
    · cases e'
  · cases e'

include s ha in
theorem sound_lenSlice {o : Oper} {c : Call} {t e : TypeId} {x : Operand} {y : AOpd} (ho : o.op = .call c) (hb : c.callee = .builtin .len) (hargs : c.args.toList = [x]) (hts : c.argTypes.toList = [t])
    (hd : P.underlying t = some (.slice e)) (hc : compOpd x = some y) : Meets P N ι w ((execOp act.eval o).run P w) (AOp.ev tm h (.len .slice y)) := by
  have hv := compOpd_sound ha hc
  simp only [AOp.ev]
  refine .opt_same s fun v e' => ?_
  obtain ⟨cu, hcu⟩ : ∃ cu, cu = act.eval x := ⟨_, rfl⟩
  rw [← hcu] at hv
  have hargs' : c.args = #[x] := by cases hh : c.args; simp_all
  have hts' : c.argTypes = #[t] := by cases hh : c.argTypes; simp_all
  cases hy : y.ev tm with
  | slice p sz len cap ex =>
    rw [hy] at e' hv
    simp only [lenA] at e'
    cases e'
    refine ⟨.int .i64 len, ?_, .int _ _⟩
    cases hv <;> simp [execOp, ho, resolve, hb, hargs', hts', invoke, builtin, Builtin.len_, run_underlyingD hd, ← hcu, goInt]
  | _ => rw [hy] at e'; simp [lenA] at e'
include s ha in
theorem sound_lenMap {o : Oper} {c : Call} {t e e2 : TypeId} {x : Operand} {y : AOpd} (ho : o.op = .call c) (hb : c.callee = .builtin .len) (hargs : c.args.toList = [x]) (hts : c.argTypes.toList = [t])
    (hd : P.underlying t = some (.map e e2)) (hc : compOpd x = some y) : Meets P N ι w ((execOp act.eval o).run P w) (AOp.ev tm h (.len .map y)) := by
  have hv := compOpd_sound ha hc
  simp only [AOp.ev]
  refine .opt_same s fun v e' => ?_
  obtain ⟨cu, hcu⟩ : ∃ cu, cu = act.eval x := ⟨_, rfl⟩
  rw [← hcu] at hv
  have hargs' : c.args = #[x] := by cases hh : c.args; simp_all
  have hts' : c.argTypes = #[t] := by cases hh : c.argTypes; simp_all
  cases hy : y.ev tm with
  | map r =>
    rw [hy] at e' hv
    cases r with
    | none =>
      simp only [lenA] at e'
      cases e'; cases hv
      exact ⟨.int .i64 0, by simp [execOp, ho, resolve, hb, hargs', hts', invoke, builtin, Builtin.len_, run_underlyingD hd, ← hcu, goInt], .int _ _⟩
    | some b =>
      simp only [lenA] at e'
      split at e'
      · rename_i es ck hb'
        cases e'; cases hv
        rename_i L hL
        obtain ⟨_, ces, h1, h2⟩ := s.at_ b L _ hL hb'
        have hlen : es.length = ces.size := by
          have : ∀ {l : List AEnt} {m : List MapEntry}, EsRel ι l m → l.length = m.length := by
            intro l m hh; induction hh <;> simp_all
          simpa using this h2
        refine ⟨.int .i64 es.length, ?_, .int _ _⟩
        simp [execOp, ho, resolve, hb, hargs', hts', invoke, builtin, Builtin.len_, run_underlyingD hd, ← hcu, goInt, getObj, Sem.run, h1, hlen]
      · cases e'
  | _ => rw [hy] at e'; simp [lenA] at e'

include s ha in
theorem sound_typeAssert {o : Oper} {t xt : TypeId} {d : TypeDesc} {ms : Array (String × TypeId)} {z : AV} {x : Operand} {y : AOpd} {ok : Bool} (ho : o.op = .typeAssert x xt t ok) (hd : P.underlying t = some d) (hni : ∀ m, d ≠ .interface m)
    (_hxt : P.underlying xt = some (.interface ms)) (hz : zeroOf P t = some z) (hc : compOpd x = some y) : Meets P N ι w ((execOp act.eval o).run P w) (AOp.ev tm h (.typeAssert t z y ok)) := by
  have hv := compOpd_sound ha hc
  simp only [AOp.ev]
  refine .opt_same s fun v e' => ?_
  obtain ⟨cu, hcu⟩ : ∃ cu, cu = act.eval x := ⟨_, rfl⟩
  rw [← hcu] at hv
  obtain ⟨zv, hzr, hzv⟩ : ∃ zv, (zeroValue t).run P w = .ok zv w ∧ VRel ι z zv := by
    unfold zeroOf at hz
    cases hi : P.info? t with
    | none => simp [hi] at hz
    | some i =>
      simp only [hi, Option.bind_some] at hz
      cases hzz : i.zero with
      | none => simp [hzz] at hz
      | some zv => rw [hzz] at hz; exact ⟨zv, by simp [zeroValue, run_info hi, hzz], ofV_sound hz⟩
  unfold assertA at e'
  split at e'
  · rename_i hy
    rw [hy] at hv
    cases hv
    cases ok <;> simp at e'
    subst e'
    refine ⟨.tuple #[zv, .bool false], ?_, .tuple _ _ (.cons _ _ _ _ hzv (.cons _ _ _ _ (.bool _) .nil))⟩
    simp only [execOp, ho, ← hcu, Instr.typeAssert, Sem.run_bind, run_underlyingD hd, Result.andThen_ok]
    cases d <;> first | exact absurd rfl (hni _) | simp [hzr]
  · rename_i u v' hy
    rw [hy] at hv
    cases hv
    rename_i cv hvv
    split at e'
    · rename_i hut; subst hut
      cases e'
      refine ⟨if ok then .tuple #[cv, .bool true] else cv, ?_, ?_⟩
      · simp only [execOp, ho, ← hcu, Instr.typeAssert, Sem.run_bind, run_underlyingD hd, Result.andThen_ok]
        cases d <;> first | exact absurd rfl (hni _) | simp
      · cases ok
        · exact hvv
        · exact .tuple _ _ (.cons _ _ _ _ hvv (.cons _ _ _ _ (.bool _) .nil))
    · rename_i hut
      split at e'
      · rename_i hok; subst hok
        cases e'
        refine ⟨.tuple #[zv, .bool false], ?_, .tuple _ _ (.cons _ _ _ _ hzv (.cons _ _ _ _ (.bool _) .nil))⟩
        simp only [execOp, ho, ← hcu, Instr.typeAssert, Sem.run_bind, run_underlyingD hd, Result.andThen_ok]
        cases d <;> first | exact absurd rfl (hni _) | simp [hut, hzr]
      · cases e'
  · cases e'
end
end Go.Am
/-
  EACH OPERATION OF THE MODEL DOES WHAT ITS ABSTRACT TWIN SAYS (third part): slices, new memory, stores.
-/
namespace Go.Am
open Go.RowKit

section
variable {P : Program} {N : Nat} {ι : Emb} {h : AHeap} {w : World} (s : Sim N ι h w) {n : Nat} {tm : TM} {act : Act} (ha : ActRel ι n tm act.tmps)

/-- A bound of a slicing, as a number. -/
def boundA (d : Nat) : Option AV → Option Nat
  | none => some d
  | some (.int _ i) => if 0 ≤ i then some i.toNat else none
  | _ => none
theorem sliceA_eq (sz : Nat) (p : Option (Nat × Nat)) (sz' len cap : Nat) (ex : Bool) (lo hi mx : Option AV) : sliceA sz (.slice p sz' len cap ex) lo hi mx =
    match boundA 0 lo, boundA len hi, boundA cap mx with
    | some l, some u, some m => if l ≤ u ∧ u ≤ m ∧ m ≤ cap ∧ (mx.isSome = true → hi.isSome = true) then
        match p with
        | none => some (.slice none sz 0 0 true)
        | some (b, o) => if sz' = sz then some (.slice (some (b, o + l * sz)) sz (u - l) (m - l) (ex || mx.isSome)) else none
      else none
    | _, _, _ => none := by
  cases lo <;> cases hi <;> cases mx <;> rfl

theorem run_bound {v : Option AV} {x : AV} {cx : Value} {d l y : Nat} {code : BoundsCode} (hv : v = some x) (hr : VRel ι x cx) (e : boundA d v = some l) (hle : l ≤ y) : (Instr.sliceBound cx y code).run P w = .ok l w := by
  subst hv
  cases x <;> simp only [boundA] at e <;> try (cases e; done)
  rename_i k i
  cases hr
  split at e
  · rename_i h0
    cases e
    have : i ≤ (y : Int) := by omega
    simp [Instr.sliceBound, asIntOf, h0, this]
  · cases e

/-- Operands that may be left out. -/
theorem compOpt_sound {x : Option Operand} {a : Option AOpd} (ha : ActRel ι n tm act.tmps) (hc : compOpt x = some a) :
    (x = none ∧ a = none) ∨ ∃ y b, x = some y ∧ a = some b ∧ VRel ι (b.ev tm) (act.eval y) := by
  cases x with
  | none => simp [compOpt] at hc; exact .inl ⟨rfl, hc.symm⟩
  | some y =>
    simp only [compOpt, Option.map_eq_some_iff] at hc
    obtain ⟨b, hb, rfl⟩ := hc
    exact .inr ⟨y, b, rfl, rfl, compOpd_sound ha hb⟩

theorem run_sliceBounds {lo hi mx : Option Operand} {lo' hi' mx' : Option AOpd} (ha : ActRel ι n tm act.tmps) (h1 : compOpt lo = some lo') (h2 : compOpt hi = some hi') (h3 : compOpt mx = some mx')
    {len cap C l u m : Nat} (e1 : boundA 0 (evOpt tm lo') = some l) (e2 : boundA len (evOpt tm hi') = some u) (e3 : boundA cap (evOpt tm mx') = some m) (hlu : l ≤ u) (hum : u ≤ m) (hmc : m ≤ cap) (hcC : cap ≤ C)
    (hmh : (evOpt tm mx').isSome = true → (evOpt tm hi').isSome = true) :
    (Instr.sliceBounds true len C (lo.map act.eval) (hi.map act.eval) (mx.map act.eval)).run P w = .ok (l, u, if (evOpt tm mx').isSome = true then m else C) w := by
  rcases compOpt_sound ha h1 with ⟨rfl, rfl⟩ | ⟨yl, bl, rfl, rfl, rl⟩ <;> rcases compOpt_sound ha h2 with ⟨rfl, rfl⟩ | ⟨yh, bh, rfl, rfl, rh⟩ <;> rcases compOpt_sound ha h3 with ⟨rfl, rfl⟩ | ⟨ym, bm, rfl, rfl, rm⟩ <;>
    simp only [evOpt, Option.isSome_some, Option.isSome_none, Bool.false_eq_true, if_false, if_true, forall_const] at e1 e2 e3 hmh ⊢
  · cases (show some 0 = some l from e1); cases (show some len = some u from e2); simp [Instr.sliceBounds]
  · cases (show some 0 = some l from e1)
    have b2 := run_bound (P := P) (w := w) (code := .sliceAcap) rfl rh e2 (show u ≤ C by have := Option.some.inj (show some cap = some m from e3); omega)
    simp [Instr.sliceBounds, b2]
  · cases (show some 0 = some l from e1)
    have b3 := run_bound (P := P) (w := w) (code := .slice3Acap) rfl rm e3 (show m ≤ C by omega)
    have b2 := run_bound (P := P) (w := w) (code := .slice3B) rfl rh e2 hum
    simp [Instr.sliceBounds, b2, b3]
  · cases (show some len = some u from e2)
    have b1 := run_bound (P := P) (w := w) (code := .sliceB) rfl rl e1 hlu
    simp [Instr.sliceBounds, b1]
  · have b2 := run_bound (P := P) (w := w) (code := .sliceAcap) rfl rh e2 (show u ≤ C by have := Option.some.inj (show some cap = some m from e3); omega)
    have b1 := run_bound (P := P) (w := w) (code := .sliceB) rfl rl e1 hlu
    simp [Instr.sliceBounds, b1, b2]
  · have b3 := run_bound (P := P) (w := w) (code := .slice3Acap) rfl rm e3 (show m ≤ C by omega)
    have b2 := run_bound (P := P) (w := w) (code := .slice3B) rfl rh e2 hum
    have b1 := run_bound (P := P) (w := w) (code := .slice3C) rfl rl e1 hlu
    simp [Instr.sliceBounds, b1, b2, b3]

include s ha in
theorem sound_slice {o : Oper} {t e : TypeId} {x : Operand} {lo hi mx : Option Operand} {y : AOpd} {lo' hi' mx' : Option AOpd} {sz : Nat} (ho : o.op = .slice t x lo hi mx) (hd : P.underlying t = some (.slice e)) (hz : sizeT P e = some sz)
    (hc : compOpd x = some y) (h1 : compOpt lo = some lo') (h2 : compOpt hi = some hi') (h3 : compOpt mx = some mx') :
    Meets P N ι w ((execOp act.eval o).run P w) (AOp.ev tm h (.slice sz y lo' hi' mx')) := by
  have hv := compOpd_sound ha hc
  simp only [AOp.ev]
  refine .opt_same s fun v e' => ?_
  obtain ⟨cu, hcu⟩ : ∃ cu, cu = act.eval x := ⟨_, rfl⟩
  rw [← hcu] at hv
  simp only [sizeT, Option.map_eq_some_iff] at hz
  obtain ⟨info, hi0, hz⟩ := hz
  cases hy : y.ev tm with
  | slice p sz' len cap ex =>
    rw [hy] at e' hv
    rw [sliceA_eq] at e'
    split at e'
    · rename_i l u m e1 e2 e3
      split at e'
      · rename_i hcond
        obtain ⟨hlu, hum, hmc, hmh⟩ := hcond
        cases p with
        | none =>
          obtain ⟨rfl, rfl, rfl⟩ := hv.sliceNone_inv
          cases e'
          have hb := run_sliceBounds (P := P) (w := w) ha h1 h2 h3 e1 e2 e3 hlu hum hmc (Nat.le_refl 0) hmh
          refine ⟨.slice none 0 0, ?_, .sliceNone _ _⟩
          have hl0 : l = 0 := by omega
          have hu0 : u = 0 := by omega
          have hm0 : m = 0 := by omega
          subst hl0 hu0 hm0
          simp only [ite_self] at hb
          simp [execOp, ho, ← hcu, Instr.sliceAt, Instr.slice, run_underlyingD hd, hb, sizeOf, run_info hi0]
        | some p =>
          obtain ⟨b, q⟩ := p
          simp only [] at e'
          split at e'
          · rename_i hsz
            cases e'
            obtain ⟨L, a, C, hL, rfl, hl1, hl2, hl3, hl4⟩ := hv.slice_inv
            have hb := run_sliceBounds (P := P) (w := w) ha h1 h2 h3 e1 e2 e3 hlu hum hmc hl2 hmh
            generalize hM : (if (evOpt tm mx').isSome = true then m else C) = M at hb
            have hmM : m ≤ M ∧ M ≤ C := by rw [← hM]; split <;> omega
            refine ⟨.slice (if M = l then some a else (some a).map (·.add (l * sz))) (u - l) (M - l), ?_, ?_⟩
            · simp [execOp, ho, ← hcu, Instr.sliceAt, Instr.slice, run_underlyingD hd, hb, sizeOf, run_info hi0, hz]
            · have hadr : (if M = l then some a else (some a).map (·.add (l * sz))) = some (if M = l then a else a.add (l * sz)) := by split <;> rfl
              rw [hadr]
              refine .slice _ _ _ _ _ _ L hL _ _ (by omega) (by omega) (fun hx => ?_) (fun hpos => ?_)
              · rw [← hM]
                simp only [Bool.or_eq_true] at hx
                split
                · rfl
                · rename_i hn
                  have := hl3 (hx.resolve_right hn)
                  have hmx : evOpt tm mx' = none := by cases h : evOpt tm mx' <;> simp_all
                  rw [hmx] at e3; simp only [boundA] at e3; cases e3; omega
              · obtain ⟨ha', hroom⟩ := hl4 (by omega)
                rw [if_neg (by omega), ha', addr_add]
                refine ⟨rfl, ?_⟩
                subst hsz
                have h5 : l * sz' + (M - l) * sz' ≤ C * sz' := by rw [← Nat.add_mul]; exact Nat.mul_le_mul_right _ (by omega)
                omega
          · cases e'
      · cases e'
    · cases e'
  | _ => rw [hy] at e'; simp [sliceA] at e'

/-- What is put together of one-celled values is one-celled. -/
theorem VRel.oneCell {ι : Emb} {v : AV} {cv : Value} (h : VRel ι v cv) (ho : v.oneCell = true) : cv.oneCell' = true := by
  cases h <;> simp [AV.oneCell] at ho <;> rfl
theorem VRel.cells {ι : Emb} {v : AV} {cv : Value} (h : VRel ι v cv) : VsRel ι v.cells cv.cells.toList := by
  cases v with
  | agg cs => cases h; rename_i hl; exact hl
  | _ =>
    have : cv.cells = #[cv] := by cases h <;> rfl
    rw [this]
    exact .cons _ _ _ _ h .nil


/-- A new row of cells. -/
theorem Sim.newRow (s : Sim N ι h w) {b : Nat} (hb : h b = none) {cs : List AV} {c : Array Value} (hr : VsRel ι cs c.toList) (e : TypeId) :
    Sim N (ι.upd b ⟨w.heap.size, 0, c.size⟩) (h.upd b (.cells cs false)) (w.alloc (.cells c e)) := by
  refine s.alloc (.cells c e) b hb c.size _ ⟨by rw [hr.length]; simp, ⟨by simp, fun _ => s.size⟩, fun i hi => ?_, fun i v hv => ?_⟩
  · simp only [Nat.zero_add]
    rw [World.cell?_alloc_new, World.frozen?_alloc_new]
    exact ⟨by simp [hi], fun _ => rfl⟩
  · simp only [Nat.zero_add]
    rw [World.cell?_alloc_new]
    obtain ⟨cv, h1, h2⟩ := hr.get hv
    exact ⟨cv, by simpa using h1, h2.ext (Emb.ext_upd (s.fresh hb))⟩
theorem Below.new (N : Nat) (w : World) (o : Obj) (hN : N ≤ w.heap.size) : Below N w (w.alloc o) := (Below.refl N w).alloc hN o

theorem zeroOf_sound {t : TypeId} {z : AV} (hz : zeroOf P t = some z) : ∃ i zv, P.info? t = some i ∧ i.zero = some zv ∧ VRel ι z zv ∧ (zeroValue t).run P w = .ok zv w := by
  unfold zeroOf at hz
  cases hi : P.info? t with
  | none => simp [hi] at hz
  | some i =>
    simp only [hi, Option.bind_some] at hz
    cases hzz : i.zero with
    | none => simp [hzz] at hz
    | some zv => rw [hzz] at hz; exact ⟨i, zv, rfl, hzz, ofV_sound hz, by simp [zeroValue, run_info hi, hzz]⟩

/-- A pointer to a new row. -/
theorem meets_new (s : Sim N ι h w) {res : Result Next} {cs : List AV} {c : Array Value} {e : TypeId} (hr : VsRel ι cs c.toList) (k : Nat → AV) (cv : Value)
    (hres : res = .ok (.value cv) (w.alloc (.cells c e))) (hv : ∀ b, h b = none → VRel (ι.upd b ⟨w.heap.size, 0, c.size⟩) (k b) cv) : Meets P N ι w res (.new (.cells cs false) k h) :=
  ⟨s.fin, fun b hb => ⟨⟨w.heap.size, 0, c.size⟩, cv, _, Emb.ext_upd (s.fresh hb), hres, hv b hb, s.newRow hb hr e, Below.new N w _ s.size⟩⟩
theorem VRel.newPtr {ι : Emb} {b s r : Nat} : VRel (ι.upd b ⟨s, 0, r⟩) (.ptr (some (b, 0))) (.pointer (some ⟨s, 0, none⟩)) := .ptr b 0 ⟨s, 0, r⟩ (Emb.upd_same _ _ _)

include s in
theorem sound_alloc {o : Oper} {t : TypeId} {z : AV} (ho : o.op = .alloc t) (hz : zeroOf P t = some z) : Meets P N ι w ((execOp act.eval o).run P w) (AOp.ev tm h (.alloc z.cells)) := by
  obtain ⟨i, zv, hi, hzz, hrel, hrun⟩ := zeroOf_sound (ι := ι) (w := w) hz
  refine meets_new s (e := t) hrel.cells _ (.pointer (some ⟨w.heap.size, 0, none⟩)) ?_ fun b _ => .newPtr
  simp [execOp, ho, Instr.alloc, hrun, newVar, newRow]

include s ha in
theorem sound_box {o : Oper} {t : TypeId} {x : Operand} {y : AOpd} (ho : o.op = .box t x) (hc : compOpd x = some y) : Meets P N ι w ((execOp act.eval o).run P w) (AOp.ev tm h (.box y)) := by
  refine meets_new s (e := t) (compOpd_sound ha hc).cells _ (.pointer (some ⟨w.heap.size, 0, none⟩)) ?_ fun b _ => .newPtr
  simp [execOp, ho, Instr.box, newVar, newRow]

include s in
theorem sound_makeMap {o : Oper} {t kt et : TypeId} (ho : o.op = .makeMap t none) (_hd : P.underlying t = some (.map kt et)) : Meets P N ι w ((execOp act.eval o).run P w) (AOp.ev tm h .makeMap) := by
  refine ⟨s.fin, fun b hb => ?_⟩
  refine ⟨⟨w.heap.size, 0, 0⟩, .map (some w.heap.size), w.alloc (.map #[] 0), Emb.ext_upd (s.fresh hb), ?_, .map b ⟨w.heap.size, 0, 0⟩ (Emb.upd_same _ _ _), ?_, Below.new N w _ s.size⟩
  · simp [execOp, ho, Instr.makeMap]
  · exact s.alloc (.map #[] 0) b hb 0 _ ⟨s.size, #[], heap_alloc_new w _, .nil⟩

theorem repeat_get {z : List AV} : ∀ {m i : Nat}, i < m * z.length → (repeatA z m)[i]? = z[i % z.length]?
  | 0, i, hi => by simp at hi
  | m + 1, i, hi => by
    simp only [repeatA]
    by_cases hlt : i < z.length
    · rw [List.getElem?_append_left hlt, Nat.mod_eq_of_lt hlt]
    · rw [List.getElem?_append_right (by omega), repeat_get (by rw [Nat.add_mul] at hi; omega)]
      congr 1
      rw [Nat.mod_eq_sub_mod (by omega : z.length ≤ i)]
theorem repeat_length {z : List AV} : ∀ {m : Nat}, (repeatA z m).length = m * z.length
  | 0 => by simp [repeatA]
  | m + 1 => by simp [repeatA, repeat_length, Nat.add_mul, Nat.add_comm]
/-- Zero cells, again and again. -/
theorem repeat_sound {z : AV} {zv : Value} {m sz : Nat} (hz : VRel ι z zv) (hl : z.cells.length = sz) (hpos : 0 < sz) : VsRel ι (repeatA z.cells m) ((Array.range (m * sz)).map (zv.cells[· % zv.cells.size]!)).toList := by
  have hc := hz.cells
  have hlen := hc.length
  have hsz : zv.cells.size = sz := by simpa [hl] using hlen.symm
  refine VsRel.of_get (by simp [repeat_length, hl]) fun i v hv => ?_
  have hi : i < m * sz := by have := (List.getElem?_eq_some_iff.1 hv).1; rwa [repeat_length, hl] at this
  rw [repeat_get (by rw [hl]; exact hi), hl] at hv
  obtain ⟨cv, h1, h2⟩ := hc.get hv
  refine ⟨cv, ?_, h2⟩
  have h1' : zv.cells[i % sz]? = some cv := by simpa using h1
  have hlt : i % sz < zv.cells.size := by rw [hsz]; exact Nat.mod_lt _ hpos
  simp [hi, hsz]
  rw [getElem!_pos zv.cells (i % sz) hlt]
  rw [Array.getElem?_eq_getElem hlt] at h1'
  exact Option.some.inj h1'

include s ha in
theorem sound_makeSlice {o : Oper} {t e : TypeId} {l c : Operand} {l' c' : AOpd} {z : AV} {sz by_ : Nat} (ho : o.op = .makeSlice t l c) (hd : P.underlying t = some (.slice e)) (hz : zeroOf P e = some z) (hs : sizeT P e = some sz)
    (hb : bytesT P e = some by_) (h0 : sz ≠ 0) (hl : z.cells.length = sz) (h1 : compOpd l = some l') (h2 : compOpd c = some c') : Meets P N ι w ((execOp act.eval o).run P w) (AOp.ev tm h (.makeSlice sz by_ z.cells l' c')) := by
  have hv1 := compOpd_sound ha h1
  have hv2 := compOpd_sound ha h2
  simp only [AOp.ev]
  unfold makeA
  split
  · rename_i kl lv kc cv he1 he2
    rw [he1] at hv1; rw [he2] at hv2
    split
    · rename_i hcond
      obtain ⟨c0, c1, c2, c3⟩ := hcond
      obtain ⟨i, zv, hi, hzz, hrel, _⟩ := zeroOf_sound (ι := ι) (w := w) hz
      simp only [sizeT, bytesT, hi, Option.map_some, Option.some.injEq] at hs hb
      subst hs hb
      have hrun := run_make (P := P) w t e i zv hd hi hzz kl kc lv cv c0 c1 c2 c3
      have hrep := repeat_sound (ι := ι) (m := cv.toNat) hrel hl (by omega)
      have hmade : madeCells zv.cells (cv.toNat * i.size) = (Array.range (cv.toNat * i.size)).map (zv.cells[· % zv.cells.size]!) := rfl
      rw [hmade] at hrun
      refine meets_new s (e := e) hrep _ (.slice (some ⟨w.heap.size, 0, none⟩) lv.toNat cv.toNat) ?_ fun b _ => ?_
      · simp only [execOp, ho, hv1.int_inv, hv2.int_inv, Sem.run_bind, hrun, Result.andThen_ok]; rfl
      · refine .slice b 0 _ _ _ true _ (Emb.upd_same _ _ _) _ _ (by omega) (Nat.le_refl _) (fun _ => rfl) fun _ => ⟨rfl, ?_⟩
        simp
    · trivial
  · trivial

theorem setL_length (l : List AV) : ∀ (cs : List AV) (o : Nat), (setL cs o l).length = cs.length := by
  induction l with
  | nil => intro cs o; rfl
  | cons v l ih => intro cs o; rw [setL, ih]; simp
theorem setL_rel {ι : Emb} : ∀ {l : List AV} {l' : List Value}, VsRel ι l l' → ∀ {cs : List AV} {cs' : Array Value} (o k : Nat), VsRel ι cs cs'.toList →
    VsRel ι (setL cs (o + k) l) ((l'.zipIdx k).foldl (fun (c : Array Value) (x : Value × Nat) => c.setIfInBounds (o + x.2) x.1) cs').toList
  | _, _, .nil, _, _, _, _, h => h
  | _, _, .cons v v' l l' hv hl, cs, cs', o, k, h => by
    simp only [List.zipIdx_cons, List.foldl_cons, setL]
    have := setL_rel hl o (k + 1) (cs := cs.set (o + k) v) (cs' := cs'.setIfInBounds (o + k) v') (by rw [Array.toList_setIfInBounds]; exact h.set _ hv)
    rwa [← Nat.add_assoc] at this
theorem fill_sound {ι : Emb} {n : Nat} {tm : TM} {act : Act} (ha : ActRel ι n tm act.tmps) {place : Nat → Option (Nat × Nat)} : ∀ {parts : List (Nat × Operand)} {ap : List (Nat × Nat × AOpd)}, compParts place parts = some ap →
    ∀ {cs r : List AV} {cs' : Array Value}, VsRel ι cs cs'.toList → fillA cs (evParts tm ap) = some r → ∃ r', Instr.fill place cs' (parts.map fun x => (x.1, act.eval x.2)) = some r' ∧ VsRel ι r r'.toList
  | [], ap, hp, cs, r, cs', hcs, hf => by
    simp only [compParts] at hp; cases hp; simp only [evParts, fillA] at hf; cases hf; exact ⟨cs', rfl, hcs⟩
  | (i, x) :: parts, ap, hp, cs, r, cs', hcs, hf => by
    simp only [compParts] at hp
    split at hp
    · rename_i p o a rest h1 h2 h3
      cases hp
      simp only [evParts, fillA] at hf
      split at hf
      · rename_i hcond
        have hv := (compOpd_sound ha h2).cells
        have hset := setL_rel hv p 0 hcs
        rw [Nat.add_zero] at hset
        obtain ⟨r', h4, h5⟩ := fill_sound ha h3 hset hf
        refine ⟨r', ?_, h5⟩
        have hsz : (act.eval x).cells.size = o := by have := hv.length; rw [hcond.1] at this; simpa using this.symm
        have hle : p + o ≤ cs'.size := by have := hcs.length; have := hcond.2; simp at *; omega
        simp only [List.map_cons, Instr.fill, h1, hsz, ne_eq, not_true_eq_false, decide_false, Bool.false_or]
        rw [if_neg (by simp; omega)]
        rw [← h4]
        congr 1
        rw [← Array.foldl_toList, Array.toList_zipIdx]
      · cases hf
    · cases hp

include s ha in
theorem sound_buildSlice {o : Oper} {t e : TypeId} {len : Nat} {parts : Array (Nat × Operand)} {ap : List (Nat × Nat × AOpd)} {z : AV} {sz : Nat} (ho : o.op = .buildSlice t len parts) (hd : P.underlying t = some (.slice e))
    (hs : sizeT P e = some sz) (hz : zeroOf P e = some z) (h0 : sz ≠ 0) (hbig : len * sz ≤ 65536) (hl : z.cells.length = sz) (hp : compParts (fun i => some (i * sz, sz)) parts.toList = some ap) :
    Meets P N ι w ((execOp act.eval o).run P w) (AOp.ev tm h (.buildSlice sz len z.cells ap)) := by
  simp only [AOp.ev]
  split
  · rename_i cs hf
    obtain ⟨i, zv, hi, hzz, hrel, hzr⟩ := zeroOf_sound (ι := ι) (w := w) hz
    simp only [sizeT, hi, Option.map_some, Option.some.injEq] at hs
    have hrep := repeat_sound (ι := ι) (m := len) hrel hl (by omega)
    obtain ⟨r', h1, h2⟩ := fill_sound ha hp hrep hf
    have hlen : r'.size = len * sz := by
      have : ∀ {l : List (Nat × Nat × AV)} {c r : List AV}, fillA c l = some r → r.length = c.length := by
        intro l
        induction l with
        | nil => intro c r h; simp only [fillA] at h; cases h; rfl
        | cons x l ih =>
          obtain ⟨p, q, v⟩ := x
          intro c r h
          simp only [fillA] at h
          split at h
          · rw [ih h, setL_length]
          · cases h
      have h3 := this hf
      rw [repeat_length, hl] at h3
      have := h2.length
      rw [h3] at this
      simpa using this.symm
    refine meets_new s (e := e) h2 _ (.slice (some ⟨w.heap.size, 0, none⟩) len len) ?_ fun b _ => ?_
    · have hbig' : ¬ (16777216 < len * sz) := by omega
      have hmap : (parts.map fun x => (x.1, act.eval x.2)).toList = parts.toList.map fun x => (x.1, act.eval x.2) := by simp
      by_cases hz0 : len * sz = 0
      · have hr0 : Array.range (len * sz) = #[] := by rw [hz0]; rfl
        rw [hr0] at h1
        simp only [List.map_toArray, List.map_nil] at h1
        have h1' : Instr.fill (fun i => some (i * sz, sz)) #[] (parts.toList.map fun x => (x.1, act.eval x.2)) = some r' := h1
        simp [execOp, ho, Instr.buildSlice, run_underlyingD hd, sizeOf, run_info hi, hs, hz0, h1', newRow, Array.range_zero']
      · simp [execOp, ho, Instr.buildSlice, run_underlyingD hd, sizeOf, run_info hi, hs, hbig', hz0, hzr, h1, newRow]
    · refine .slice b 0 _ _ _ true _ (Emb.upd_same _ _ _) _ _ (Nat.le_refl _) (Nat.le_refl _) (fun _ => rfl) fun _ => ⟨rfl, ?_⟩
      simp [hlen]
  · trivial
end
end Go.Am
/-
  EACH OPERATION OF THE MODEL DOES WHAT ITS ABSTRACT TWIN SAYS (fourth part): structs put together, stores, append.
-/
namespace Go.Am
open Go.RowKit

theorem setCells_size (b : Nat) : ∀ (vs : List Value) (o : Nat) (w : World), (w.setCells b o vs).heap.size = w.heap.size
  | [], _, _ => rfl
  | v :: r, o, w => by rw [World.setCells, setCells_size b r]; simp
theorem setCells_other (b k : Nat) (hk : k ≠ b) : ∀ (vs : List Value) (o : Nat) (w : World), (w.setCells b o vs).heap[k]? = w.heap[k]?
  | [], _, _ => rfl
  | v :: r, o, w => by rw [World.setCells, setCells_other b k hk r]; exact Below.heap_setCell _ _ _ _ hk
theorem setCells_obj (b : Nat) (o' : Obj) (hn : ∀ c e f, o' ≠ .cells c e f) : ∀ (vs : List Value) (o : Nat) (w : World), w.heap[b]? = some o' → (w.setCells b o vs).heap[b]? = some o'
  | [], _, _, h => h
  | v :: r, o, w, h => by
    rw [World.setCells]
    refine setCells_obj b o' hn r _ _ ?_
    simp only [World.setCell, Array.getElem?_modify, if_true, h, Option.map_some]
theorem setCells_below (N b : Nat) (hb : N ≤ b) : ∀ (vs : List Value) (o : Nat) (w : World), Below N w (w.setCells b o vs)
  | [], _, _ => .refl _ _
  | v :: r, o, w => by rw [World.setCells]; exact ((Below.refl N w).setCell (p := ⟨b, o, none⟩) hb v).trans (setCells_below N b hb r _ _)
theorem setCells_drawn (b : Nat) : ∀ (vs : List Value) (o : Nat) (w : World), (w.setCells b o vs).drawn = w.drawn
  | [], _, _ => rfl
  | v :: r, o, w => by rw [World.setCells, setCells_drawn b r]; rfl

section
variable {P : Program} {N : Nat} {ι : Emb} {h : AHeap} {w : World} (s : Sim N ι h w) {n : Nat} {tm : TM} {act : Act} (ha : ActRel ι n tm act.tmps)

/-- Values are written into a block's place. -/
theorem Sim.write (s : Sim N ι h w) {b o : Nat} {L : Loc} {cs : List AV} (hL : ι b = some L) (hb : h b = some (.cells cs false)) {cvs : List Value} (hroom : o + cvs.length ≤ L.room) (cs' : List AV) (hlen : cs'.length ≤ L.room)
    (hval : ∀ i v, cs'[i]? = some v → ∃ cv, (w.setCells L.blk (L.off + o) cvs).cell? ⟨L.blk, L.off + i, none⟩ = some cv ∧ VRel ι v cv) :
    Sim N ι (h.upd b (.cells cs' false)) (w.setCells L.blk (L.off + o) cvs) := by
  have h0 := s.at_ b L _ hL hb
  obtain ⟨g1, g2, g3, g4⟩ := h0
  have hsm : ∀ j, j < cvs.length → (w.cell? ⟨L.blk, L.off + o + j, none⟩).isSome = true := fun j hj => by
    rw [show L.off + o + j = L.off + (o + j) by omega]; exact (g3 (o + j) (by omega)).1
  refine s.region hL hb (setCells_size _ _ _ _) (fun k hk => setCells_other _ k hk _ _ _) (fun o' h1 h2 => setCells_obj _ o' h2 _ _ _ h1) (fun i hi => ?_) (fun i => World.frozen?_setCells _ _ _ _ _) (fun i hi => ?_) cs' hlen hval
  · exact World.cell?_setCells_out _ _ _ _ _ (fun _ _ => by simp only; omega)
  · by_cases hin : o ≤ i ∧ i < o + cvs.length
    · have := World.cell?_setCells_in L.blk cvs (L.off + o) w hsm (i - o) (by omega)
      rw [show L.off + o + (i - o) = L.off + i by omega] at this
      rw [this]; rfl
    · rw [World.cell?_setCells_out _ _ _ _ _ (fun _ _ => by simp only; omega)]
      exact (g3 i hi).1

theorem setL_get {l : List AV} : ∀ {cs : List AV} {o : Nat}, o + l.length ≤ cs.length → ∀ i, (setL cs o l)[i]? = if o ≤ i ∧ i < o + l.length then l[i - o]? else cs[i]? := by
  induction l with
  | nil => intro cs o _ i; simp only [setL, List.length_nil, Nat.add_zero]; rw [if_neg (by omega)]
  | cons v l ih =>
    intro cs o ho i
    simp only [List.length_cons] at ho
    rw [setL, ih (by simp; omega)]
    by_cases h1 : o + 1 ≤ i ∧ i < o + 1 + l.length
    · rw [if_pos h1, if_pos (by simp; omega), show i - o = (i - (o + 1)) + 1 by omega, List.getElem?_cons_succ]
    · rw [if_neg h1]
      by_cases h2 : i = o
      · subst h2; rw [if_pos (by simp), List.getElem?_set_self (by omega)]; simp
      · rw [if_neg (by simp; omega), List.getElem?_set_ne (by omega)]

/-- Values of a list are stored. -/
theorem Sim.store (s : Sim N ι h w) {b o : Nat} {L : Loc} {cs vs : List AV} (hL : ι b = some L) (hb : h b = some (.cells cs false)) {cvs : List Value} (hr : VsRel ι vs cvs) (ho : o + vs.length ≤ cs.length) :
    Sim N ι (h.upd b (.cells (setL cs o vs) false)) (w.setCells L.blk (L.off + o) cvs) := by
  have h0 := s.at_ b L _ hL hb
  obtain ⟨g1, g2, g3, g4⟩ := h0
  have hl := hr.length
  have hsm : ∀ j, j < cvs.length → (w.cell? ⟨L.blk, L.off + o + j, none⟩).isSome = true := fun j hj => by
    rw [show L.off + o + j = L.off + (o + j) by omega]; exact (g3 (o + j) (by omega)).1
  refine s.write hL hb (by omega) _ (by rw [setL_length]; exact g1) fun i v hv => ?_
  rw [setL_get ho] at hv
  split at hv
  · rename_i hin
    obtain ⟨cv, h1, h2⟩ := hr.get hv
    have hlt : i - o < cvs.length := (List.getElem?_eq_some_iff.1 h1).1
    have := World.cell?_setCells_in L.blk cvs (L.off + o) w hsm (i - o) hlt
    rw [show L.off + o + (i - o) = L.off + i by omega] at this
    refine ⟨cv, ?_, h2⟩
    rw [this]
    rw [List.getElem?_eq_getElem hlt] at h1
    exact h1
  · rename_i hin
    rw [World.cell?_setCells_out _ _ _ _ _ (fun _ _ => by simp only; omega)]
    exact g4 i v hv

theorem all_oneCell {vs : List AV} {cvs : List Value} (hr : VsRel ι vs cvs) (ho : vs.all AV.oneCell = true) : ∀ v ∈ cvs, v.oneCell' = true := by
  intro v hv
  obtain ⟨i, hi⟩ := List.getElem?_of_mem hv
  have hlt : i < vs.length := by rw [hr.length]; exact (List.getElem?_eq_some_iff.1 hi).1
  obtain ⟨cv, h1, h2⟩ := hr.get (List.getElem?_eq_getElem hlt)
  rw [hi] at h1; cases h1
  exact h2.oneCell (List.all_eq_true.1 ho _ (List.getElem_mem hlt))

include s ha in
theorem sound_store {o : Oper} {t : TypeId} {x v : Operand} {y u : AOpd} {sz : Nat} (ho : o.op = .store t x v) (hz : sizeT P t = some sz) (h1 : compOpd x = some y) (h2 : compOpd v = some u) :
    Meets P N ι w ((execOp act.eval o).run P w) (AOp.ev tm h (.store sz y u)) := by
  have hv := compOpd_sound ha h1
  have hu := (compOpd_sound ha h2).cells
  simp only [AOp.ev]
  unfold storeA
  split
  · rename_i b q hp
    rw [hp] at hv
    obtain ⟨cu, hcu⟩ : ∃ cu, cu = act.eval x := ⟨_, rfl⟩
    rw [← hcu] at hv
    cases hv
    rename_i L hL
    split
    · rename_i cs hb
      split
      · rename_i hcond
        obtain ⟨c1, c2, c3⟩ := hcond
        have h0 := s.at_ b L _ hL hb
        obtain ⟨g1, g2, g3, g4⟩ := h0
        have hlen := hu.length
        rw [c1] at hlen
        simp only [Array.length_toList] at hlen
        simp only [sizeT, Option.map_eq_some_iff] at hz
        obtain ⟨i, hi, hz⟩ := hz
        have hst := run_storeCells_cells (P := P) L.blk (L.off + q) (act.eval v).cells.toList 0 w
          (fun j hj => by
            rw [show L.off + q + 0 + j = L.off + (q + j) by omega]
            exact (g3 (q + j) (by simp only [Array.length_toList] at hj; omega)).1)
          (fun j hj => by
            rw [show L.off + q + 0 + j = L.off + (q + j) by omega]
            exact (g3 (q + j) (by simp only [Array.length_toList] at hj; omega)).2 rfl)
          (all_oneCell hu c3)
        simp only [Nat.add_zero] at hst
        refine ⟨undef, _, .inr ⟨?_, rfl⟩, .undef ι, s.store hL hb hu (by rw [c1]; exact c2), setCells_below N _ (g2.2 rfl) _ _ _⟩
        simp [execOp, ho, ← hcu, Instr.storeAt, Instr.sureAddr, storeVar, sizeOf, run_info hi, hz, ← hlen, hst]
      · trivial
    · trivial
  · trivial

theorem structPlaces_run {fields : Array Field} {pl : List (Nat × Nat)} (hp : structPlaces P fields.toList = some pl) :
    (fields.mapM (fun f => do pure (f.offset, ← sizeOf f.type) : Field → Sem (Nat × Nat))).run P w = .ok pl.toArray w := by
  have key : ∀ (l : List Field) (pl : List (Nat × Nat)), structPlaces P l = some pl → (l.mapM (fun f => do pure (f.offset, ← sizeOf f.type) : Field → Sem (Nat × Nat))).run P w = .ok pl w := by
    intro l
    induction l with
    | nil => intro pl h; simp only [structPlaces, List.mapM_nil] at h; cases h; rfl
    | cons f l ih =>
      intro pl h
      unfold structPlaces at h
      rw [List.mapM_cons] at h
      obtain ⟨a, h1, h⟩ := opt_bind_some h
      obtain ⟨r, h2, h⟩ := opt_bind_some h
      cases h
      simp only [Option.map_eq_some_iff, sizeT] at h1
      obtain ⟨z, ⟨i, hi, hz⟩, rfl⟩ := h1
      rw [List.mapM_cons]
      have := ih r h2
      simp only [Sem.run_bind, sizeOf, run_info hi, Result.andThen_ok, Sem.run_pure, hz] at this ⊢
      simp only [this, Result.andThen_ok]
  rw [Array.mapM_eq_mapM_toList, Sem.run_map, key _ _ hp]
  rfl

include s ha in
theorem sound_buildStruct {o : Oper} {t : TypeId} {fs : Array Field} {parts : Array (Nat × Operand)} {pl : List (Nat × Nat)} {ap : List (Nat × Nat × AOpd)} {z : AV} (ho : o.op = .build t parts) (hd : P.underlying t = some (.struct fs))
    (hz : zeroOf P t = some z) (hpl : structPlaces P fs.toList = some pl) (hp : compParts (pl[·]?) parts.toList = some ap) : Meets P N ι w ((execOp act.eval o).run P w) (AOp.ev tm h (.build z.cells ap)) := by
  simp only [AOp.ev]
  refine .opt_same s fun v e => ?_
  simp only [Option.map_eq_some_iff] at e
  obtain ⟨r, hf, rfl⟩ := e
  obtain ⟨i, zv, hi, hzz, hrel, hzr⟩ := zeroOf_sound (ι := ι) (w := w) hz
  obtain ⟨r', h1, h2⟩ := fill_sound ha hp hrel.cells hf
  refine ⟨.agg r', ?_, .agg _ _ h2⟩
  have hpl' : (fun x => pl.toArray[x]?) = (fun x : Nat => pl[x]?) := by funext x; simp
  simp only [execOp, ho, Instr.build, Sem.run_bind, hzr, Result.andThen_ok, run_underlyingD hd, structPlaces_run (w := w) hpl]
  simp [h1]

include s ha in
theorem sound_buildArray {o : Oper} {t e : TypeId} {len sz : Nat} {parts : Array (Nat × Operand)} {ap : List (Nat × Nat × AOpd)} {z : AV} (ho : o.op = .build t parts) (hd : P.underlying t = some (.array len e))
    (hz : zeroOf P t = some z) (hs : sizeT P e = some sz) (hp : compParts (fun i => some (i * sz, sz)) parts.toList = some ap) : Meets P N ι w ((execOp act.eval o).run P w) (AOp.ev tm h (.build z.cells ap)) := by
  simp only [AOp.ev]
  refine .opt_same s fun v e' => ?_
  simp only [Option.map_eq_some_iff] at e'
  obtain ⟨r, hf, rfl⟩ := e'
  obtain ⟨i, zv, hi, hzz, hrel, hzr⟩ := zeroOf_sound (ι := ι) (w := w) hz
  obtain ⟨r', h1, h2⟩ := fill_sound ha hp hrel.cells hf
  simp only [sizeT, Option.map_eq_some_iff] at hs
  obtain ⟨info, hinf, hs⟩ := hs
  refine ⟨.agg r', ?_, .agg _ _ h2⟩
  simp only [execOp, ho, Instr.build, Sem.run_bind, hzr, Result.andThen_ok, run_underlyingD hd, sizeOf, run_info hinf, Sem.run_pure, hs]
  simp [h1]
end
end Go.Am
/-
  EACH OPERATION OF THE MODEL DOES WHAT ITS ABSTRACT TWIN SAYS (fifth part): append.
-/
namespace Go.Am
open Go.RowKit

section
variable {P : Program} {N : Nat} {ι : Emb} {h : AHeap} {w : World} (s : Sim N ι h w) {n : Nat} {tm : TM} {act : Act} (ha : ActRel ι n tm act.tmps)

/-- A new row of cells, the last of which nothing is said of. -/
theorem Sim.newRowPre (s : Sim N ι h w) {b : Nat} (hb : h b = none) {cs : List AV} {cvs rest : List Value} (hr : VsRel ι cs cvs) (e : TypeId) {c : Array Value} (hc : c.toList = cvs ++ rest) :
    Sim N (ι.upd b ⟨w.heap.size, 0, c.size⟩) (h.upd b (.cells cs false)) (w.alloc (.cells c e)) := by
  have hsz : c.size = cvs.length + rest.length := by rw [← Array.length_toList, hc]; simp
  refine s.alloc (.cells c e) b hb c.size _ ⟨by rw [hr.length, hsz]; simp, ⟨by simp, fun _ => s.size⟩, fun i hi => ?_, fun i v hv => ?_⟩
  · simp only [Nat.zero_add]
    rw [World.cell?_alloc_new, World.frozen?_alloc_new]
    exact ⟨by simp [hi], fun _ => rfl⟩
  · simp only [Nat.zero_add]
    rw [World.cell?_alloc_new]
    obtain ⟨cv, h1, h2⟩ := hr.get hv
    refine ⟨cv, ?_, h2.ext (Emb.ext_upd (s.fresh hb))⟩
    have hlt : i < cvs.length := (List.getElem?_eq_some_iff.1 h1).1
    rw [← Array.getElem?_toList, hc, List.getElem?_append_left hlt]; exact h1

/-- A slice's first cells, read. -/
theorem firstA_sound (s : Sim N ι h w) {sz m : Nat} {v : AV} {cv : Value} {l : List AV} (hv : VRel ι v cv) (e : firstA h sz m v = some l) :
    ∃ cvs : List Value, VsRel ι l cvs ∧ cvs.length = m * sz ∧ (∀ w' : World, w'.heap = w.heap → (Builtin.firstCells sz m cv).run P w' = .ok cvs.toArray w') ∧
      (0 < m → ∃ b o L cs ro sz' len cap ex, v = .slice (some (b, o)) sz' len cap ex ∧ ι b = some L ∧ h b = some (.cells cs ro) ∧ sz' = sz ∧ m ≤ len ∧ o + m * sz ≤ cs.length ∧ l = (cs.drop o).take (m * sz)) := by
  cases v <;> simp only [firstA] at e <;> try (cases e; done)
  rename_i p sz' len cap ex
  split at e
  · rename_i h0
    subst h0; cases e
    refine ⟨[], .nil, by simp, fun w' _ => ?_, fun h => absurd h (by omega)⟩
    cases hv with
    | sliceNone => exact run_firstCells_none w' _ _ _ _
    | slice b o _ _ _ _ L hL a C _ _ _ _ => exact run_firstCells_some w' sz 0 a len C [] (by simp) (by simp)
  · rename_i h0
    cases p with
    | none => simp at e
    | some p =>
      obtain ⟨b, o⟩ := p
      simp only [] at e
      split at e
      · rename_i cs ro hb
        split at e
        · rename_i hcond
          cases e
          obtain ⟨L, a, C, hL, rfl, hl1, hl2, hl3, hl4⟩ := hv.slice_inv
          obtain ⟨cvs, k1, k2, k3⟩ := s.cellsIn hL hb hcond.2.2
          obtain ⟨hadr, _⟩ := hl4 (by omega)
          refine ⟨cvs, k2, k1, fun w' hw' => ?_, fun _ => ⟨b, o, L, cs, ro, sz', len, cap, ex, rfl, hL, hb, hcond.1, hcond.2.1, hcond.2.2, rfl⟩⟩
          refine run_firstCells_some w' sz m a len C cvs k1 fun j u hu => ?_
          rw [hadr]
          have := k3 j u hu
          rw [← this]
          simp [World.cell?, hw']
        · cases e
      · cases e

theorem run_append_fits (w : World) {t t' ty e e' : TypeId} {i : TypeInfo} (ht : P.underlying t = some (.slice e)) (ht' : P.underlying t' = some (.slice e')) (hi : P.info? e = some i) {base : Option Addr} {len C m : Nat} {x : Value} {news : List Value}
    (hx : (Builtin.lenOf x).run P w = .ok m w) (hf : (Builtin.firstCells i.size m x).run P w = .ok news.toArray w) (hroom : len + m ≤ C) {w' : World}
    (hst : ∀ a, base = some a → (storeCells (a.add (len * i.size)) news 0).run P w = .ok () w') (hno : base = none → w' = w) :
    (Builtin.append_ #[t, t'] ty #[.slice base len C, x]).run P w = .ok (.slice base (len + m) C) w' := by
  cases base with
  | none => simp [Builtin.append_, run_underlyingD ht, run_underlyingD ht', sizeOf, run_info hi, hx, hroom, hf, hno rfl]
  | some a => simp [Builtin.append_, run_underlyingD ht, run_underlyingD ht', sizeOf, run_info hi, hx, hroom, hf, hst a rfl]

theorem run_append_grows (w : World) {t t' ty e e' : TypeId} {i : TypeInfo} {z : Value} (ht : P.underlying t = some (.slice e)) (ht' : P.underlying t' = some (.slice e')) (hi : P.info? e = some i) (hz : i.zero = some z) {base : Option Addr} {len C m : Nat} {x : Value} {olds news : List Value}
    (hx : (Builtin.lenOf x).run P w = .ok m w) (hf : (Builtin.firstCells i.size m x).run P w.drew = .ok news.toArray w.drew) (ho : (Builtin.firstCells i.size len (.slice base len C)).run P w.drew = .ok olds.toArray w.drew)
    (hroom : C < len + m) (h63 : len + m ≤ 9223372036854775807) (hfit : (len + m) * i.bytes ≤ 140737488355328) :
    (Builtin.append_ #[t, t'] ty #[.slice base len C, x]).run P w =
      .ok (.slice (some ⟨w.heap.size, 0, none⟩) (len + m) (grownCap w (len + m) C e)) (w.drew.alloc (.cells (olds.toArray ++ news.toArray ++ Builtin.zeroCells z.cells (grownCap w (len + m) C e - (len + m))) e)) := by
  have hn : ¬ (len + m ≤ C) := by omega
  have h63' : ¬ (9223372036854775807 < ((len : Int) + (m : Int))) := by omega
  have hfit' := growslice_fits (old := C) (by omega) hfit
  have h48' : ¬ (281474976710656 < Builtin.nextslicecap (len + m) C * i.bytes) := by omega
  simp [Builtin.append_, run_underlyingD ht, run_underlyingD ht', sizeOf, run_info hi, zeroValue, hz, hx, hn, h63', h48', Question.forced, hf, ho, newRow, grownCap]
  congr 2
  apply Array.ext'
  simp [List.append_assoc]

include s ha in
theorem sound_append {o : Oper} {c : Call} {t t' e e' : TypeId} {x y : Operand} {x' y' : AOpd} {z : AV} {sz by_ : Nat} (ho : o.op = .call c) (hb : c.callee = .builtin .append) (hargs : c.args.toList = [x, y]) (hts : c.argTypes.toList = [t, t'])
    (hd : P.underlying t = some (.slice e)) (hd' : P.underlying t' = some (.slice e')) (hz : zeroOf P e = some z) (hs : sizeT P e = some sz) (hby : bytesT P e = some by_) (h0 : sz ≠ 0) (hl : z.cells.length = sz)
    (h1 : compOpd x = some x') (h2 : compOpd y = some y') : Meets P N ι w ((execOp act.eval o).run P w) (AOp.ev tm h (.append sz by_ z.cells x' y')) := by
  have hv1 := compOpd_sound ha h1
  have hv2 := compOpd_sound ha h2
  have hargs' : c.args = #[x, y] := by cases hh : c.args; simp_all
  have hts' : c.argTypes = #[t, t'] := by cases hh : c.argTypes; simp_all
  obtain ⟨i, zv, hi, hzz, hrel, hzr⟩ := zeroOf_sound (ι := ι) (w := w) hz
  simp only [sizeT, bytesT, hi, Option.map_some, Option.some.injEq] at hs hby
  subst hs hby
  have hzs : zv.cells.size = i.size := by have := hrel.cells.length; rw [hl] at this; simpa using this.symm
  have hrun : ∀ {r w'}, (Builtin.append_ #[t, t'] o.type #[act.eval x, act.eval y]).run P w = .ok r w' → (execOp act.eval o).run P w = .ok (.value r) w' := by
    intro r w' h
    simp [execOp, ho, resolve, hb, hargs', hts', invoke, builtin, h]
  simp only [AOp.ev]
  generalize x'.ev tm = sx at hv1
  generalize y'.ev tm = sy at hv2
  obtain ⟨cx, hcx⟩ : ∃ cx, cx = act.eval x := ⟨_, rfl⟩
  obtain ⟨cy, hcy⟩ : ∃ cy, cy = act.eval y := ⟨_, rfl⟩
  rw [← hcx] at hv1 hrun
  rw [← hcy] at hv2 hrun
  unfold appendA
  split
  · rename_i p sz' len cap ex q szq m capq exq
    have hlen : (Builtin.lenOf cy).run P w = .ok m w := by
      cases hv2 <;> rfl
    split
    · -- nothing is appended
      rename_i hm
      subst hm
      obtain ⟨cvs, k1, k2, k3, _⟩ := firstA_sound (P := P) s (sz := i.size) (m := 0) hv2 (l := []) (by simp [firstA])
      have hcv0 : cvs = [] := List.eq_nil_of_length_eq_zero (by simpa using k2)
      subst hcv0
      have hle : ∃ base C, cx = .slice base len C ∧ len ≤ C := by
        cases hv1 with
        | sliceNone => exact ⟨_, _, rfl, Nat.le_refl _⟩
        | slice b o _ _ _ _ L hL a C h3 h4 _ _ => exact ⟨_, _, rfl, by omega⟩
      obtain ⟨base, C, rfl, hC⟩ := hle
      refine ⟨.slice base len C, w, .inl (hrun ?_), hv1, s, .refl _ _⟩
      exact run_append_fits (ty := o.type) w (w' := w) hd hd' hi hlen (k3 w rfl) (by omega) (fun a _ => by simp [storeCells]) (fun _ => rfl)
    · rename_i hm
      have hpos : 0 < m := Nat.pos_of_ne_zero hm
      split
      · rename_i old new e1 e2
        split
        · rename_i hcond
          obtain ⟨c1, c2, c3, c4⟩ := hcond
          obtain ⟨ocv, o1, o2, o3, o4⟩ := firstA_sound (P := P) s hv1 e1
          obtain ⟨ncv, n1, n2, n3, n4⟩ := firstA_sound (P := P) s hv2 e2
          -- where a new row is made
          have grow : ∀ (h' : AHeap), Sim N ι h' w → ∀ base C, cx = .slice base len C → C < len + m →
              Meets P N ι w ((execOp act.eval o).run P w) (.new (.cells (old ++ new) false) (fun b => .slice (some (b, 0)) i.size (len + m) (len + m) false) h') := by
            intro h' s' base C hcx' hlt
            refine ⟨s'.fin, fun b' hb' => ?_⟩
            subst hcx'
            have hg := run_append_grows (ty := o.type) w hd hd' hi hzz hlen (n3 w.drew rfl) (o3 w.drew rfl) hlt c2 c1
            have hge := grownCap_ge w (len + m) C e
            have s1 : Sim N ι h' w.drew := s'.same rfl
            have s2 := s1.newRowPre hb' (o1.append n1) e (c := ocv.toArray ++ ncv.toArray ++ Builtin.zeroCells zv.cells (grownCap w (len + m) C e - (len + m)))
              (rest := (Builtin.zeroCells zv.cells (grownCap w (len + m) C e - (len + m))).toList) (by simp)
            refine ⟨_, _, _, Emb.ext_upd (s1.fresh hb'), hrun hg, ?_, s2, ((Below.refl N w).drew).trans (Below.new N w.drew _ s1.size)⟩
            refine .slice b' 0 _ _ _ false _ (Emb.upd_same _ _ _) _ _ (Nat.le_refl _) hge (fun h => by cases h) fun _ => ⟨rfl, ?_⟩
            simp only [Array.size_append, List.size_toArray, size_zeroCells, hzs, o2, n2, ← Nat.add_mul]
            rw [Nat.zero_add]
            exact Nat.mul_le_mul_right _ (by omega)
          cases p with
          | none =>
            obtain ⟨rfl, rfl, rfl⟩ := hv1.sliceNone_inv
            have ho0 : old = [] := by simp [firstA] at e1; exact e1
            subst ho0
            have := grow h s none 0 rfl (by rw [Nat.zero_add]; exact hpos)
            simpa using this
          | some p =>
            obtain ⟨b, q0⟩ := p
            obtain ⟨L, a, C, hL, rfl, l1, l2, l3, l4⟩ := hv1.slice_inv
            simp only []
            split
            · rename_i hex
              exact grow h s _ C rfl (by rw [l3 hex.1]; exact hex.2)
            · split
              · rename_i hsz
                subst hsz
                split
                · rename_i cs hbb
                  by_cases hroom : len + m ≤ C
                  · -- there is room: the cells behind are written
                    refine ⟨AHeap.fin_upd s.fin _ _, fun b' hb' => ?_⟩
                    obtain ⟨hadr, hrm⟩ := l4 (Nat.lt_of_lt_of_le (Nat.lt_of_lt_of_le hpos (Nat.le_add_left m len)) hroom)
                    subst hadr
                    have h0' := s.at_ b L _ hL hbb
                    obtain ⟨g1, g2, g3, g4⟩ := h0'
                    have hmul : len * i.size + m * i.size ≤ C * i.size := by rw [← Nat.add_mul]; exact Nat.mul_le_mul_right _ hroom
                    have hst := run_storeCells_cells (P := P) L.blk (L.off + (q0 + len * i.size)) ncv 0 w
                      (fun j hj => by
                        rw [show L.off + (q0 + len * i.size) + 0 + j = L.off + (q0 + len * i.size + j) by omega]
                        exact (g3 _ (by omega)).1)
                      (fun j hj => by
                        rw [show L.off + (q0 + len * i.size) + 0 + j = L.off + (q0 + len * i.size + j) by omega]
                        exact (g3 _ (by omega)).2 rfl)
                      (all_oneCell n1 c4)
                    rw [Nat.add_zero] at hst
                    have hr := run_append_fits (ty := o.type) w (base := some ⟨L.blk, L.off + q0, none⟩) hd hd' hi hlen (n3 w rfl) hroom (w' := w.setCells L.blk (L.off + (q0 + len * i.size)) ncv)
                      (fun a ha => by cases ha; rw [addr_add]; exact hst) (fun h => by cases h)
                    have s1 := s.write (o := q0 + len * i.size) (cvs := ncv) hL hbb (by omega) [] (by simp) (fun j v hv => by simp at hv)
                    have hbne : b' ≠ b := fun e => by subst e; rw [AHeap.upd_same] at hb'; cases hb'
                    rw [AHeap.upd_other _ _ hbne] at hb'
                    have hcell : ∀ j, j < len * i.size → (w.setCells L.blk (L.off + (q0 + len * i.size)) ncv).cell? ⟨L.blk, L.off + q0 + j, none⟩ = w.cell? ⟨L.blk, L.off + q0 + j, none⟩ := fun j hj =>
                      World.cell?_setCells_out _ _ _ _ _ (fun _ _ => by simp only; omega)
                    have hsm : ∀ j, j < ncv.length → (w.cell? ⟨L.blk, L.off + (q0 + len * i.size) + j, none⟩).isSome = true := fun j hj => by
                      rw [show L.off + (q0 + len * i.size) + j = L.off + (q0 + len * i.size + j) by omega]; exact (g3 _ (by omega)).1
                    have hol : old.length = len * i.size := by rw [o1.length, o2]
                    have hnl : new.length = m * i.size := by rw [n1.length, n2]
                    have s2 := s1.move hL (AHeap.upd_same _ _ _) b' (by rw [AHeap.upd_other _ _ hbne]; exact hb') ⟨L.blk, L.off + q0, L.room - q0⟩ rfl (by simp) (by simp only; omega) (old ++ new)
                      (by simp only [List.length_append, hol, hnl]; omega) (fun j v hv => by
                        rw [List.getElem?_append] at hv
                        split at hv
                        · rename_i hj
                          rw [hcell j (by omega)]
                          have hlt : 0 < len := by
                            rcases Nat.eq_zero_or_pos len with h | h
                            · exfalso; rw [h, Nat.zero_mul] at hol; clear o4 n4; omega
                            · exact h
                          obtain ⟨b2, o2', L2, cs2, ro2, sz2, len2, cap2, ex2, hh, hL2, hb2, hs2, hm2, hle2, hl2⟩ := o4 hlt
                          cases hh
                          rw [hL] at hL2; cases hL2
                          rw [hbb] at hb2; cases hb2
                          rw [hl2, List.getElem?_take, if_pos (by omega), List.getElem?_drop] at hv
                          have := g4 _ _ hv
                          rw [Nat.add_assoc]; exact this
                        · rename_i hj
                          obtain ⟨cv, q1, q2⟩ := n1.get hv
                          have hlt : j - old.length < ncv.length := (List.getElem?_eq_some_iff.1 q1).1
                          have := World.cell?_setCells_in L.blk ncv (L.off + (q0 + len * i.size)) w hsm (j - old.length) hlt
                          rw [show L.off + (q0 + len * i.size) + (j - old.length) = L.off + q0 + j by omega] at this
                          refine ⟨cv, ?_, q2⟩
                          rw [this]
                          rw [List.getElem?_eq_getElem hlt] at q1
                          exact q1)
                    rw [AHeap.upd_upd] at s2
                    refine ⟨_, _, _, Emb.ext_upd (s.fresh hb'), hrun hr, ?_, s2, setCells_below N _ (g2.2 rfl) _ _ _⟩
                    refine .slice b' 0 _ _ _ false _ (Emb.upd_same _ _ _) _ _ (Nat.le_refl _) hroom (fun h => by cases h) fun _ => ⟨rfl, by show 0 + C * i.size ≤ L.room - q0; have h7 := hrm; clear o4 n4; omega⟩
                  · exact grow _ (s.kill b) _ C rfl (by omega)
                · trivial
              · trivial
        · trivial
      · trivial
  · trivial

end
end Go.Am
/-
  EACH OPERATION OF THE MODEL DOES WHAT ITS ABSTRACT TWIN SAYS (sixth part): maps, calls.
-/
namespace Go.Am
open Go.RowKit

section
variable {P : Program} {N : Nat} {ι : Emb} {h : AHeap} {w : World} (s : Sim N ι h w) {n : Nat} {tm : TM} {act : Act} (ha : ActRel ι n tm act.tmps)

/-- The types of a kind of keys. -/
def keyDesc : KeyKind → TypeDesc → Prop
  | .int, .int _ => True
  | .bool, .bool => True
  | .str, .string => True
  | _, _ => False
theorem keyKind_sound {t : TypeId} {kk : KeyKind} (hk : keyKind P t = some kk) {x y : AV} {b : Bool} (e : sameKey kk x y = some b) : ∃ d, P.underlying t = some d ∧ keyDesc kk d := by
  unfold keyKind at hk
  split at hk
  · rename_i hu; cases hk; exact ⟨_, hu, trivial⟩
  · rename_i hu; cases hk; exact ⟨_, hu, trivial⟩
  · rename_i hu; cases hk; exact ⟨_, hu, trivial⟩
  · split at hk
    · cases hk; simp [sameKey] at e
    · cases hk
  · cases hk

theorem sameNow_sound {kk : KeyKind} {d : TypeDesc} (hd : keyDesc kk d) {x y : AV} {cx cy : Value} (hx : VRel ι x cx) (hy : VRel ι y cy) {b : Bool} (e : sameKey kk x y = some b) : Instr.sameNow d cx cy = some b := by
  unfold sameKey at e
  split at e
  · cases hx; cases hy
    cases d <;> simp [keyDesc] at hd
    split at e
    · rename_i hk; subst hk; cases e; simp [Instr.sameNow]; rfl
    · cases e
  · cases hx; cases hy
    cases d <;> simp [keyDesc] at hd
    rename_i a b; cases e; simp only [Instr.sameNow]; cases a <;> cases b <;> rfl
  · cases e
theorem findNow_sound {kk : KeyKind} {d : TypeDesc} (hd : keyDesc kk d) {k : AV} {ck : Value} (hk : VRel ι k ck) : ∀ {es : List AEnt} {ces : List MapEntry}, EsRel ι es ces → ∀ {i : Nat} {r : Option (Nat × AEnt)}, findA kk k es i = some r →
    (r = none ∧ Instr.findNow d ck ces i = some none) ∨ ∃ j e ce, r = some (j, e) ∧ Instr.findNow d ck ces i = some (some (j, ce.val)) ∧ i ≤ j ∧ es[j - i]? = some e ∧ ces[j - i]? = some ce ∧ EntRel ι e ce ∧ sameKey kk k e.key = some true
  | _, _, .nil, i, r, e => by simp only [findA] at e; cases e; exact .inl ⟨rfl, rfl⟩
  | _, _, .cons x y l m hxy hlm, i, r, e => by
    simp only [findA] at e
    split at e
    · rename_i he
      cases e
      refine .inr ⟨i, x, y, rfl, ?_, Nat.le_refl _, by simp, by simp, hxy, he⟩
      simp [Instr.findNow, sameNow_sound hd hk hxy.key he]
    · rename_i he
      have hn := sameNow_sound hd hk hxy.key he
      rcases findNow_sound hd hk hlm e with ⟨h1, h2⟩ | ⟨j, e', ce, h1, h2, h3, h4, h5, h6, h7⟩
      · exact .inl ⟨h1, by simp [Instr.findNow, hn, h2]⟩
      · refine .inr ⟨j, e', ce, h1, by simp [Instr.findNow, hn, h2], by omega, ?_, ?_, h6, h7⟩
        · rw [show j - i = (j - (i + 1)) + 1 by omega]; simpa using h4
        · rw [show j - i = (j - (i + 1)) + 1 by omega]; simpa using h5
    · cases e

theorem run_findKey {kk : KeyKind} {t : TypeId} {d : TypeDesc} (ht : P.underlying t = some d) (hd : keyDesc kk d) {k : AV} {ck : Value} (hk : VRel ι k ck) {es : List AEnt} {ces : Array MapEntry} (hes : EsRel ι es ces.toList) {r : Option (Nat × AEnt)}
    (e : findA kk k es 0 = some r) : (r = none ∧ (Instr.findKey t ck ces.toList).run P w = .ok none w) ∨
      ∃ j x y, r = some (j, x) ∧ (Instr.findKey t ck ces.toList).run P w = .ok (some (j, y.val)) w ∧ es[j]? = some x ∧ ces[j]? = some y ∧ EntRel ι x y ∧ sameKey kk k x.key = some true := by
  rcases findNow_sound hd hk hes e with ⟨h1, h2⟩ | ⟨j, x, y, h1, h2, _, h4, h5, h6, h7⟩
  · exact .inl ⟨h1, by simp [Instr.findKey, run_underlyingD ht, h2]⟩
  · exact .inr ⟨j, x, y, h1, by simp [Instr.findKey, run_underlyingD ht, h2], by simpa using h4, by simpa using h5, h6, h7⟩
theorem run_checkKey {kk : KeyKind} {t : TypeId} {d : TypeDesc} (ht : P.underlying t = some d) (hd : keyDesc kk d) (em : Bool) (cv : Value) : (Instr.checkKey em 10000 t cv).run P w = .ok () w := by
  have key : ∀ m, (Instr.checkKey em (m + 1) t cv).run P w = .ok () w := fun m => by
    cases kk <;> cases d <;> simp [keyDesc] at hd <;> simp only [Instr.checkKey, Sem.run_bind, run_underlyingD ht, Result.andThen_ok] <;> rfl
  exact key 9999
theorem keyOk_same {kk : KeyKind} {k : AV} (h : keyOk kk k = true) : sameKey kk k k = some true := by simpa [keyOk] using h

include s ha in
theorem sound_lookup {o : Oper} {t kt et : TypeId} {m k : Operand} {m' k' : AOpd} {z : AV} {kk : KeyKind} {ok : Bool} (ho : o.op = .lookup t m k ok) (hd : P.underlying t = some (.map kt et)) (hkk : keyKind P kt = some kk) (hz : zeroOf P et = some z)
    (h1 : compOpd m = some m') (h2 : compOpd k = some k') : Meets P N ι w ((execOp act.eval o).run P w) (AOp.ev tm h (.lookup kk z m' k' ok)) := by
  have hm := compOpd_sound ha h1
  have hk := compOpd_sound ha h2
  simp only [AOp.ev]
  split
  · rename_i hok
    obtain ⟨d, hkd, hdd⟩ := keyKind_sound hkk (keyOk_same hok)
    refine .opt_same s fun v e => ?_
    obtain ⟨i, zv, hi, hzz, hrel, hzr⟩ := zeroOf_sound (ι := ι) (w := w) hz
    have outR : ∀ {x : AV} {cx : Value} {b : Bool}, VRel ι x cx → VRel ι (outA ok x b) (if ok then .tuple #[cx, .bool b] else cx) := by
      intro x cx b hx
      cases ok
      · exact hx
      · exact .tuple _ _ (.cons _ _ _ _ hx (.cons _ _ _ _ (.bool _) .nil))
    obtain ⟨cm, hcm⟩ : ∃ cm, cm = act.eval m := ⟨_, rfl⟩
    rw [← hcm] at hm
    generalize m'.ev tm = mv at hm e
    unfold lookupA at e
    split at e
    · cases hm
      cases e
      refine ⟨_, ?_, outR (b := false) hrel⟩
      have hf : (Instr.findKey kt (act.eval k) []).run P w = .ok none w := by simp [Instr.findKey, run_underlyingD hkd, Instr.findNow]
      simp [execOp, ho, ← hcm, Instr.lookup, run_underlyingD hd, run_checkKey hkd hdd, hf, hzr]
    · rename_i b
      cases hm
      rename_i L hL
      split at e
      · rename_i es ck hb
        obtain ⟨_, ces, g1, g2⟩ := s.at_ b L _ hL hb
        have hget : (getObj L.blk).run P w = .ok (.map ces ck) w := by simp [getObj, Sem.run, g1]
        split at e
        · rename_i j x hfx
          cases e
          rcases run_findKey (P := P) (w := w) hkd hdd hk g2 hfx with ⟨h, _⟩ | ⟨j', x', y, h3, h4, _, _, h7, _⟩
          · cases h
          · cases h3
            refine ⟨_, ?_, outR (b := true) h7.val⟩
            simp [execOp, ho, ← hcm, Instr.lookup, run_underlyingD hd, hget, run_checkKey hkd hdd, h4]
        · rename_i hfx
          cases e
          rcases run_findKey (P := P) (w := w) hkd hdd hk g2 hfx with ⟨_, h4⟩ | ⟨j', x', y, h3, _⟩
          · refine ⟨_, ?_, outR (b := false) hrel⟩
            simp [execOp, ho, ← hcm, Instr.lookup, run_underlyingD hd, hget, run_checkKey hkd hdd, h4, hzr]
          · cases h3
        · cases e
      · cases e
    · cases e
  · trivial

theorem EsRel.get {ι : Emb} {l : List AEnt} {m : List MapEntry} (h : EsRel ι l m) : ∀ {i : Nat} {x : AEnt}, l[i]? = some x → ∃ y, m[i]? = some y ∧ EntRel ι x y := by
  induction h with
  | nil => intro i x e; simp at e
  | cons a b l m hab _ ih =>
    intro i x e
    cases i with
    | zero => simp at e; subst e; exact ⟨b, by simp, hab⟩
    | succ i => simp at e; obtain ⟨y, h1, h2⟩ := ih e; exact ⟨y, by simpa using h1, h2⟩
theorem EsRel.length {ι : Emb} {l : List AEnt} {m : List MapEntry} (h : EsRel ι l m) : l.length = m.length := by induction h <;> simp_all
theorem EsRel.snoc {ι : Emb} {l : List AEnt} {m : List MapEntry} (h : EsRel ι l m) {x : AEnt} {y : MapEntry} (hxy : EntRel ι x y) : EsRel ι (l ++ [x]) (m ++ [y]) := by
  induction h with
  | nil => exact .cons _ _ _ _ hxy .nil
  | cons a b l m hab _ ih => exact .cons _ _ _ _ hab ih
theorem EsRel.set {ι : Emb} {l : List AEnt} {m : List MapEntry} (h : EsRel ι l m) {x : AEnt} {y : MapEntry} (hxy : EntRel ι x y) : ∀ i, EsRel ι (l.set i x) (m.set i y) := by
  induction h with
  | nil => intro i; exact .nil
  | cons a b l m hab hlm ih =>
    intro i
    cases i with
    | zero => exact .cons _ _ _ _ hxy hlm
    | succ i => exact .cons _ _ _ _ hab (ih i)
theorem EsRel.eraseIdx {ι : Emb} {l : List AEnt} {m : List MapEntry} (h : EsRel ι l m) : ∀ i, EsRel ι (l.eraseIdx i) (m.eraseIdx i) := by
  induction h with
  | nil => intro i; exact .nil
  | cons a b l m hab hlm ih =>
    intro i
    cases i with
    | zero => exact hlm
    | succ i => exact .cons _ _ _ _ hab (ih i)

/-- The same key is one value. -/
theorem same_of_key {kk : KeyKind} {d : TypeDesc} (_hd : keyDesc kk d) {x y : AV} {cx cy : Value} (hx : VRel ι x cx) (hy : VRel ι y cy) (e : sameKey kk x y = some true) : cx = cy ∧ Instr.sameBits 10000 cx cy = true := by
  unfold sameKey at e
  split at e
  · cases hx; cases hy
    split at e
    · rename_i hk; subst hk
      simp at e; subst e
      exact ⟨rfl, by simp [Instr.sameBits]⟩
    · cases e
  · cases hx; cases hy
    simp at e; subst e
    exact ⟨rfl, by simp [Instr.sameBits]⟩
  · cases e

theorem setObj_run {r : Nat} {o o' : Obj} (h : w.heap[r]? = some o) (hn : o.isCells = false) : (setObj r o').run P w = .ok () { w with heap := w.heap.setIfInBounds r o' } := by
  simp only [setObj, Sem.run, h]
  cases o <;> simp [Obj.isCells] at hn <;> rfl
theorem Below.setObj {r : Nat} {o : Obj} (hN : N ≤ r) : Below N w { w with heap := w.heap.setIfInBounds r o } :=
  ⟨rfl, rfl, rfl, by simp, fun k hk => by show (w.heap.setIfInBounds r o)[k]? = _; rw [Array.getElem?_setIfInBounds_ne (by omega)]⟩
theorem setObj_get {r : Nat} {o o' : Obj} (h : w.heap[r]? = some o) : (w.heap.setIfInBounds r o')[r]? = some o' := by
  rw [Array.getElem?_setIfInBounds_self_of_lt (Array.getElem?_eq_some_iff.1 h).1]

/-- A map's entries are turned. -/
theorem Sim.setMap (s : Sim N ι h w) {b : Nat} {L : Loc} {es es' : List AEnt} {ck ck' : Nat} (hL : ι b = some L) (hb : h b = some (.map es ck)) {ces ces' : Array MapEntry} (hw : w.heap[L.blk]? = some (.map ces ck)) (hr : EsRel ι es' ces'.toList) :
    Sim N ι (h.upd b (.map es' ck')) { w with heap := w.heap.setIfInBounds L.blk (.map ces' ck') } := by
  have h0 := s.at_ b L _ hL hb
  exact s.setObj hL hb _ rfl rfl ⟨h0.1, ces', setObj_get hw, hr⟩

include s ha in
theorem sound_mapUpdate {o : Oper} {t kt et : TypeId} {m k v : Operand} {m' k' v' : AOpd} {kk : KeyKind} (ho : o.op = .mapUpdate t m k v) (hd : P.underlying t = some (.map kt et)) (hkk : keyKind P kt = some kk)
    (h1 : compOpd m = some m') (h2 : compOpd k = some k') (h3 : compOpd v = some v') : Meets P N ι w ((execOp act.eval o).run P w) (AOp.ev tm h (.mapUpdate kk m' k' v')) := by
  have hm := compOpd_sound ha h1
  have hk := compOpd_sound ha h2
  have hv := compOpd_sound ha h3
  simp only [AOp.ev]
  obtain ⟨cm, hcm⟩ : ∃ cm, cm = act.eval m := ⟨_, rfl⟩
  rw [← hcm] at hm
  generalize m'.ev tm = mv at hm
  unfold updateA
  split
  · rename_i b
    cases hm
    rename_i L hL
    split
    · rename_i es ck hb
      split
      · rename_i hok
        obtain ⟨d, hkd, hdd⟩ := keyKind_sound hkk (keyOk_same hok)
        obtain ⟨hN, ces, g1, g2⟩ := s.at_ b L _ hL hb
        have hget : (getObj L.blk).run P w = .ok (.map ces ck) w := by simp [getObj, Sem.run, g1]
        split
        · rename_i j x hfx
          rcases run_findKey (P := P) (w := w) hkd hdd hk g2 hfx with ⟨h, _⟩ | ⟨j', x', y, h3, h4, h5, h6, h7, h8⟩
          · cases h
          · cases h3
            obtain ⟨e1, e2⟩ := same_of_key hdd hk h7.key h8
            have hset := setObj_run (P := P) (o' := .map (ces.modify j fun z => { z with key := act.eval k, val := act.eval v }) ck) g1 rfl
            have hmod : (ces.modify j fun z => { z with key := act.eval k, val := act.eval v }).toList = ces.toList.set j { key := act.eval k, val := act.eval v, born := y.born } := by
              rw [Array.toList_modify]
              have : ces.toList[j]? = some y := by simpa using h6
              apply List.ext_getElem?
              intro i
              rw [List.getElem?_modify, List.getElem?_set]
              by_cases hij : j = i
              · subst hij
                have hlt := (List.getElem?_eq_some_iff.1 this).1
                rw [Array.length_toList] at hlt
                simp [this]; exact hlt
              · simp [hij]
            have hrel : EsRel ι (es.set j { key := k'.ev tm, val := v'.ev tm, born := x.born }) (ces.modify j fun z => { z with key := act.eval k, val := act.eval v }).toList := by
              rw [hmod]; exact g2.set (x := { key := k'.ev tm, val := v'.ev tm, born := x.born }) (y := { key := act.eval k, val := act.eval v, born := y.born }) ⟨hk, hv, h7.born⟩ j
            refine ⟨undef, _, .inr ⟨?_, rfl⟩, .undef ι, s.setMap hL hb g1 hrel, Below.setObj hN⟩
            have hstay : (Instr.keyThatStays y.key (act.eval k)).run P w = .ok (act.eval k) w := by
              unfold Instr.keyThatStays
              rw [← e1] at *
              rw [if_pos e2]; rfl
            simp [execOp, ho, ← hcm, Instr.mapUpdate, run_underlyingD hd, hget, run_checkKey hkd hdd, h4, h6, hstay, hset]
        · rename_i hfx
          rcases run_findKey (P := P) (w := w) hkd hdd hk g2 hfx with ⟨_, h4⟩ | ⟨j', x', y, h3, _⟩
          · have hset := setObj_run (P := P) (o' := .map (ces.push { key := act.eval k, val := act.eval v, born := ck }) (ck + 1)) g1 rfl
            have hrel : EsRel ι (es ++ [{ key := k'.ev tm, val := v'.ev tm, born := ck }]) (ces.push { key := act.eval k, val := act.eval v, born := ck }).toList := by
              rw [Array.toList_push]; exact g2.snoc ⟨hk, hv, rfl⟩
            refine ⟨undef, _, .inr ⟨?_, rfl⟩, .undef ι, s.setMap hL hb g1 hrel, Below.setObj hN⟩
            simp [execOp, ho, ← hcm, Instr.mapUpdate, run_underlyingD hd, hget, run_checkKey hkd hdd, h4, hset]
          · cases h3
        · trivial
      · trivial
    · trivial
  · trivial

include s ha in
theorem sound_delete {o : Oper} {c : Call} {t t' kt et : TypeId} {m k : Operand} {m' k' : AOpd} {kk : KeyKind} (ho : o.op = .call c) (hb : c.callee = .builtin .delete) (hargs : c.args.toList = [m, k]) (hts : c.argTypes.toList = [t, t'])
    (hd : P.underlying t = some (.map kt et)) (hkk : keyKind P kt = some kk) (h1 : compOpd m = some m') (h2 : compOpd k = some k') : Meets P N ι w ((execOp act.eval o).run P w) (AOp.ev tm h (.delete kk m' k')) := by
  have hm := compOpd_sound ha h1
  have hk := compOpd_sound ha h2
  have hargs' : c.args = #[m, k] := by cases hh : c.args; simp_all
  have hts' : c.argTypes = #[t, t'] := by cases hh : c.argTypes; simp_all
  have hrun : ∀ {r w'}, (Builtin.delete_ #[t, t'] o.type #[act.eval m, act.eval k]).run P w = .ok r w' → (execOp act.eval o).run P w = .ok (.value r) w' := by
    intro r w' h
    simp [execOp, ho, resolve, hb, hargs', hts', invoke, builtin, h]
  simp only [AOp.ev]
  obtain ⟨cm, hcm⟩ : ∃ cm, cm = act.eval m := ⟨_, rfl⟩
  rw [← hcm] at hm hrun
  generalize m'.ev tm = mv at hm
  unfold deleteA
  split
  · rename_i b
    cases hm
    rename_i L hL
    split
    · rename_i es ck hbb
      split
      · rename_i hok
        obtain ⟨d, hkd, hdd⟩ := keyKind_sound hkk (keyOk_same hok)
        obtain ⟨hN, ces, g1, g2⟩ := s.at_ b L _ hL hbb
        have hget : (getObj L.blk).run P w = .ok (.map ces ck) w := by simp [getObj, Sem.run, g1]
        split
        · rename_i j x hfx
          rcases run_findKey (P := P) (w := w) hkd hdd hk g2 hfx with ⟨h, _⟩ | ⟨j', x', y, h3, h4, h5, h6, h7, h8⟩
          · cases h
          · cases h3
            have hset := setObj_run (P := P) (o' := .map (ces.eraseIdxIfInBounds j) ck) g1 rfl
            have hrel : EsRel ι (es.eraseIdx j) (ces.eraseIdxIfInBounds j).toList := by
              rw [Array.toList_eraseIdxIfInBounds]; exact g2.eraseIdx j
            refine ⟨.tuple #[], _, .inl (hrun ?_), .tuple _ _ .nil, s.setMap hL hbb g1 hrel, Below.setObj hN⟩
            simp [Builtin.delete_, run_underlyingD hd, hget, run_checkKey hkd hdd, h4, hset]
        · rename_i hfx
          rcases run_findKey (P := P) (w := w) hkd hdd hk g2 hfx with ⟨_, h4⟩ | ⟨j', x', y, h3, _⟩
          · have hset := setObj_run (P := P) (o' := .map ces ck) g1 rfl
            refine ⟨.tuple #[], _, .inl (hrun ?_), .tuple _ _ .nil, s.setMap hL hbb g1 g2, Below.setObj hN⟩
            simp [Builtin.delete_, run_underlyingD hd, hget, run_checkKey hkd hdd, h4, hset]
          · cases h3
        · trivial
      · trivial
    · trivial
  · trivial
end
end Go.Am
/-
  EACH OPERATION OF THE MODEL DOES WHAT ITS ABSTRACT TWIN SAYS (seventh part): ranging over maps, calls; and all of them together.
-/
namespace Go.Am
open Go.RowKit

section
variable {P : Program} {N : Nat} {ι : Emb} {h : AHeap} {w : World} (s : Sim N ι h w) {n : Nat} {tm : TM} {act : Act} (ha : ActRel ι n tm act.tmps)

include s ha in
theorem sound_range {o : Oper} {t kt et : TypeId} {x : Operand} {y : AOpd} (ho : o.op = .range t x) (hd : P.underlying t = some (.map kt et)) (hc : compOpd x = some y) : Meets P N ι w ((execOp act.eval o).run P w) (AOp.ev tm h (.range y)) := by
  have hv := compOpd_sound ha hc
  simp only [AOp.ev]
  obtain ⟨cu, hcu⟩ : ∃ cu, cu = act.eval x := ⟨_, rfl⟩
  rw [← hcu] at hv
  generalize y.ev tm = u at hv
  unfold rangeA
  split
  · cases hv
    refine ⟨s.fin, fun b hb => ?_⟩
    refine ⟨⟨w.heap.size, 0, 0⟩, .pointer (some ⟨w.heap.size, 0, none⟩), w.alloc (.mapIter none 0 #[] 0), Emb.ext_upd (s.fresh hb), ?_, .newPtr, ?_, Below.new N w _ s.size⟩
    · simp [execOp, ho, ← hcu, Instr.range, run_underlyingD hd]
    · exact s.alloc _ b hb 0 _ ⟨⟨s.size, rfl⟩, none, #[], heap_alloc_new w _, rfl, trivial⟩
  · rename_i m
    cases hv
    rename_i L hL
    split
    · rename_i es ck hm
      obtain ⟨hN, ces, g1, g2⟩ := s.at_ m L _ hL hm
      have hget : (getObj L.blk).run P w = .ok (.map ces ck) w := by simp [getObj, Sem.run, g1]
      refine ⟨s.fin, fun b hb => ?_⟩
      refine ⟨⟨w.heap.size, 0, 0⟩, .pointer (some ⟨w.heap.size, 0, none⟩), w.alloc (.mapIter (some L.blk) ck #[] ck), Emb.ext_upd (s.fresh hb), ?_, .newPtr, ?_, Below.new N w _ s.size⟩
      · simp [execOp, ho, ← hcu, Instr.range, run_underlyingD hd, hget]
      · refine s.alloc _ b hb 0 _ ⟨⟨s.size, rfl⟩, some L.blk, #[], heap_alloc_new w _, rfl, L, ?_, rfl⟩
        exact (Emb.ext_upd (s.fresh hb)) _ _ hL
    · trivial
  · trivial

theorem EsRel.filter {ι : Emb} {l : List AEnt} {m : List MapEntry} (h : EsRel ι l m) (p : Nat → Bool) : EsRel ι (l.filter fun e => p e.born) (m.filter fun e => p e.born) := by
  induction h with
  | nil => exact .nil
  | cons a b l m hab _ ih =>
    simp only [List.filter_cons, ← hab.born]
    split
    · exact .cons _ _ _ _ hab ih
    · exact ih
theorem EsRel.append {ι : Emb} {l : List AEnt} {m : List MapEntry} (h : EsRel ι l m) {l' : List AEnt} {m' : List MapEntry} (h' : EsRel ι l' m') : EsRel ι (l ++ l') (m ++ m') := by
  induction h with
  | nil => exact h'
  | cons a b l m hab _ ih => exact .cons _ _ _ _ hab ih
theorem EsRel.all {ι : Emb} {l : List AEnt} {m : List MapEntry} (h : EsRel ι l m) (p : Nat → Bool) : (l.all fun e => p e.born) = (m.all fun e => p e.born) := by
  induction h with
  | nil => rfl
  | cons a b l m hab _ ih => simp only [List.all_cons, hab.born, ih]
theorem EsRel.isEmpty {ι : Emb} {l : List AEnt} {m : List MapEntry} (h : EsRel ι l m) : l.isEmpty = m.isEmpty := by cases h <;> rfl
theorem EsRel.get' {ι : Emb} {l : List AEnt} {m : List MapEntry} (h : EsRel ι l m) : ∀ {i : Nat} {y : MapEntry}, m[i]? = some y → ∃ x, l[i]? = some x ∧ EntRel ι x y := by
  induction h with
  | nil => intro i x e; simp at e
  | cons a b l m hab _ ih =>
    intro i x e
    cases i with
    | zero => simp at e; subst e; exact ⟨a, by simp, hab⟩
    | succ i => simp at e; obtain ⟨y, h1, h2⟩ := ih e; exact ⟨y, by simpa using h1, h2⟩
theorem EsRel.find {ι : Emb} {l : List AEnt} {m : List MapEntry} (h : EsRel ι l m) (p : Nat → Bool) {x : AEnt} (e : (l.find? fun e => p e.born) = some x) : ∃ y, (m.find? fun e => p e.born) = some y ∧ EntRel ι x y := by
  induction h with
  | nil => simp at e
  | cons a b l m hab _ ih =>
    simp only [List.find?_cons, ← hab.born] at e ⊢
    split at e
    · rename_i hp; cases e; exact ⟨b, by simp, hab⟩
    · rename_i hp; obtain ⟨y, h1, h2⟩ := ih e; exact ⟨y, by simp [h1], h2⟩

theorem run_pickNext (k : Nat) (hk : 0 < k) : ∃ i w', i < k ∧ w'.heap = w.heap ∧ Below N w w' ∧ (choose (.mapNext k)).run P w = .ok i w' := by
  rw [run_choose]
  split
  · exact ⟨0, w, hk, rfl, .refl _ _, rfl⟩
  · exact ⟨_, { w with drawn := w.drawn + 1 }, by simp only [Question.cut]; exact Nat.mod_lt _ hk, rfl, (Below.refl N w).drew, rfl⟩

include s ha in
theorem sound_next {o : Oper} {x : Operand} {y : AOpd} (ho : o.op = .next x false) (hc : compOpd x = some y) : Meets P N ι w ((execOp act.eval o).run P w) (AOp.ev tm h (.next y)) := by
  have hv := compOpd_sound ha hc
  simp only [AOp.ev]
  obtain ⟨cu, hcu⟩ : ∃ cu, cu = act.eval x := ⟨_, rfl⟩
  rw [← hcu] at hv
  generalize y.ev tm = u at hv
  unfold nextA
  split
  · rename_i b
    cases hv
    rename_i L hL
    have hrun : ∀ {r w'}, (Instr.next (.pointer (some ⟨L.blk, L.off + 0, none⟩)) false o.type).run P w = .ok r w' → (execOp act.eval o).run P w = .ok (.value r) w' := by
      intro r w' h
      simp only [execOp, ho, ← hcu, Sem.run_bind, h, Result.andThen_ok]; rfl
    split
    · rename_i since seen last hb
      obtain ⟨⟨hN, h0⟩, cm, seen', g1, g2, g3⟩ := s.at_ b L _ hL hb
      cases cm with
      | some r => simp at g3
      | none =>
        have hget : (getObj L.blk).run P w = .ok (.mapIter none since seen' last) w := by simp [getObj, Sem.run, g1]
        refine ⟨.tuple #[.bool false], w, .inl (hrun ?_), .tuple _ _ (.cons _ _ _ _ (.bool _) .nil), s, .refl _ _⟩
        simp [Instr.next, h0, hget]
    · rename_i m since seen last hb
      obtain ⟨⟨hN, h0⟩, cm, seen', g1, g2, g3⟩ := s.at_ b L _ hL hb
      cases cm with
      | none => simp at g3
      | some r =>
        obtain ⟨L', hL', rfl⟩ := g3
        have hget : (getObj L.blk).run P w = .ok (.mapIter (some L'.blk) since seen' last) w := by simp [getObj, Sem.run, g1]
        split
        · rename_i es ck hm
          obtain ⟨_, ces, k1, k2⟩ := s.at_ m L' _ hL' hm
          have hget' : (getObj L'.blk).run P w = .ok (.map ces ck) w := by simp [getObj, Sem.run, k1]
          have hall : (es.all fun e => decide (last ≤ e.born)) = (ces.all fun e => decide (last ≤ e.born)) := by rw [k2.all fun b => decide (last ≤ b)]; simp
          have hse : seen.isEmpty = seen'.isEmpty := by rw [g2]; simp
          have hee : es.isEmpty = ces.isEmpty := by rw [k2.isEmpty]; simp
          split
          · trivial
          · rename_i hchk
            rw [hall, hse, hee] at hchk
            have hleft : EsRel ι (es.filter fun e => !seen.contains e.born) (ces.filter fun e => !seen'.contains e.born).toList := by
              rw [Array.toList_filter]
              have := k2.filter fun b => !seen.contains b
              have hc : ∀ e : MapEntry, seen.contains e.born = seen'.contains e.born := fun e => by rw [g2]; simp
              simpa only [hc] using this
            generalize es.filter (fun e => !seen.contains e.born) = left at hleft
            generalize hcl : ces.filter (fun e => !seen'.contains e.born) = cleft at hleft
            have hold : EsRel ι (left.filter fun e => decide (e.born < since)) (cleft.filter fun e => decide (e.born < since)).toList := by
              rw [Array.toList_filter]; exact hleft.filter fun b => decide (b < since)
            have hnew : EsRel ι (left.filter fun e => decide (since ≤ e.born)) (cleft.filter fun e => decide (e.born ≥ since)).toList := by
              rw [Array.toList_filter]; exact hleft.filter fun b => decide (since ≤ b)
            simp only []
            generalize left.filter (fun e => decide (e.born < since)) = old at hold
            generalize left.filter (fun e => decide (since ≤ e.born)) = new at hnew
            generalize hco : cleft.filter (fun e => decide (e.born < since)) = cold at hold
            generalize hcn : cleft.filter (fun e => decide (e.born ≥ since)) = cnew at hnew
            have hboth := hold.append hnew
            have hoe : old.isEmpty = cold.isEmpty := by rw [hold.isEmpty]; simp
            -- the candidates
            generalize hcand : (if cold.isEmpty then #[none] else #[]) ++ (cold ++ cnew).map some = cand
            have hpos : 0 < cand.size := by
              rw [← hcand]
              by_cases hz : cold.isEmpty
              · simp [hz]; omega
              · have : 0 < cold.size := by
                  rcases Nat.eq_zero_or_pos cold.size with h | h
                  · simp [Array.isEmpty, h] at hz
                  · exact h
                simp [hz]; omega
            obtain ⟨i, w1, hi, hheap, hbel, hch⟩ := run_pickNext (P := P) (N := N) (w := w) cand.size hpos
            have s1 : Sim N ι h w1 := s.same hheap
            obtain ⟨c, hci⟩ : ∃ c, cand[i]? = some c := ⟨cand[i], by simp [hi]⟩
            have hlist : cand.toList = (if cold.isEmpty then [none] else []) ++ (cold.toList ++ cnew.toList).map some := by
              rw [← hcand]; by_cases hz : cold.isEmpty <;> simp [hz]
            have hci' : ((if cold.isEmpty then [none] else []) ++ (cold.toList ++ cnew.toList).map some)[i]? = some c := by rw [← hlist]; simpa using hci
            cases c with
            | none =>
              have hz : cold.isEmpty = true := by
                by_cases hz : cold.isEmpty
                · exact hz
                · have hmem := List.mem_of_getElem? hci'
                  rw [if_neg hz, List.nil_append] at hmem
                  obtain ⟨y, _, hy⟩ := List.mem_map.1 hmem
                  cases hy
              refine ⟨(.tuple [.bool false], h), ?_, .tuple #[.bool false], w1, hrun ?_, .tuple _ _ (.cons _ _ _ _ (.bool _) .nil), s1, hbel⟩
              · rw [hoe, hz]; simp
              · simp only [Instr.next, h0, Nat.add_zero, Sem.run_bind, hget, Result.andThen_ok, hget', hcl, hco, hcn]
                rw [if_neg hchk]
                simp only [Sem.run_bind, hcand, hch, Result.andThen_ok, hci]
                rfl
            | some ce =>
              have hmem : ∃ j : Nat, (cold.toList ++ cnew.toList)[j]? = some ce := by
                have := List.mem_of_getElem? hci'
                rw [List.mem_append] at this
                rcases this with h | h
                · split at h <;> simp at h
                · obtain ⟨x, hx, e⟩ := List.mem_map.1 h
                  cases e
                  exact List.getElem?_of_mem hx
              obtain ⟨j, hj⟩ := hmem
              obtain ⟨e, he, hrel⟩ := hboth.get' hj
              have hob : w1.heap[L.blk]? = some (.mapIter (some L'.blk) since seen' last) := by rw [hheap]; exact g1
              have hset := setObj_run (P := P) (w := w1) (o' := .mapIter (some L'.blk) since (seen'.push ce.born) ck) hob rfl
              refine ⟨(.tuple [.bool true, e.key, e.val], h.upd b (.iter (some m) since (seen ++ [e.born]) ck)), ?_, .tuple #[.bool true, ce.key, ce.val], { w1 with heap := w1.heap.setIfInBounds L.blk (.mapIter (some L'.blk) since (seen'.push ce.born) ck) }, hrun ?_,
                .tuple _ _ (.cons _ _ _ _ (.bool _) (.cons _ _ _ _ hrel.key (.cons _ _ _ _ hrel.val .nil))), ?_, hbel.trans (Below.setObj hN)⟩
              · refine List.mem_append.2 (.inr (List.mem_map.2 ⟨e, List.mem_of_getElem? he, rfl⟩))
              · simp only [Instr.next, h0, Nat.add_zero, Sem.run_bind, hget, Result.andThen_ok, hget', hcl, hco, hcn]
                rw [if_neg hchk]
                simp only [Sem.run_bind, hcand, hch, Result.andThen_ok, hci, hset]
                rfl
              · refine s1.setObj hL hb _ rfl rfl ⟨⟨hN, h0⟩, some L'.blk, seen'.push ce.born, setObj_get hob, ?_, L', hL', rfl⟩
                rw [g2, hrel.born]; simp
        · trivial
    · trivial
  · trivial

include s ha in
theorem sound_entry {o : Oper} {x : Operand} {y : AOpd} (ho : o.op = .entry x) (hc : compOpd x = some y) : Meets P N ι w ((execOp act.eval o).run P w) (AOp.ev tm h (.entry y)) := by
  have hv := compOpd_sound ha hc
  simp only [AOp.ev]
  refine .opt_same s fun v e => ?_
  obtain ⟨cu, hcu⟩ : ∃ cu, cu = act.eval x := ⟨_, rfl⟩
  rw [← hcu] at hv
  generalize y.ev tm = u at hv e
  unfold entryA at e
  split at e
  · rename_i b
    cases hv
    rename_i L hL
    split at e
    · rename_i m since seen stepped hb
      obtain ⟨⟨hN, h0⟩, cm, seen', g1, g2, g3⟩ := s.at_ b L _ hL hb
      cases cm with
      | none => simp at g3
      | some r =>
        obtain ⟨L', hL', rfl⟩ := g3
        have hget : (getObj L.blk).run P w = .ok (.mapIter (some L'.blk) since seen' stepped) w := by simp [getObj, Sem.run, g1]
        split at e
        · rename_i stamp es ck hst hm
          obtain ⟨_, ces, k1, k2⟩ := s.at_ m L' _ hL' hm
          have hget' : (getObj L'.blk).run P w = .ok (.map ces ck) w := by simp [getObj, Sem.run, k1]
          split at e
          · cases e
          · rename_i hck
            simp only [Option.map_eq_some_iff] at e
            obtain ⟨en, he, rfl⟩ := e
            obtain ⟨ce, h1, h2⟩ := k2.find (fun b => b == stamp) he
            have hback : seen'.back? = some stamp := by rw [g2] at hst; simpa [Array.getLast?_toList] using hst
            have h1' : ces.find? (fun e => e.born == stamp) = some ce := by simpa using h1
            have hck' : ck = stepped := by simpa using hck
            refine ⟨.tuple #[ce.key, ce.val], ?_, .tuple _ _ (.cons _ _ _ _ h2.key (.cons _ _ _ _ h2.val .nil))⟩
            simp [execOp, ho, ← hcu, Instr.entry, h0, hget, hback, hget', hck', h1']
        · cases e
    · cases e
  · cases e

include ha in
theorem sound_call {o : Oper} {c : Call} {f : Operand} {f' : AOpd} {args : List AOpd} (ho : o.op = .call c) (hb : c.callee = .value f) (h1 : compOpd f = some f') (h2 : compOpds c.args.toList = some args) :
    Meets P N ι w ((execOp act.eval o).run P w) (AOp.ev tm h (.call f' args)) := by
  have hv := compOpd_sound ha h1
  have hargs : VsRel ι (evAll tm args) (c.args.map act.eval).toList := by rw [Array.toList_map]; exact compOpds_sound ha h2
  simp only [AOp.ev]
  obtain ⟨cu, hcu⟩ : ∃ cu, cu = act.eval f := ⟨_, rfl⟩
  rw [← hcu] at hv
  generalize f'.ev tm = u at hv
  unfold callA
  split
  · cases hv
    rename_i g first cap first' cap' hf hcap
    rintro ⟨fn, hfn, hbody, hname⟩
    refine ⟨first' ++ c.args.map act.eval ++ cap', ?_, ?_⟩
    · have hb' : ¬ fn.body = none := by intro h; rw [h] at hbody; simp at hbody
      have hn' : ¬ fn.name = "runtime.NumGoroutine" := by simpa using hname
      simp [execOp, ho, resolve, hb, ← hcu, Deferred.ofValue, invoke, callFunc, hfn, hn', hb']
    · simp only [Array.toList_append]
      exact (hf.append hargs).append hcap
  · cases hv
    rename_i L hL
    refine ⟨L, c.args.map act.eval, hL, hargs, ?_⟩
    simp [execOp, ho, resolve, hb, ← hcu, Deferred.ofValue, invoke]
  · trivial

include ha in
theorem sound_panic {o : Oper} {x : Operand} {y : AOpd} (ho : o.op = .panic x) (hc : compOpd x = some y) : Meets P N ι w ((execOp act.eval o).run P w) (AOp.ev tm h (.panic y)) := by
  have hv := compOpd_sound ha hc
  simp only [AOp.ev]
  obtain ⟨cu, hcu⟩ : ∃ cu, cu = act.eval x := ⟨_, rfl⟩
  rw [← hcu] at hv
  generalize y.ev tm = u at hv
  split
  · cases hv
    rename_i t v cv hvv
    exact ⟨.iface t cv, by simp [execOp, ho, ← hcu, Instr.panic], .iface _ _ _ hvv⟩
  · trivial

include ha in
theorem sound_defer {o : Oper} {c : Call} {f : Operand} {f' : AOpd} {args : List AOpd} (ho : o.op = .defer c) (hb : c.callee = .value f) (h1 : compOpd f = some f') (h2 : compOpds c.args.toList = some args) :
    Meets P N ι w ((execOp act.eval o).run P w) (AOp.ev tm h (.defer f' args)) := by
  have hv := compOpd_sound ha h1
  have hargs : VsRel ι (evAll tm args) (c.args.map act.eval).toList := by rw [Array.toList_map]; exact compOpds_sound ha h2
  simp only [AOp.ev]
  obtain ⟨cu, hcu⟩ : ∃ cu, cu = act.eval f := ⟨_, rfl⟩
  rw [← hcu] at hv
  generalize f'.ev tm = u at hv
  split
  · cases hv
    rename_i fn first cap first' cap' hf hcap
    refine ⟨cap', first' ++ c.args.map act.eval, ?_, hcap, ?_⟩
    · simp [execOp, ho, resolve, hb, ← hcu, Deferred.ofValue]
    · simp only [Array.toList_append]
      exact hf.append hargs
  · trivial
end

end Go.Am
/-
  EVERY OPERATION OF THE MODEL DOES WHAT ITS ABSTRACT TWIN SAYS.
-/
namespace Go.Am
open Go.RowKit

section
variable {P : Program} {N : Nat} {ι : Emb} {h : AHeap} {w : World} (s : Sim N ι h w) {n : Nat} {tm : TM} {act : Act} (ha : ActRel ι n tm act.tmps)

include s ha in
theorem sound_min {o : Oper} {c : Call} {x y : Operand} {x' y' : AOpd} (ho : o.op = .call c) (hb : c.callee = .builtin .min) (hargs : c.args.toList = [x, y]) (h1 : compOpd x = some x') (h2 : compOpd y = some y') :
    Meets P N ι w ((execOp act.eval o).run P w) (AOp.ev tm h (.minInt x' y')) := by
  have hv1 := compOpd_sound ha h1
  have hv2 := compOpd_sound ha h2
  have hargs' : c.args = #[x, y] := by cases hh : c.args; simp_all
  simp only [AOp.ev]
  split
  · rename_i k a k' b e1 e2
    rw [e1] at hv1; rw [e2] at hv2
    split
    · rename_i hk; subst hk
      refine .val_same s (cv := .int k (if b < a then b else a)) ?_ (.int _ _)
      have hr := run_min_int2 (P := P) w c.argTypes o.type k k a b
      simp [execOp, ho, resolve, hb, hargs', invoke, builtin, hv1.int_inv, hv2.int_inv, hr]
    · trivial
  · trivial
end

/-- ALL OPERATIONS TOGETHER. -/
theorem op_sound {P : Program} {N : Nat} {ι : Emb} {h : AHeap} {w : World} (s : Sim N ι h w) {n : Nat} {tm : TM} {act : Act} (ha : ActRel ι n tm act.tmps) {o : Oper} {x : AOp} (hc : compOp P o.op = some x) :
    Meets P N ι w ((execOp act.eval o).run P w) (x.ev tm h) := by
  cases ho : o.op with
  | move x =>
    rw [ho] at hc
    obtain ⟨y, hy, rfl⟩ := Option.map_eq_some_iff.1 (show (compOpd x).map AOp.move = some _ from hc)
    exact sound_move s ha (.inl ho) hy
  | assign x =>
    rw [ho] at hc
    obtain ⟨y, hy, rfl⟩ := Option.map_eq_some_iff.1 (show (compOpd x).map AOp.move = some _ from hc)
    exact sound_move s ha (.inr ho) hy
  | pick c a b =>
    rw [ho] at hc
    replace hc : cPick c a b = some x := hc
    unfold cPick at hc
    split at hc
    · cases hc; exact sound_pick s ha ho ‹_› ‹_› ‹_›
    · cases hc
  | alloc t =>
    rw [ho] at hc
    replace hc : cAlloc P t = some x := hc
    obtain ⟨z, hz, rfl⟩ := Option.map_eq_some_iff.1 hc
    exact sound_alloc s ho hz
  | box t x =>
    rw [ho] at hc
    obtain ⟨y, hy, rfl⟩ := Option.map_eq_some_iff.1 (show (compOpd x).map AOp.box = some _ from hc)
    exact sound_box s ha ho hy
  | build t parts =>
    rw [ho] at hc
    replace hc : cBuild P t parts = some x := hc
    unfold cBuild at hc
    split at hc
    · rename_i z fs hz hd
      split at hc
      · rename_i pl hpl
        obtain ⟨ap, hp, rfl⟩ := Option.map_eq_some_iff.1 hc
        exact sound_buildStruct s ha ho hd hz hpl hp
      · cases hc
    · rename_i z len e hz hd
      split at hc
      · rename_i sz hs
        obtain ⟨ap, hp, rfl⟩ := Option.map_eq_some_iff.1 hc
        exact sound_buildArray s ha ho hd hz hs hp
      · cases hc
    · cases hc
  | buildSlice t len parts =>
    rw [ho] at hc
    replace hc : cBuildSlice P t len parts = some x := hc
    unfold cBuildSlice at hc
    split at hc
    · rename_i e hd
      split at hc
      · rename_i sz z hs hz
        split at hc
        · cases hc
        · rename_i hn
          simp only [not_or] at hn
          obtain ⟨ap, hp, rfl⟩ := Option.map_eq_some_iff.1 hc
          exact sound_buildSlice s ha ho hd hs hz hn.1 (Nat.le_of_not_lt hn.2.1) (Decidable.not_not.1 hn.2.2) hp
      · cases hc
    · cases hc
  | load t a =>
    rw [ho] at hc
    replace hc : cLoad P t a = some x := hc
    unfold cLoad at hc
    split at hc
    · cases hc; exact sound_load s ha ho ‹_› ‹_›
    · cases hc
  | store t a v =>
    rw [ho] at hc
    replace hc : cStore P t a v = some x := hc
    unfold cStore at hc
    split at hc
    · cases hc; exact sound_store s ha ho ‹_› ‹_› ‹_›
    · cases hc
  | nilCheck x =>
    rw [ho] at hc
    obtain ⟨y, hy, rfl⟩ := Option.map_eq_some_iff.1 (show (compOpd x).map AOp.nilCheck = some _ from hc)
    exact sound_nilCheck s ha ho hy
  | binOp op t a b yt =>
    rw [ho] at hc
    replace hc : cBin P op t a b = some x := hc
    unfold cBin at hc
    split at hc
    · rename_i k a' b' h1 h2 h3
      split at hc
      · cases hc
      · rename_i hn
        cases hc
        refine sound_binOp s ha ho h1 (fun hk => ?_) h2 h3
        cases hx : isC a
        · cases hy : isC b
          · exact absurd ⟨hk, hx, hy⟩ hn
          · exact .inr rfl
        · exact .inl rfl
    · cases hc
  | unOp op t a =>
    rw [ho] at hc
    replace hc : cUn op a = some x := hc
    cases op with
    | not =>
      obtain ⟨y, hy, rfl⟩ := Option.map_eq_some_iff.1 (show (compOpd a).map AOp.not = some _ from hc)
      exact sound_not s ha ho hy
    | _ => cases hc
  | convert a b c =>
    rw [ho] at hc
    replace hc : cConv P a b c = some x := hc
    unfold cConv at hc
    split at hc
    · rename_i k' k h1 h2
      obtain ⟨y, hy, rfl⟩ := Option.map_eq_some_iff.1 hc
      exact sound_convInt s ha ho h1 h2 hy
    · cases hc
  | makeInterface t a =>
    rw [ho] at hc
    replace hc : cIface P t a = some x := hc
    unfold cIface at hc
    split at hc
    · cases hc
    · rename_i d hni hd
      obtain ⟨y, hy, rfl⟩ := Option.map_eq_some_iff.1 hc
      exact sound_makeIface s ha ho hd (fun m e => hni m (by rw [e])) hy
    · cases hc
  | makeFunc fn f c =>
    rw [ho] at hc
    replace hc : cFunc fn f c = some x := hc
    unfold cFunc at hc
    split at hc
    · cases hc; exact sound_makeFunc s ha ho ‹_› ‹_›
    · cases hc
  | makeMap t r =>
    rw [ho] at hc
    replace hc : cMap P t r = some x := hc
    unfold cMap at hc
    split at hc
    · cases hc; exact sound_makeMap s ho ‹_›
    · cases hc
  | makeSlice t l c =>
    rw [ho] at hc
    replace hc : cMakeSlice P t l c = some x := hc
    unfold cMakeSlice at hc
    split at hc
    · split at hc
      · split at hc
        · cases hc
        · rename_i hn
          simp only [not_or] at hn
          cases hc
          exact sound_makeSlice s ha ho ‹_› ‹_› ‹_› ‹_› hn.1 (Decidable.not_not.1 hn.2) ‹_› ‹_›
      · cases hc
    · cases hc
  | slice t a lo hi mx =>
    rw [ho] at hc
    replace hc : cSlice P t a lo hi mx = some x := hc
    unfold cSlice at hc
    split at hc
    · split at hc
      · rename_i h1 h2 h3 h4 h5
        cases hc
        exact sound_slice s ha ho ‹_› h1 h2 h3 h4 h5
      · cases hc
    · cases hc
  | fieldAddr t a f =>
    rw [ho] at hc
    replace hc : cFieldAddr P t a f = some x := hc
    unfold cFieldAddr at hc
    split at hc
    · rename_i fs hd
      split at hc
      · rename_i fd hf
        split at hc
        · rename_i k hk
          obtain ⟨y, hy, rfl⟩ := Option.map_eq_some_iff.1 hc
          exact sound_fieldAddr s ha ho hd hf hk hy
        · cases hc
      · cases hc
    · cases hc
  | field t a f =>
    rw [ho] at hc
    replace hc : cField P t a f = some x := hc
    unfold cField at hc
    split at hc
    · rename_i fs hd
      split at hc
      · rename_i fd hf
        split at hc
        · cases hc; exact sound_field s ha ho hd hf ‹_› ‹_›
        · cases hc
      · cases hc
    · cases hc
  | indexAddr t a i =>
    rw [ho] at hc
    replace hc : cIndexAddr P t a i = some x := hc
    unfold cIndexAddr at hc
    split at hc
    · rename_i e hd
      split at hc
      · rename_i h1 h2 h3; cases hc; exact sound_indexSlice s ha ho hd h1 h2 h3
      · cases hc
    · rename_i len e hd
      split at hc
      · rename_i h1 h2 h3; cases hc; exact sound_indexArr s ha ho hd h1 h2 h3
      · cases hc
    · cases hc
  | index t a i =>
    rw [ho] at hc
    replace hc : cIndex P t a i = some x := hc
    unfold cIndex at hc
    split at hc
    · rename_i len e hd
      split at hc
      · rename_i h1 h2 h3 h4; cases hc; exact sound_index s ha ho hd h1 h2 h3 h4
      · cases hc
    · cases hc
  | lookup t m k ok =>
    rw [ho] at hc
    replace hc : cLookup P t m k ok = some x := hc
    unfold cLookup at hc
    split at hc
    · rename_i kt et hd
      split at hc
      · rename_i h1 h2 h3 h4; cases hc; exact sound_lookup s ha ho hd h1 h2 h3 h4
      · cases hc
    · cases hc
  | mapUpdate t m k v =>
    rw [ho] at hc
    replace hc : cUpdate P t m k v = some x := hc
    unfold cUpdate at hc
    split at hc
    · rename_i kt et hd
      split at hc
      · rename_i h1 h2 h3 h4; cases hc; exact sound_mapUpdate s ha ho hd h1 h2 h3 h4
      · cases hc
    · cases hc
  | extract t i =>
    rw [ho] at hc
    obtain ⟨y, hy, rfl⟩ := Option.map_eq_some_iff.1 (show (compOpd t).map (fun t => AOp.extract t i) = some _ from hc)
    exact sound_extract s ha ho hy
  | range t a =>
    rw [ho] at hc
    replace hc : cRange P t a = some x := hc
    unfold cRange at hc
    split at hc
    · rename_i kt et hd
      obtain ⟨y, hy, rfl⟩ := Option.map_eq_some_iff.1 hc
      exact sound_range s ha ho hd hy
    · cases hc
  | next a b =>
    rw [ho] at hc
    replace hc : cNext a b = some x := hc
    unfold cNext at hc
    split at hc
    · obtain ⟨y, hy, rfl⟩ := Option.map_eq_some_iff.1 hc
      exact sound_next s ha ho hy
    · cases hc
  | entry a =>
    rw [ho] at hc
    obtain ⟨y, hy, rfl⟩ := Option.map_eq_some_iff.1 (show (compOpd a).map AOp.entry = some _ from hc)
    exact sound_entry s ha ho hy
  | typeAssert a xt t ok =>
    rw [ho] at hc
    replace hc : cAssert P a xt t ok = some x := hc
    unfold cAssert at hc
    split at hc
    · cases hc
    · rename_i d hni hd
      split at hc
      · rename_i z ms a' hz hx hy
        cases hc
        exact sound_typeAssert s ha ho hd (fun m e => hni m (by rw [e])) hx hz hy
      · cases hc
    · cases hc
  | call c =>
    rw [ho] at hc
    replace hc : cCall P c = some x := hc
    unfold cCall at hc
    split at hc
    · rename_i f hcal
      split at hc
      · rename_i h1 h2; cases hc; exact sound_call ha ho hcal h1 h2
      · cases hc
    · rename_i b hcal
      unfold cBuiltin at hc
      split at hc
      · unfold cAppend at hc
        split at hc
        · rename_i x1 x2 t t' hargs htys
          split at hc
          · rename_i e e' hd hd'
            split at hc
            · rename_i h1 h2 h3 h4 h5
              split at hc
              · cases hc
              · rename_i hn
                simp only [not_or] at hn
                cases hc
                exact sound_append s ha ho hcal hargs htys hd hd' h1 h2 h3 hn.1 (Decidable.not_not.1 hn.2.2) h4 h5
            · cases hc
          · cases hc
        · cases hc
      · unfold cLen at hc
        split at hc
        · rename_i x1 t hargs htys
          split at hc
          · rename_i e hd
            obtain ⟨y, hy, rfl⟩ := Option.map_eq_some_iff.1 hc
            exact sound_lenSlice s ha ho hcal hargs htys hd hy
          · rename_i kt et hd
            obtain ⟨y, hy, rfl⟩ := Option.map_eq_some_iff.1 hc
            exact sound_lenMap s ha ho hcal hargs htys hd hy
          · cases hc
        · cases hc
      · unfold cDelete at hc
        split at hc
        · rename_i x1 x2 t t' hargs htys
          split at hc
          · rename_i kt et hd
            split at hc
            · rename_i h1 h2 h3; cases hc; exact sound_delete s ha ho hcal hargs htys hd h1 h2 h3
            · cases hc
          · cases hc
        · cases hc
      · unfold cMin at hc
        split at hc
        · rename_i x1 x2 hargs
          split at hc
          · rename_i h1 h2; cases hc; exact sound_min s ha ho hcal hargs h1 h2
          · cases hc
        · cases hc
      · split at hc
        · cases hc; trivial
        · cases hc
      · cases hc
    · cases hc
  | defer c =>
    rw [ho] at hc
    replace hc : cDefer c = some x := hc
    unfold cDefer at hc
    split at hc
    · rename_i f hcal
      split at hc
      · rename_i h1 h2; cases hc; exact sound_defer ha ho hcal h1 h2
      · cases hc
    · cases hc
  | panic a =>
    rw [ho] at hc
    obtain ⟨y, hy, rfl⟩ := Option.map_eq_some_iff.1 (show (compOpd a).map AOp.panic = some _ from hc)
    exact sound_panic ha ho hy
  | _ => rw [ho] at hc; cases hc
end Go.Am
