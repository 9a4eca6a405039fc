/-
  Part of the proofs about the heap: an abstract memory, its compiled code, and the contracts of the functions over it.
  Conditions: each theorem names its own.
-/
import Derived.Below
import Derived.Calls
import Derived.Laws.Small
set_option linter.unusedSimpArgs false
set_option linter.unusedVariables false
/-
  THE ABSTRACT MEMORY: values and blocks without addresses' numbers, capacities and draws; when a world is told by such a memory ('Sim'); what stores, new blocks and draws do to that.
-/
namespace Go.Am
open Go.RowKit

/-- Where an abstract block lies: the concrete block, its first cell, and how many cells are its own. -/
structure Loc where
  blk : Nat
  off : Nat
  room : Nat

abbrev Emb := Nat → Option Loc

inductive AV where
  | bool (b : Bool)
  | int (k : IntKind) (n : Int)
  | str (s : List Nat)
  | ptr (p : Option (Nat × Nat))
  | slice (p : Option (Nat × Nat)) (sz len cap : Nat) (exact : Bool)
  | map (r : Option Nat)
  | func (fn : Fn) (first captured : List AV)
  | yld (b : Nat)
  | nilFunc
  | iface (t : TypeId) (v : AV)
  | nilIface
  | agg (cs : List AV)
  | tuple (vs : List AV)
  deriving Inhabited

def AV.oneCell : AV → Bool
  | .agg _ | .tuple _ => false
  | _ => true

def AV.cells : AV → List AV
  | .agg cs => cs
  | v => [v]

def undefA : AV := .tuple []

mutual
inductive VRel (ι : Emb) : AV → Value → Prop
  | bool (b : Bool) : VRel ι (.bool b) (.bool b)
  | int (k : IntKind) (n : Int) : VRel ι (.int k n) (.int k n)
  | str (l : List Nat) (s : ByteArray) (h : l = s.data.toList.map UInt8.toNat) : VRel ι (.str l) (.string s)
  | ptrNone : VRel ι (.ptr none) (.pointer none)
  | ptr (b o : Nat) (L : Loc) (h : ι b = some L) : VRel ι (.ptr (some (b, o))) (.pointer (some ⟨L.blk, L.off + o, none⟩))
  | sliceNone (sz : Nat) (ex : Bool) : VRel ι (.slice none sz 0 0 ex) (.slice none 0 0)
  | slice (b o sz len cap : Nat) (ex : Bool) (L : Loc) (h : ι b = some L) (a : Addr) (C : Nat) (hl : len ≤ cap) (hc : cap ≤ C) (hex : ex = true → C = cap)
      (ha : 0 < C → a = ⟨L.blk, L.off + o, none⟩ ∧ o + C * sz ≤ L.room) : VRel ι (.slice (some (b, o)) sz len cap ex) (.slice (some a) len C)
  | mapNone : VRel ι (.map none) (.map none)
  | map (b : Nat) (L : Loc) (h : ι b = some L) : VRel ι (.map (some b)) (.map (some L.blk))
  | func (fn : Fn) (f c : List AV) (f' c' : Array Value) (hf : VsRel ι f f'.toList) (hc : VsRel ι c c'.toList) : VRel ι (.func fn f c) (.func fn f' c')
  | yld (b : Nat) (L : Loc) (h : ι b = some L) : VRel ι (.yld b) (.func (.yield L.blk) #[] #[])
  | nilFunc : VRel ι .nilFunc .nilFunc
  | iface (t : TypeId) (v : AV) (v' : Value) (h : VRel ι v v') : VRel ι (.iface t v) (.iface t v')
  | nilIface : VRel ι .nilIface .nilIface
  | agg (l : List AV) (a : Array Value) (h : VsRel ι l a.toList) : VRel ι (.agg l) (.agg a)
  | tuple (l : List AV) (a : Array Value) (h : VsRel ι l a.toList) : VRel ι (.tuple l) (.tuple a)
inductive VsRel (ι : Emb) : List AV → List Value → Prop
  | nil : VsRel ι [] []
  | cons (v : AV) (v' : Value) (l : List AV) (l' : List Value) (h : VRel ι v v') (hs : VsRel ι l l') : VsRel ι (v :: l) (v' :: l')
end

def Ext (ι ι' : Emb) : Prop := ∀ b L, ι b = some L → ι' b = some L
theorem Ext.refl (ι : Emb) : Ext ι ι := fun _ _ h => h
theorem Ext.trans {ι ι' ι'' : Emb} (h : Ext ι ι') (h' : Ext ι' ι'') : Ext ι ι'' := fun _ _ e => h' _ _ (h _ _ e)

mutual
theorem VRel.ext {ι ι' : Emb} (e : Ext ι ι') : ∀ {v : AV} {v' : Value}, VRel ι v v' → VRel ι' v v'
  | _, _, .bool b => .bool b
  | _, _, .int k n => .int k n
  | _, _, .str l s h => .str l s h
  | _, _, .ptrNone => .ptrNone
  | _, _, .ptr b o L h => .ptr b o L (e _ _ h)
  | _, _, .sliceNone sz ex => .sliceNone sz ex
  | _, _, .slice b o sz len cap ex L h a C hl hc hex ha => .slice b o sz len cap ex L (e _ _ h) a C hl hc hex ha
  | _, _, .mapNone => .mapNone
  | _, _, .map b L h => .map b L (e _ _ h)
  | _, _, .func fn f c f' c' hf hc => .func fn f c f' c' (hf.ext e) (hc.ext e)
  | _, _, .yld b L h => .yld b L (e _ _ h)
  | _, _, .nilFunc => .nilFunc
  | _, _, .iface t v v' h => .iface t v v' (h.ext e)
  | _, _, .nilIface => .nilIface
  | _, _, .agg l a h => .agg l a (h.ext e)
  | _, _, .tuple l a h => .tuple l a (h.ext e)
theorem VsRel.ext {ι ι' : Emb} (e : Ext ι ι') : ∀ {v : List AV} {v' : List Value}, VsRel ι v v' → VsRel ι' v v'
  | _, _, .nil => .nil
  | _, _, .cons v v' l l' h hs => .cons v v' l l' (h.ext e) (hs.ext e)
end

theorem VsRel.length {ι : Emb} : ∀ {l : List AV} {l' : List Value}, VsRel ι l l' → l.length = l'.length
  | _, _, .nil => rfl
  | _, _, .cons _ _ _ _ _ hs => congrArg (· + 1) hs.length
theorem VsRel.get {ι : Emb} : ∀ {l : List AV} {l' : List Value}, VsRel ι l l' → ∀ {i : Nat} {v : AV}, l[i]? = some v → ∃ v', l'[i]? = some v' ∧ VRel ι v v'
  | _, _, .nil, _, _, h => by simp at h
  | _, _, .cons v v' l l' h hs, 0, u, e => by
    simp at e; subst e; exact ⟨v', by simp, h⟩
  | _, _, .cons v v' l l' h hs, i + 1, u, e => by
    simp at e; obtain ⟨w, hw, hr⟩ := hs.get e; exact ⟨w, by simpa using hw, hr⟩
theorem VsRel.append {ι : Emb} : ∀ {l : List AV} {l' : List Value}, VsRel ι l l' → ∀ {m : List AV} {m' : List Value}, VsRel ι m m' → VsRel ι (l ++ m) (l' ++ m')
  | _, _, .nil, _, _, h => h
  | _, _, .cons v v' l l' h hs, _, _, hm => .cons v v' _ _ h (hs.append hm)
theorem VsRel.of_get {ι : Emb} : ∀ {l : List AV} {l' : List Value}, l.length = l'.length → (∀ (i : Nat) (v : AV), l[i]? = some v → ∃ v', l'[i]? = some v' ∧ VRel ι v v') → VsRel ι l l'
  | [], [], _, _ => .nil
  | [], _ :: _, h, _ => by simp at h
  | _ :: _, [], h, _ => by simp at h
  | v :: l, v' :: l', h, hg => by
    refine .cons v v' l l' ?_ (VsRel.of_get (by simpa using h) fun i u hu => ?_)
    · obtain ⟨u, hu, hr⟩ := hg 0 v (by simp)
      simp at hu; subst hu; exact hr
    · obtain ⟨u', hu', hr⟩ := hg (i + 1) u (by simpa using hu)
      exact ⟨u', by simpa using hu', hr⟩
theorem VsRel.take {ι : Emb} {l : List AV} {l' : List Value} (h : VsRel ι l l') (n : Nat) : VsRel ι (l.take n) (l'.take n) := by
  refine VsRel.of_get (by simp [h.length]) fun i v hv => ?_
  rw [List.getElem?_take] at hv ⊢
  split at hv
  · rename_i hi; rw [if_pos hi]; exact h.get hv
  · simp at hv
theorem VsRel.drop {ι : Emb} {l : List AV} {l' : List Value} (h : VsRel ι l l') (n : Nat) : VsRel ι (l.drop n) (l'.drop n) := by
  refine VsRel.of_get (by simp [h.length]) fun i v hv => ?_
  rw [List.getElem?_drop] at hv ⊢
  exact h.get hv
theorem VsRel.set {ι : Emb} {l : List AV} {l' : List Value} (h : VsRel ι l l') (n : Nat) {v : AV} {v' : Value} (hv : VRel ι v v') : VsRel ι (l.set n v) (l'.set n v') := by
  refine VsRel.of_get (by simp [h.length]) fun i u hu => ?_
  rw [List.getElem?_set] at hu ⊢
  split at hu
  · rename_i hi
    split at hu
    · rename_i hn; simp at hu; subst hu; rw [if_pos hi, if_pos (by rw [← h.length]; exact hn)]; exact ⟨v', rfl, hv⟩
    · simp at hu
  · rename_i hi; rw [if_neg hi]; exact h.get hu

/-- An entry of a map. -/
structure AEnt where
  key : AV
  val : AV
  born : Nat

inductive ABlk where
  | cells (cs : List AV) (ro : Bool)
  | map (es : List AEnt) (clock : Nat)
  | iter (m : Option Nat) (since : Nat) (seen : List Nat) (stepped : Nat)
  | siter (s : List Nat) (pos : Nat)
  | raw (o : Obj)
  | loop (st : LoopState) (pend : Option Code) (fn : FuncId) (tm : Nat → AV) (n : Nat) (ps : List Nat) (ca cb : Code)
  | dead

/-- Is it something that is no row of cells? -/
def ABlk.isObj : ABlk → Bool
  | .map .. | .iter .. | .siter .. | .raw .. | .loop .. => true
  | _ => false

def _root_.Go.Obj.isCells : Obj → Bool
  | .cells .. => true
  | _ => false

abbrev AHeap := Nat → Option ABlk

def AHeap.upd (h : AHeap) (b : Nat) (x : ABlk) : AHeap := fun c => if c = b then some x else h c
theorem AHeap.upd_same (h : AHeap) (b : Nat) (x : ABlk) : h.upd b x b = some x := by simp [AHeap.upd]
theorem AHeap.upd_other (h : AHeap) {b c : Nat} (x : ABlk) (e : c ≠ b) : h.upd b x c = h c := by simp [AHeap.upd, e]

structure EntRel (ι : Emb) (x : AEnt) (y : MapEntry) : Prop where
  key : VRel ι x.key y.key
  val : VRel ι x.val y.val
  born : x.born = y.born
inductive EsRel (ι : Emb) : List AEnt → List MapEntry → Prop
  | nil : EsRel ι [] []
  | cons (x : AEnt) (y : MapEntry) (l : List AEnt) (m : List MapEntry) (h : EntRel ι x y) (hs : EsRel ι l m) : EsRel ι (x :: l) (y :: m)
theorem EntRel.ext {ι ι' : Emb} (e : Ext ι ι') {x : AEnt} {y : MapEntry} (h : EntRel ι x y) : EntRel ι' x y := ⟨h.key.ext e, h.val.ext e, h.born⟩
theorem EsRel.ext {ι ι' : Emb} (e : Ext ι ι') {l : List AEnt} {m : List MapEntry} (h : EsRel ι l m) : EsRel ι' l m := by
  induction h with
  | nil => exact .nil
  | cons x y l m h _ ih => exact .cons x y l m (h.ext e) ih

/-- What lies at a place, told by a block of the abstract memory. -/
def BlkAt (N : Nat) (ι : Emb) (L : Loc) (w : World) : ABlk → Prop
  | .cells cs ro => cs.length ≤ L.room ∧ (L.blk < w.heap.size ∧ (ro = false → N ≤ L.blk)) ∧
      (∀ i, i < L.room → (w.cell? ⟨L.blk, L.off + i, none⟩).isSome = true ∧ (ro = false → w.frozen? ⟨L.blk, L.off + i, none⟩ = false)) ∧
      (∀ i v, cs[i]? = some v → ∃ cv, w.cell? ⟨L.blk, L.off + i, none⟩ = some cv ∧ VRel ι v cv)
  | .map es ck => N ≤ L.blk ∧ ∃ ces, w.heap[L.blk]? = some (.map ces ck) ∧ EsRel ι es ces.toList
  | .iter m since seen stepped => (N ≤ L.blk ∧ L.off = 0) ∧ ∃ cm seen', w.heap[L.blk]? = some (.mapIter cm since seen' stepped) ∧ seen = seen'.toList ∧
      (match m, cm with | none, none => True | some b, some r => ∃ L', ι b = some L' ∧ r = L'.blk | _, _ => False)
  | .siter s pos => (N ≤ L.blk ∧ L.off = 0) ∧ ∃ s', w.heap[L.blk]? = some (.stringIter s' pos) ∧ s = s'.data.toList.map UInt8.toNat
  | .loop st pend fn tm n ps ca cb => N ≤ L.blk ∧ ∃ r : Loop, w.heap[L.blk]? = some (.loop r) ∧ (r.state = st ∧ r.pending = pend ∧ r.fn = fn ∧ r.params = ps.toArray ∧ r.assign = ca ∧ r.body = cb ∧ r.tmps.size = n) ∧ ∀ t, VRel ι (tm t) (r.tmps.getD t undef)
  | .raw o => N ≤ L.blk ∧ o.isCells = false ∧ w.heap[L.blk]? = some o
  | .dead => True

/-- Do two blocks' places stand apart? -/
def ApartB (L : Loc) (L' : Loc) : ABlk → ABlk → Prop
  | .cells _ ro, .cells _ ro' => ro = true ∧ ro' = true ∨ L.blk ≠ L'.blk ∨ L.off + L.room ≤ L'.off ∨ L'.off + L'.room ≤ L.off
  | x, x' => x.isObj = true → x'.isObj = true → L.blk ≠ L'.blk

/-- The world is told by an abstract memory: whatever of it has a place, lies there. -/
structure Sim (N : Nat) (ι : Emb) (h : AHeap) (w : World) : Prop where
  size : N ≤ w.heap.size
  fin : ∃ m, ∀ b, m ≤ b → h b = none
  dom : ∀ b L, ι b = some L → ∃ x, h b = some x
  at_ : ∀ b L x, ι b = some L → h b = some x → BlkAt N ι L w x
  apart : ∀ b b' L L' x x', b ≠ b' → ι b = some L → ι b' = some L' → h b = some x → h b' = some x' → ApartB L L' x x'

theorem BlkAt.ext {N : Nat} {ι ι' : Emb} (e : Ext ι ι') {L : Loc} {w : World} {x : ABlk} (h : BlkAt N ι L w x) : BlkAt N ι' L w x := by
  cases x with
  | cells cs ro =>
    obtain ⟨h1, h2, h3, h4⟩ := h
    exact ⟨h1, h2, h3, fun i v hv => let ⟨cv, hc, hr⟩ := h4 i v hv; ⟨cv, hc, hr.ext e⟩⟩
  | map es ck => obtain ⟨h0, ces, h1, h2⟩ := h; exact ⟨h0, ces, h1, h2.ext e⟩
  | iter m s se st =>
    obtain ⟨h0, cm, se', h1, h2, h3⟩ := h
    refine ⟨h0, cm, se', h1, h2, ?_⟩
    cases m <;> cases cm <;> simp_all
    obtain ⟨L', hL, hr⟩ := h3
    exact ⟨L', e _ _ hL, hr⟩
  | siter s p => exact h
  | raw o => exact h
  | loop st pend fn tm n ps ca cb => obtain ⟨h0, r, h1, h2, h3⟩ := h; exact ⟨h0, r, h1, h2, fun t => (h3 t).ext e⟩
  | dead => trivial

/-- What lies there hangs on its concrete block alone. -/
theorem BlkAt.same {N : Nat} {ι : Emb} {L : Loc} {w w' : World} {x : ABlk} (hb : w'.heap[L.blk]? = w.heap[L.blk]?) (h : BlkAt N ι L w x) : BlkAt N ι L w' x := by
  cases x with
  | cells cs ro =>
    obtain ⟨h1, h2, h3, h4⟩ := h
    have hc : ∀ o, w'.cell? ⟨L.blk, o, none⟩ = w.cell? ⟨L.blk, o, none⟩ := fun o => World.cell?_of_block (w := w) hb
    have hf : ∀ o, w'.frozen? ⟨L.blk, o, none⟩ = w.frozen? ⟨L.blk, o, none⟩ := fun o => World.frozen?_of_block (w := w) hb
    have hs : L.blk < w'.heap.size := by
      have := Array.getElem?_eq_getElem h2.1
      rw [← hb] at this
      exact (Array.getElem?_eq_some_iff.1 this).1
    exact ⟨h1, ⟨hs, h2.2⟩, fun i hi => by rw [hc, hf]; exact h3 i hi, fun i v hv => by rw [hc]; exact h4 i v hv⟩
  | map es ck => unfold BlkAt at *; rw [hb]; exact h
  | iter m s se st => unfold BlkAt at *; rw [hb]; exact h
  | siter s p => unfold BlkAt at *; rw [hb]; exact h
  | raw o => unfold BlkAt at *; rw [hb]; exact h
  | loop st pend fn tm n ps ca cb => unfold BlkAt at *; rw [hb]; exact h
  | dead => trivial

/-- The block's number is one of the world's. -/
theorem BlkAt.lt {N : Nat} {ι : Emb} {L : Loc} {w : World} {x : ABlk} (h : BlkAt N ι L w x) : x = .dead ∨ L.blk < w.heap.size := by
  have key : ∀ {o : Obj}, w.heap[L.blk]? = some o → L.blk < w.heap.size := fun h => (Array.getElem?_eq_some_iff.1 h).1
  cases x with
  | cells cs ro => exact .inr h.2.1.1
  | map es ck => obtain ⟨_, ces, h1, _⟩ := h; exact .inr (key h1)
  | iter m s se st => obtain ⟨_, cm, se', h1, _⟩ := h; exact .inr (key h1)
  | siter s p => obtain ⟨_, s', h1, _⟩ := h; exact .inr (key h1)
  | raw o => exact .inr (key h.2.2)
  | loop st pend fn tm n ps ca cb => obtain ⟨_, r, h1, _⟩ := h; exact .inr (key h1)
  | dead => exact .inl rfl

theorem AHeap.fin_upd {h : AHeap} (hf : ∃ m, ∀ b, m ≤ b → h b = none) (b : Nat) (x : ABlk) : ∃ m, ∀ c, m ≤ c → (h.upd b x) c = none := by
  obtain ⟨m, hm⟩ := hf
  refine ⟨max m (b + 1), fun c hc => ?_⟩
  rw [AHeap.upd_other _ _ (by omega)]
  exact hm c (by omega)

/-- A world whose blocks are the same is told by the same memory. -/
theorem Sim.same {N : Nat} {ι : Emb} {h : AHeap} {w w' : World} (s : Sim N ι h w) (e : w'.heap = w.heap) : Sim N ι h w' :=
  ⟨by rw [e]; exact s.size, s.fin, s.dom, fun b L x hL hx => (s.at_ b L x hL hx).same (by rw [e]), s.apart⟩

/-- A block of which nothing is known any more. -/
theorem Sim.kill {N : Nat} {ι : Emb} {h : AHeap} {w : World} (s : Sim N ι h w) (b : Nat) : Sim N ι (h.upd b .dead) w := by
  refine ⟨s.size, AHeap.fin_upd s.fin _ _, fun c L hL => ?_, fun c L x hL hx => ?_, fun c c' L L' x x' hn hL hL' hx hx' => ?_⟩
  · by_cases e : c = b
    · exact ⟨_, by rw [e]; exact AHeap.upd_same _ _ _⟩
    · obtain ⟨x, hx⟩ := s.dom c L hL; exact ⟨x, by rw [AHeap.upd_other _ _ e]; exact hx⟩
  · by_cases e : c = b
    · subst e; rw [AHeap.upd_same] at hx; cases hx; trivial
    · rw [AHeap.upd_other _ _ e] at hx; exact s.at_ c L x hL hx
  · by_cases e : c = b
    · subst e; rw [AHeap.upd_same] at hx; cases hx; exact fun hc => by simp [ABlk.isObj] at hc
    · rw [AHeap.upd_other _ _ e] at hx
      by_cases e' : c' = b
      · subst e'; rw [AHeap.upd_same] at hx'; cases hx'; cases x <;> exact fun _ hc => by simp [ABlk.isObj] at hc
      · rw [AHeap.upd_other _ _ e'] at hx'; exact s.apart c c' L L' x x' hn hL hL' hx hx'

end Go.Am
/-
  WHAT NEW BLOCKS, STORES AND CHANGES OF A MAP DO TO A WORLD THAT IS TOLD BY AN ABSTRACT MEMORY.
-/
namespace Go.Am
open Go.RowKit

def Emb.upd (ι : Emb) (b : Nat) (L : Loc) : Emb := fun c => if c = b then some L else ι c
theorem Emb.upd_same (ι : Emb) (b : Nat) (L : Loc) : ι.upd b L b = some L := by simp [Emb.upd]
theorem Emb.upd_other (ι : Emb) {b c : Nat} (L : Loc) (e : c ≠ b) : ι.upd b L c = ι c := by simp [Emb.upd, e]
theorem Emb.ext_upd {ι : Emb} {b : Nat} {L : Loc} (h : ι b = none) : Ext ι (ι.upd b L) := fun c M hc => by
  by_cases e : c = b
  · subst e; rw [h] at hc; cases hc
  · rw [Emb.upd_other _ _ e]; exact hc
theorem Sim.fresh {N : Nat} {ι : Emb} {h : AHeap} {w : World} (s : Sim N ι h w) {b : Nat} (hb : h b = none) : ι b = none := by
  cases hi : ι b with
  | none => rfl
  | some L => obtain ⟨x, hx⟩ := s.dom b L hi; rw [hb] at hx; cases hx
theorem AHeap.upd_upd (h : AHeap) (b : Nat) (x y : ABlk) : (h.upd b x).upd b y = h.upd b y := by
  funext c; unfold AHeap.upd; by_cases e : c = b <;> simp [e]

theorem ApartB.symm {L L' : Loc} {x x' : ABlk} (h : ApartB L L' x x') : ApartB L' L x' x := by
  cases x <;> cases x' <;> first
    | exact fun a b e => h b a e.symm
    | (rcases h with ⟨h, k⟩ | h | h | h
       · exact .inl ⟨k, h⟩
       · exact .inr (.inl fun e => h e.symm)
       · exact .inr (.inr (.inr h))
       · exact .inr (.inr (.inl h)))

/-- Blocks of different numbers stand apart. -/
theorem ApartB.of_blk {L L' : Loc} {x x' : ABlk} (h : L.blk ≠ L'.blk) : ApartB L L' x x' := by
  cases x <;> cases x' <;> first | exact fun _ _ => h | exact .inr (.inl h)
theorem ApartB.dead {L L' : Loc} {x : ABlk} : ApartB L L' .dead x := fun h => by simp [ABlk.isObj] at h
/-- What is apart from a thing that is no row of cells, is apart from another such. -/
theorem ApartB.like {L L' : Loc} {x y z : ABlk} (hy : y.isObj = true) (hz : z.isObj = true) (h : ApartB L L' x y) : ApartB L L' x z := by
  cases y <;> cases z <;> simp [ABlk.isObj] at hy hz <;> cases x <;> first | exact fun a _ => h a rfl | exact fun a _ => by simp [ABlk.isObj] at a

/-- A new block. -/
theorem Sim.alloc {N : Nat} {ι : Emb} {h : AHeap} {w : World} (s : Sim N ι h w) (o : Obj) (b : Nat) (hb : h b = none) (room : Nat) (x : ABlk)
    (hat : BlkAt N (ι.upd b ⟨w.heap.size, 0, room⟩) ⟨w.heap.size, 0, room⟩ (w.alloc o) x) : Sim N (ι.upd b ⟨w.heap.size, 0, room⟩) (h.upd b x) (w.alloc o) := by
  have hι := s.fresh hb
  have hext : Ext ι (ι.upd b ⟨w.heap.size, 0, room⟩) := Emb.ext_upd hι
  have hold : ∀ k, k < w.heap.size → (w.alloc o).heap[k]? = w.heap[k]? := fun k hk => Below.heap_alloc w o k hk
  refine ⟨by have := s.size; simp; omega, AHeap.fin_upd s.fin _ _, fun c L hL => ?_, fun c L y hL hy => ?_, ?_⟩
  · by_cases e : c = b
    · exact ⟨_, by rw [e]; exact AHeap.upd_same _ _ _⟩
    · rw [Emb.upd_other _ _ e] at hL; obtain ⟨x, hx⟩ := s.dom c L hL; exact ⟨x, by rw [AHeap.upd_other _ _ e]; exact hx⟩
  · by_cases e : c = b
    · subst e; rw [Emb.upd_same] at hL; rw [AHeap.upd_same] at hy; cases hL; cases hy; exact hat
    · rw [Emb.upd_other _ _ e] at hL; rw [AHeap.upd_other _ _ e] at hy
      have h0 := s.at_ c L y hL hy
      rcases h0.lt with rfl | hlt
      · trivial
      · exact (h0.same (hold _ hlt)).ext hext
  · have key : ∀ c L y, c ≠ b → ι c = some L → h c = some y → ∀ M z, M.blk = w.heap.size → ApartB L M y z := by
      intro c L y _ hL hy M z hM
      have h0 := s.at_ c L y hL hy
      rcases h0.lt with rfl | hlt
      · exact .dead
      · exact .of_blk (by omega)
    intro c c' L L' y y' hn hL hL' hy hy'
    by_cases e : c = b
    · subst e
      rw [Emb.upd_same] at hL; cases hL
      have e' : c' ≠ c := fun e => hn e.symm
      rw [Emb.upd_other _ _ e'] at hL'; rw [AHeap.upd_other _ _ e'] at hy'
      exact (key c' L' y' e' hL' hy' _ _ rfl).symm
    · rw [Emb.upd_other _ _ e] at hL; rw [AHeap.upd_other _ _ e] at hy
      by_cases e' : c' = b
      · subst e'; rw [Emb.upd_same] at hL'; cases hL'; exact key c L y e hL hy _ _ rfl
      · rw [Emb.upd_other _ _ e'] at hL'; rw [AHeap.upd_other _ _ e'] at hy'; exact s.apart c c' L L' y y' hn hL hL' hy hy'

/-- The cells of one block's place are turned, all else is as it was. -/
theorem Sim.region {N : Nat} {ι : Emb} {h : AHeap} {w w' : World} (s : Sim N ι h w) {b : Nat} {L : Loc} {cs : List AV} (hL : ι b = some L) (hx : h b = some (.cells cs false))
    (hsz : w'.heap.size = w.heap.size) (hother : ∀ k, k ≠ L.blk → w'.heap[k]? = w.heap[k]?)
    (hobj : ∀ o, w.heap[L.blk]? = some o → (∀ c e f, o ≠ .cells c e f) → w'.heap[L.blk]? = some o)
    (hout : ∀ i, (i < L.off ∨ L.off + L.room ≤ i) → w'.cell? ⟨L.blk, i, none⟩ = w.cell? ⟨L.blk, i, none⟩)
    (hfro : ∀ i, w'.frozen? ⟨L.blk, i, none⟩ = w.frozen? ⟨L.blk, i, none⟩)
    (hsome : ∀ i, i < L.room → (w'.cell? ⟨L.blk, L.off + i, none⟩).isSome = true) (cs' : List AV) (hlen : cs'.length ≤ L.room)
    (hval : ∀ i v, cs'[i]? = some v → ∃ cv, w'.cell? ⟨L.blk, L.off + i, none⟩ = some cv ∧ VRel ι v cv) : Sim N ι (h.upd b (.cells cs' false)) w' := by
  have h0 := s.at_ b L _ hL hx
  obtain ⟨g1, g2, g3, g4⟩ := h0
  refine ⟨by rw [hsz]; exact s.size, AHeap.fin_upd s.fin _ _, fun c M hM => ?_, fun c M y hM hy => ?_, ?_⟩
  · by_cases e : c = b
    · exact ⟨_, by rw [e]; exact AHeap.upd_same _ _ _⟩
    · obtain ⟨x, hx⟩ := s.dom c M hM; exact ⟨x, by rw [AHeap.upd_other _ _ e]; exact hx⟩
  · by_cases e : c = b
    · subst e
      rw [AHeap.upd_same] at hy; cases hy
      rw [hL] at hM; cases hM
      exact ⟨hlen, ⟨by rw [hsz]; exact g2.1, g2.2⟩, fun i hi => ⟨hsome i hi, fun hr => by rw [hfro]; exact (g3 i hi).2 hr⟩, hval⟩
    · rw [AHeap.upd_other _ _ e] at hy
      have k0 := s.at_ c M y hM hy
      by_cases hb : M.blk = L.blk
      · cases y with
        | cells ds ro =>
          have ha := s.apart c b M L _ _ e hM hL hy hx
          simp only [ApartB] at ha
          obtain ⟨k1, k2, k3, k4⟩ := k0
          have hcell : ∀ i, i < M.room → w'.cell? ⟨M.blk, M.off + i, none⟩ = w.cell? ⟨M.blk, M.off + i, none⟩ := by
            intro i hi
            rw [hb]
            refine hout _ ?_
            rcases ha with ⟨_, ha⟩ | ha | ha | ha
            · cases ha
            · exact absurd hb ha
            · omega
            · omega
          refine ⟨k1, ⟨by rw [hsz]; exact k2.1, k2.2⟩, fun i hi => ⟨by rw [hcell i hi]; exact (k3 i hi).1, fun hr => by rw [hb, hfro, ← hb]; exact (k3 i hi).2 hr⟩, fun i v hv => ?_⟩
          have hi : i < M.room := by have := (List.getElem?_eq_some_iff.1 hv).1; omega
          rw [hcell i hi]; exact k4 i v hv
        | map es ck => obtain ⟨k0, ces, k1, k2⟩ := k0; exact ⟨k0, ces, by rw [hb]; exact hobj _ (hb ▸ k1) (by simp), k2⟩
        | iter m s se st => obtain ⟨k0, cm, se', k1, k2⟩ := k0; exact ⟨k0, cm, se', by rw [hb]; exact hobj _ (hb ▸ k1) (by simp), k2⟩
        | siter s p => obtain ⟨k0, s', k1, k2⟩ := k0; exact ⟨k0, s', by rw [hb]; exact hobj _ (hb ▸ k1) (by simp), k2⟩
        | raw o => obtain ⟨k0, k1, k2⟩ := k0; exact ⟨k0, k1, by rw [hb]; exact hobj _ (hb ▸ k2) (fun c e f h => by subst h; simp [Obj.isCells] at k1)⟩
        | loop st pend fn tm n ps ca cb => obtain ⟨k0, r, k1, k2⟩ := k0; exact ⟨k0, r, by rw [hb]; exact hobj _ (hb ▸ k1) (by simp), k2⟩
        | dead => trivial
      · exact k0.same (hother _ hb)
  · have conv : ∀ c y, (h.upd b (.cells cs' false)) c = some y → ∃ z, h c = some z ∧ ∀ M M' u, ApartB M M' z u → ApartB M M' y u := by
      intro c y hy
      by_cases e : c = b
      · subst e; rw [AHeap.upd_same] at hy; cases hy
        exact ⟨_, hx, fun M M' u hu => by cases u <;> first | exact hu | exact fun a _ => by simp [ABlk.isObj] at a⟩
      · rw [AHeap.upd_other _ _ e] at hy; exact ⟨y, hy, fun _ _ _ hu => hu⟩
    intro c c' M M' y y' hn hM hM' hy hy'
    obtain ⟨z, hz, kz⟩ := conv c y hy
    obtain ⟨z', hz', kz'⟩ := conv c' y' hy'
    exact kz _ _ _ (kz' _ _ _ (s.apart c c' M M' z z' hn hM hM' hz hz').symm).symm

/-- A block's place, or a part of it, goes over to a new block; of the old one nothing is known any more. -/
theorem Sim.move {N : Nat} {ι : Emb} {h : AHeap} {w : World} (s : Sim N ι h w) {b : Nat} {L : Loc} {cs : List AV} (hL : ι b = some L) (hx : h b = some (.cells cs false))
    (b' : Nat) (hb' : h b' = none) (L' : Loc) (h1 : L'.blk = L.blk) (h2 : L.off ≤ L'.off) (h3 : L'.off + L'.room ≤ L.off + L.room) (cs' : List AV) (hlen : cs'.length ≤ L'.room)
    (hval : ∀ i v, cs'[i]? = some v → ∃ cv, w.cell? ⟨L'.blk, L'.off + i, none⟩ = some cv ∧ VRel ι v cv) :
    Sim N (ι.upd b' L') ((h.upd b .dead).upd b' (.cells cs' false)) w := by
  have hι := s.fresh hb'
  have hext : Ext ι (ι.upd b' L') := Emb.ext_upd hι
  have hbb : b ≠ b' := fun e => by subst e; rw [hb'] at hx; cases hx
  have h0 := s.at_ b L _ hL hx
  obtain ⟨g1, g2, g3, g4⟩ := h0
  have k := s.kill b
  have hold : ∀ c y, c ≠ b' → ((h.upd b .dead).upd b' (.cells cs' false)) c = some y → (h.upd b .dead) c = some y := fun c y e hy => by rwa [AHeap.upd_other _ _ e] at hy
  have key : ∀ c M y, c ≠ b' → ι c = some M → (h.upd b .dead) c = some y → ApartB M L' y (.cells cs' false) := by
    intro c M y e hM hy
    by_cases ec : c = b
    · subst ec; rw [AHeap.upd_same] at hy; cases hy; exact .dead
    · rw [AHeap.upd_other _ _ ec] at hy
      have := s.apart c b M L y _ ec hM hL hy hx
      cases y with
      | cells ds ro =>
        rcases this with ⟨_, h⟩ | h | h | h
        · cases h
        · exact .inr (.inl (by rw [h1]; exact h))
        · exact .inr (.inr (.inl (by omega)))
        · exact .inr (.inr (.inr (by omega)))
      | _ => exact fun _ hc => by simp [ABlk.isObj] at hc
  refine ⟨s.size, AHeap.fin_upd (AHeap.fin_upd s.fin _ _) _ _, fun c M hM => ?_, fun c M y hM hy => ?_, ?_⟩
  · by_cases e : c = b'
    · exact ⟨_, by rw [e]; exact AHeap.upd_same _ _ _⟩
    · rw [Emb.upd_other _ _ e] at hM; obtain ⟨x, hx⟩ := k.dom c M hM; exact ⟨x, by rw [AHeap.upd_other _ _ e]; exact hx⟩
  · by_cases e : c = b'
    · subst e; rw [AHeap.upd_same] at hy; cases hy; rw [Emb.upd_same] at hM; cases hM
      refine ⟨hlen, ⟨by rw [h1]; exact g2.1, fun hr => by rw [h1]; exact g2.2 hr⟩, fun i hi => ?_, fun i v hv => let ⟨cv, a, r⟩ := hval i v hv; ⟨cv, a, r.ext hext⟩⟩
      have := g3 (L'.off - L.off + i) (by omega)
      rw [show L.off + (L'.off - L.off + i) = L'.off + i by omega, ← h1] at this
      exact this
    · rw [Emb.upd_other _ _ e] at hM; exact (k.at_ c M y hM (hold c y e hy)).ext hext
  · intro c c' M M' y y' hn hM hM' hy hy'
    by_cases e : c = b'
    · subst e
      have e' : c' ≠ c := fun e => hn e.symm
      rw [Emb.upd_same] at hM; cases hM; rw [AHeap.upd_same] at hy; cases hy
      rw [Emb.upd_other _ _ e'] at hM'
      exact (key c' M' y' e' hM' (hold c' y' e' hy')).symm
    · rw [Emb.upd_other _ _ e] at hM
      by_cases e' : c' = b'
      · subst e'; rw [Emb.upd_same] at hM'; cases hM'; rw [AHeap.upd_same] at hy'; cases hy'
        exact key c M y e hM (hold c y e hy)
      · rw [Emb.upd_other _ _ e'] at hM'
        exact k.apart c c' M M' y y' hn hM hM' (hold c y e hy) (hold c' y' e' hy')

/-- What lies behind a number that is no row of cells (a map, an iterator) is turned. -/
theorem Sim.setObj {N : Nat} {ι : Emb} {h : AHeap} {w : World} (s : Sim N ι h w) {b : Nat} {L : Loc} {x x' : ABlk} (hL : ι b = some L) (hx : h b = some x) (o : Obj)
    (hk : x.isObj = true) (hk' : x'.isObj = true) (hat : BlkAt N ι L { w with heap := w.heap.setIfInBounds L.blk o } x') :
    Sim N ι (h.upd b x') { w with heap := w.heap.setIfInBounds L.blk o } := by
  have hother : ∀ k, k ≠ L.blk → (w.heap.setIfInBounds L.blk o)[k]? = w.heap[k]? := fun k hk => by rw [Array.getElem?_setIfInBounds_ne (fun e => hk e.symm)]
  have hsz : (w.heap.setIfInBounds L.blk o).size = w.heap.size := by simp
  have hkind : ∃ o', w.heap[L.blk]? = some o' ∧ ∀ c e f, o' ≠ .cells c e f := by
    have h0 := s.at_ b L x hL hx
    cases x with
    | cells cs ro => simp [ABlk.isObj] at hk
    | dead => simp [ABlk.isObj] at hk
    | map es ck => obtain ⟨_, ces, k1, _⟩ := h0; exact ⟨_, k1, by simp⟩
    | iter m a c d => obtain ⟨_, cm, se', k1, _⟩ := h0; exact ⟨_, k1, by simp⟩
    | siter a p => obtain ⟨_, s', k1, _⟩ := h0; exact ⟨_, k1, by simp⟩
    | raw o => obtain ⟨_, k1, k2⟩ := h0; exact ⟨_, k2, fun c e f h => by subst h; simp [Obj.isCells] at k1⟩
    | loop st pend fn tm n ps ca cb => obtain ⟨_, r, k1, _⟩ := h0; exact ⟨_, k1, by simp⟩
  obtain ⟨o', ho', hnc⟩ := hkind
  have hnocell : ∀ i, w.cell? ⟨L.blk, i, none⟩ = none := fun i => by
    unfold World.cell?; simp only [ho']; cases o' <;> first | rfl | exact absurd rfl (hnc _ _ _)
  refine ⟨by show N ≤ (w.heap.setIfInBounds L.blk o).size; rw [hsz]; exact s.size, AHeap.fin_upd s.fin _ _, fun c M hM => ?_, fun c M y hM hy => ?_, ?_⟩
  · by_cases e : c = b
    · exact ⟨_, by rw [e]; exact AHeap.upd_same _ _ _⟩
    · obtain ⟨x, hx⟩ := s.dom c M hM; exact ⟨x, by rw [AHeap.upd_other _ _ e]; exact hx⟩
  · by_cases e : c = b
    · subst e; rw [AHeap.upd_same] at hy; cases hy; rw [hL] at hM; cases hM; exact hat
    · rw [AHeap.upd_other _ _ e] at hy
      have h1 := s.at_ c M y hM hy
      by_cases hb : M.blk = L.blk
      · have h2 := s.apart c b M L y x e hM hL hy hx
        cases y with
        | cells ds ro =>
          obtain ⟨k1, k2, k3, k4⟩ := h1
          have hr : M.room = 0 := by
            rcases Nat.eq_zero_or_pos M.room with hr | hr
            · exact hr
            · have := (k3 0 hr).1; rw [hb, hnocell] at this; simp at this
          refine ⟨k1, ⟨by show M.blk < (w.heap.setIfInBounds L.blk o).size; rw [hsz]; exact k2.1, k2.2⟩, fun i hi => by omega, fun i v hv => ?_⟩
          have := (List.getElem?_eq_some_iff.1 hv).1; omega
        | dead => trivial
        | _ => cases x <;> first | (simp [ABlk.isObj] at hk; done) | exact absurd hb (h2 rfl rfl)
      · exact h1.same (hother _ hb)
  · intro c c' M M' y y' hn hM hM' hy hy'
    by_cases e : c = b
    · subst e
      have e' : c' ≠ c := fun e => hn e.symm
      rw [AHeap.upd_same] at hy; cases hy; rw [hL] at hM; cases hM
      rw [AHeap.upd_other _ _ e'] at hy'
      exact ((s.apart c' c M' L y' x e' hM' hL hy' hx).like hk hk').symm
    · rw [AHeap.upd_other _ _ e] at hy
      by_cases e' : c' = b
      · subst e'; rw [AHeap.upd_same] at hy'; cases hy'; rw [hL] at hM'; cases hM'
        exact (s.apart c c' M L y x e hM hL hy hx).like hk hk'
      · rw [AHeap.upd_other _ _ e'] at hy'; exact s.apart c c' M M' y y' hn hM hM' hy hy'

end Go.Am
/-
  CODE IN A FRAME, WHETHER OR NOT IT IS A ROUND OF A LOOP OVER A FUNCTION: where it comes to. (After Derived/Control.lean, Calls.lean, with the frame's round kept.)
-/
namespace Go.Am
open Go.RowKit

def atR (b : Frame) (a : Act) (todo : List Item) : Frame :=
  { fn := b.fn, tmps := a.tmps, todo, defers := a.defers, mode := .run, kind := b.kind, roundOf := b.roundOf }
theorem eval_atR (b : Frame) (a : Act) (todo : List Item) (x : Operand) : (atR b a todo).eval x = a.eval x := by cases x <;> rfl
theorem evalF_atR (b : Frame) (a : Act) (todo : List Item) : (atR b a todo).eval = a.eval := funext (eval_atR b a todo)

/-- How code ends: on its way to a place, about to leave by a jump, or by a panic. -/
inductive Ex where
  | normal
  | exit (id : Nat)
  | ret
  | panic (chain : List PanicEntry)

def Arr (P : Program) (m : Machine) (b : Frame) (k : List Item) (cs : List Frame) : Ex → Act → World → Prop
  | .normal, a, w => Steps P m (lone (atR b a k) cs w)
  | .exit id, a, w => ∃ todo, exitTo id todo = exitTo id k ∧ Steps P m (lone (atR b a (.code (.exit id) :: todo)) cs w)
  | .ret, a, w => ∃ todo, Steps P m (lone (atR b a (.code .ret :: todo)) cs w)
  | .panic chain, a, w => ∃ todo, Steps P m (lone { atR b a todo with mode := .panicking chain } cs w)

theorem Arr.of_steps {P : Program} {m m₁ : Machine} {b : Frame} {k : List Item} {cs : List Frame} {e : Ex} {a : Act} {w : World}
    (h : Steps P m m₁) (h' : Arr P m₁ b k cs e a w) : Arr P m b k cs e a w := by
  cases e with
  | normal => exact h.trans h'
  | exit id => obtain ⟨todo, ht, hs⟩ := h'; exact ⟨todo, ht, h.trans hs⟩
  | ret => obtain ⟨todo, hs⟩ := h'; exact ⟨todo, h.trans hs⟩
  | panic chain => obtain ⟨todo, hs⟩ := h'; exact ⟨todo, h.trans hs⟩

/-- What passes an item that is no block's end. -/
theorem Arr.pass {P : Program} {m : Machine} {b : Frame} {x : Item} {k : List Item} {cs : List Frame} {e : Ex} {a : Act} {w : World}
    (hx : x.plain = true) (he : e ≠ .normal) (h : Arr P m b (x :: k) cs e a w) : Arr P m b k cs e a w := by
  cases e with
  | normal => exact absurd rfl he
  | exit id =>
    obtain ⟨todo, ht, hs⟩ := h
    exact ⟨todo, by rw [ht]; cases x <;> simp_all [exitTo, Item.plain], hs⟩
  | ret => exact h
  | panic chain => exact h

section moves
variable {P : Program} {b : Frame} {a : Act} {k : List Item} {cs : List Frame} {w : World}
theorem mv_skip : step P (lone (atR b a (.code .skip :: k)) cs w) = .next (lone (atR b a k) cs w) :=
  step_lone_go (by simp [stepG, stepG.exec, atR])
theorem mv_label {l : Nat} : step P (lone (atR b a (.code (.label l) :: k)) cs w) = .next (lone (atR b a k) cs w) :=
  step_lone_go (by simp [stepG, stepG.exec, atR])
theorem mv_inBlock {id : Nat} : step P (lone (atR b a (.inBlock id :: k)) cs w) = .next (lone (atR b a k) cs w) :=
  step_lone_go (by simp [stepG, stepG.exec, atR])
theorem mv_inScope {c : Code} : step P (lone (atR b a (.inScope c :: k)) cs w) = .next (lone (atR b a k) cs w) :=
  step_lone_go (by simp [stepG, stepG.exec, atR])
theorem mv_seq {x y : Code} : step P (lone (atR b a (.code (.seq x y) :: k)) cs w) = .next (lone (atR b a (.code x :: .code y :: k)) cs w) :=
  step_lone_go (by simp [stepG, stepG.exec, atR])
theorem mv_scope {x : Code} : step P (lone (atR b a (.code (.scope x) :: k)) cs w) = .next (lone (atR b a (.code x :: .inScope x :: k)) cs w) :=
  step_lone_go (by simp [stepG, stepG.exec, atR])
theorem mv_cond {c : Operand} {x y : Code} {t : Bool} (h : a.eval c = .bool t) :
    step P (lone (atR b a (.code (.cond c x y) :: k)) cs w) = .next (lone (atR b a (.code (if t then x else y) :: k)) cs w) :=
  step_lone_go (by
    have := eval_atR b a (.code (.cond c x y) :: k) c
    simp only [atR] at this
    simp [stepG, stepG.exec, atR, this, h])
theorem mv_block {id : Nat} {c : Code} : step P (lone (atR b a (.code (.block id c) :: k)) cs w) = .next (lone (atR b a (.code c :: .inBlock id :: k)) cs w) :=
  step_lone_go (by simp [stepG, stepG.exec, atR])
theorem mv_loop {c : Code} : step P (lone (atR b a (.code (.loop c) :: k)) cs w) = .next (lone (atR b a (.code c :: .inLoop c :: k)) cs w) :=
  step_lone_go (by simp [stepG, stepG.exec, atR])
theorem mv_inLoop {c : Code} : step P (lone (atR b a (.inLoop c :: k)) cs w) = .next (lone (atR b a (.code c :: .inLoop c :: k)) cs w) :=
  step_lone_go (by simp [stepG, stepG.exec, atR])
theorem mv_exit {id : Nat} {k' : List Item} (h : exitTo id k = some k') : step P (lone (atR b a (.code (.exit id) :: k)) cs w) = .next (lone (atR b a k') cs w) :=
  step_lone_go (by simp [stepG, stepG.exec, atR, h])
theorem mv_ret (hr : b.roundOf = none) : step P (lone (atR b a (.code .ret :: k)) cs w) = .next (lone { atR b a (.code .ret :: k) with mode := .returning } cs w) :=
  step_lone_go (by simp [stepG, stepG.exec, atR, hr])
theorem mv_end (hr : b.roundOf = none) : step P (lone (atR b a []) cs w) = .next (lone { atR b a [] with mode := .returning } cs w) :=
  step_lone_go (by simp [stepG, stepG.exec, atR, hr])
theorem mv_region {id : Nat} {ops : Array Oper} :
    step P (lone (atR b a (.code (.region id ops false) :: k)) cs w) = .next (lone (atR b a (.inRegion ops (List.range ops.size) :: k)) cs w) :=
  step_lone_go (by simp [stepG, stepG.exec, atR])
theorem mv_region_draw {id : Nat} {ops : Array Oper} :
    step P (lone (atR b a (.code (.region id ops true) :: k)) cs w) =
      .next (lone (atR b a (.inRegion ops (Region.schedule (P.follows .mixedOrders) ops (w.tape w.drawn (.order b.fn id))) :: k)) cs { w with drawn := w.drawn + 1 }) :=
  step_lone_go (by simp [stepG, stepG.exec, atR, choose, Sem.run, Question.forced, Question.cut])
theorem mv_region_end {ops : Array Oper} : step P (lone (atR b a (.inRegion ops [] :: k)) cs w) = .next (lone (atR b a k) cs w) :=
  step_lone_go (by simp [stepG, stepG.exec, atR])
theorem finish_atR (ops : Array Oper) (i : Nat) (rest : List Nat) (v : Value) :
    (atR b a (.inRegion ops (i :: rest) :: k)).finish v = atR b (a.put ((ops[i]?).bind (·.dst)) v) (.inRegion ops rest :: k) := by
  cases h : (ops[i]?).bind (·.dst) <;> simp [Frame.finish, atR, Act.put, h]
theorem mv_op_skip {ops : Array Oper} {i : Nat} {rest : List Nat} (h : ((ops[i]?).map (Region.wanted · (yielded ops a.tmps))).getD false = false) :
    step P (lone (atR b a (.inRegion ops (i :: rest) :: k)) cs w) =
      .next (lone (atR b (a.put ((ops[i]?).bind (·.dst)) undef) (.inRegion ops rest :: k)) cs w) := by
  rw [← finish_atR]
  exact step_lone_go (by
    have h' := h
    simp only [atR] at *
    simp [stepG, stepG.exec, h'])
/-- An operation of a frame, other than a 'defer' in a round. -/
theorem stepG_opR {ops : Array Oper} {i : Nat} {rest : List Nat} {o : Oper} (ho : ops[i]? = some o) (hw : Region.wanted o (yielded ops a.tmps) = true)
    (hd : b.roundOf = none ∨ ∀ c, o.op ≠ .defer c) :
    stepG P true { frame := atR b a (.inRegion ops (i :: rest) :: k), callers := cs, status := .running, dying := none } w =
      stepG.apply P true (atR b a (.inRegion ops (i :: rest) :: k)) cs none (execOp a.eval o) w := by
  have he := evalF_atR b a (.inRegion ops (i :: rest) :: k)
  simp only [atR] at he
  simp only [stepG, stepG.exec, stepG.oper, Frame.oper?, atR, ho, hw, Option.map_some, Option.getD_some, if_true]
  cases hr : b.roundOf with
  | none => simp [hr] at he; simp [he]
  | some l =>
    rcases hd with hd | hd
    · rw [hr] at hd; cases hd
    · simp only [hr] at he
      cases hop : o.op <;> first | exact absurd hop (hd _) | simp [he]
end moves

/-- What a callee's frame comes to above a caller. -/
def Runs (P : Program) (fr : Frame) (w : World) (R : Ending → World → Prop) : Prop :=
  ∀ (c : Frame) (cs : List Frame), ∃ e w', R e w' ∧ match e with
    | .returned v => Steps P (lone fr (c :: cs) w) (lone (c.finish v) cs w')
    | .panicked chain => Steps P (lone fr (c :: cs) w) (lone (c.raise chain) cs w')
    | .outgrown => False

theorem Runs.of_calls {P : Program} {f : FuncId} {args : Array Value} {w : World} {R : Ending → World → Prop} (h : Calls P f args w R) (hR : ∀ w', ¬ R .outgrown w') :
    Runs P (Frame.enter P f args .normal) w R := by
  intro c cs
  obtain ⟨e, w', fr, hr, hsteps, _, hleave⟩ := h (c :: cs)
  refine ⟨e, w', hr, ?_⟩
  cases e with
  | returned v => exact Steps.trans hsteps (.one (step_leave_returned hleave))
  | panicked chain => exact Steps.trans hsteps (.one (step_leave_panicked hleave))
  | outgrown => exact hR _ hr
theorem Runs.mono {P : Program} {fr : Frame} {w : World} {R R' : Ending → World → Prop} (h : Runs P fr w R) (hr : ∀ e w', R e w' → R' e w') : Runs P fr w R' :=
  fun c cs => let ⟨e, w', r, s⟩ := h c cs; ⟨e, w', hr _ _ r, s⟩

/-- Where code comes to in a frame whose round is 'r'. -/
def CW (P : Program) (r : Option Nat) (c : Code) (Q : Ex → Act → World → Prop) (a : Act) (w : World) : Prop :=
  ∀ (b : Frame) (k : List Item) (cs : List Frame), b.roundOf = r → ∃ e a' w', Q e a' w' ∧ Arr P (lone (atR b a (.code c :: k)) cs w) b k cs e a' w'

section rules
variable {P : Program} {r : Option Nat} {Q : Ex → Act → World → Prop} {a : Act} {w : World}
theorem CW.mono {c : Code} {Q' : Ex → Act → World → Prop} (h : CW P r c Q a w) (hq : ∀ e a w, Q e a w → Q' e a w) : CW P r c Q' a w :=
  fun b k cs hr => let ⟨e, a', w', q, x⟩ := h b k cs hr; ⟨e, a', w', hq _ _ _ q, x⟩
theorem cw_skip (h : Q .normal a w) : CW P r .skip Q a w := fun _ _ _ _ => ⟨.normal, a, w, h, .one mv_skip⟩
theorem cw_label {l : Nat} (h : Q .normal a w) : CW P r (.label l) Q a w := fun _ _ _ _ => ⟨.normal, a, w, h, .one mv_label⟩
theorem cw_exit {id : Nat} (h : Q (.exit id) a w) : CW P r (.exit id) Q a w := fun _ k _ _ => ⟨.exit id, a, w, h, k, rfl, .refl _ _⟩
theorem cw_ret (h : Q .ret a w) : CW P r .ret Q a w := fun _ k _ _ => ⟨.ret, a, w, h, k, .refl _ _⟩
theorem cw_seq {x y : Code} (h : CW P r x (fun e a w => match e with | .normal => CW P r y Q a w | e => Q e a w) a w) : CW P r (.seq x y) Q a w := by
  intro b k cs hb
  obtain ⟨e, a₁, w₁, hq, harr⟩ := h b (.code y :: k) cs hb
  cases e with
  | normal =>
    obtain ⟨e₂, a₂, w₂, hq₂, harr₂⟩ := hq b k cs hb
    exact ⟨e₂, a₂, w₂, hq₂, .of_steps (.head mv_seq harr) harr₂⟩
  | exit id => exact ⟨_, a₁, w₁, hq, .of_steps (.one mv_seq) (.pass (x := .code y) rfl (by simp) harr)⟩
  | ret => exact ⟨_, a₁, w₁, hq, .of_steps (.one mv_seq) (.pass (x := .code y) rfl (by simp) harr)⟩
  | panic ch => exact ⟨_, a₁, w₁, hq, .of_steps (.one mv_seq) (.pass (x := .code y) rfl (by simp) harr)⟩
theorem cw_cond {c : Operand} {x y : Code} {t : Bool} (hc : a.eval c = .bool t) (h : CW P r (if t then x else y) Q a w) : CW P r (.cond c x y) Q a w :=
  fun b k cs hb => let ⟨e, a', w', q, x⟩ := h b k cs hb; ⟨e, a', w', q, .of_steps (.one (mv_cond hc)) x⟩
theorem cw_block {id : Nat} {c : Code} (h : CW P r c (fun e a w => match e with | .exit id' => if id' = id then Q .normal a w else Q (.exit id') a w | e => Q e a w) a w) :
    CW P r (.block id c) Q a w := by
  intro b k cs hb
  obtain ⟨e, a₁, w₁, hq, harr⟩ := h b (.inBlock id :: k) cs hb
  cases e with
  | normal => exact ⟨.normal, a₁, w₁, hq, .head mv_block (Steps.trans harr (.one mv_inBlock))⟩
  | exit id' =>
    obtain ⟨todo, ht, hs⟩ := harr
    by_cases hid : id' = id
    · simp only [hid, if_true] at hq
      refine ⟨.normal, a₁, w₁, hq, .head mv_block (hs.trans (.one (mv_exit ?_)))⟩
      rw [ht]; simp [exitTo, hid]
    · simp only [hid, if_false] at hq
      refine ⟨.exit id', a₁, w₁, hq, todo, ?_, .head mv_block hs⟩
      have : (id == id') = false := by simp; exact fun h => hid h.symm
      rw [ht]; simp [exitTo, this]
  | ret => exact ⟨_, a₁, w₁, hq, .of_steps (.one mv_block) harr⟩
  | panic ch => exact ⟨_, a₁, w₁, hq, .of_steps (.one mv_block) harr⟩
theorem cw_scope {c : Code} (h : CW P r c Q a w) : CW P r (.scope c) Q a w := by
  intro b k cs hb
  obtain ⟨e, a₁, w₁, hq, harr⟩ := h b (.inScope c :: k) cs hb
  cases e with
  | normal => exact ⟨.normal, a₁, w₁, hq, .head mv_scope (Steps.trans harr (.one mv_inScope))⟩
  | exit id' =>
    obtain ⟨todo, ht, hs⟩ := harr
    exact ⟨.exit id', a₁, w₁, hq, todo, by rw [ht]; simp [exitTo], .head mv_scope hs⟩
  | ret => exact ⟨_, a₁, w₁, hq, .of_steps (.one mv_scope) harr⟩
  | panic ch => exact ⟨_, a₁, w₁, hq, .of_steps (.one mv_scope) harr⟩
theorem cw_loop {c : Code} (I : Act → World → Prop) (μ : Act → World → Nat → Prop) (n₀ : Nat) (h₀ : I a w) (hμ : μ a w n₀)
    (round : ∀ n a w, I a w → μ a w n → CW P r c (fun e a' w' => match e with | .normal => I a' w' ∧ ∃ n', n' < n ∧ μ a' w' n' | e => Q e a' w') a w) : CW P r (.loop c) Q a w := by
  intro b k cs hb
  have key : ∀ n a w, I a w → μ a w n → ∃ e a' w', Q e a' w' ∧ Arr P (lone (atR b a (.code c :: .inLoop c :: k)) cs w) b k cs e a' w' := by
    intro n
    induction n using Nat.strongRecOn with
    | _ n ih =>
      intro a w hI hm
      obtain ⟨e, a₁, w₁, hq, harr⟩ := round n a w hI hm b (.inLoop c :: k) cs hb
      cases e with
      | normal =>
        obtain ⟨hI₁, n', hlt, hm'⟩ := hq
        obtain ⟨e₂, a₂, w₂, hq₂, harr₂⟩ := ih n' hlt a₁ w₁ hI₁ hm'
        exact ⟨e₂, a₂, w₂, hq₂, .of_steps (Steps.trans harr (.one mv_inLoop)) harr₂⟩
      | exit id => exact ⟨_, a₁, w₁, hq, .pass (x := .inLoop c) rfl (by simp) harr⟩
      | ret => exact ⟨_, a₁, w₁, hq, .pass (x := .inLoop c) rfl (by simp) harr⟩
      | panic ch => exact ⟨_, a₁, w₁, hq, .pass (x := .inLoop c) rfl (by simp) harr⟩
  obtain ⟨e, a', w', hq, harr⟩ := key n₀ a w h₀ hμ
  exact ⟨e, a', w', hq, .of_steps (.one mv_loop) harr⟩
end rules

/-- What an operation's outcome comes to. -/
def OpOut (P : Program) (r : Option Nat) (o : Oper) (a : Act) (next : Act → World → Prop) (Q : Ex → Act → World → Prop) : Result Next → Prop
  | .ok (.value v) w' => next (a.put o.dst v) w'
  | .ok .skip w' => next (a.put o.dst undef) w'
  | .ok (.defer d) w' => r = none ∧ next ({ a with defers := d :: a.defers }.put o.dst undef) w'
  | .ok (.enter f args) w' => Runs P (Frame.enter P f args .normal) w' fun
      | .returned v, w'' => next (a.put o.dst v) w''
      | .panicked chain, w'' => Q (.panic chain) a w''
      | .outgrown, _ => False
  | .ok (.round l f tmps assign body) w' => Runs P (Frame.round l f tmps assign body .normal) w' fun
      | .returned v, w'' => next (a.put o.dst v) w''
      | .panicked chain, w'' => Q (.panic chain) a w''
      | .outgrown, _ => False
  | .halt (.panic v) w' => Q (.panic [{ v, recovered := false }]) a w'
  | _ => False

def OpsW (P : Program) (r : Option Nat) (ops : Array Oper) (Q : Ex → Act → World → Prop) : List Nat → Act → World → Prop
  | [], a, w => Q .normal a w
  | i :: rest, a, w =>
    match ops[i]? with
    | none => OpsW P r ops Q rest a w
    | some o =>
      if Region.wanted o (yielded ops a.tmps) then (r = none ∨ ∀ c, o.op ≠ .defer c) ∧ OpOut P r o a (OpsW P r ops Q rest) Q ((execOp a.eval o).run P w)
      else OpsW P r ops Q rest (a.put o.dst undef) w

theorem cw_ops {P : Program} {r : Option Nat} {ops : Array Oper} {Q : Ex → Act → World → Prop} (l : List Nat) :
    ∀ (a : Act) (w : World), OpsW P r ops Q l a w → ∀ (b : Frame) (k : List Item) (cs : List Frame), b.roundOf = r →
      ∃ e a' w', Q e a' w' ∧ Arr P (lone (atR b a (.inRegion ops l :: k)) cs w) b k cs e a' w' := by
  induction l with
  | nil => exact fun a w h b k cs _ => ⟨.normal, a, w, h, .one mv_region_end⟩
  | cons i rest ih =>
    intro a w h b k cs hb
    simp only [OpsW] at h
    cases ho : ops[i]? with
    | none =>
      simp only [ho] at h
      obtain ⟨e, a', w', hq, harr⟩ := ih a w h b k cs hb
      have hs := mv_op_skip (P := P) (b := b) (a := a) (k := k) (cs := cs) (w := w) (ops := ops) (i := i) (rest := rest) (by simp [ho])
      simp only [ho, Option.bind_none, Act.put] at hs
      exact ⟨e, a', w', hq, .of_steps (.one hs) harr⟩
    | some o =>
      simp only [ho] at h
      by_cases hw : Region.wanted o (yielded ops a.tmps) = true
      · simp only [hw, if_true] at h
        obtain ⟨hd, h⟩ := h
        have hg := stepG_opR (P := P) (b := b) (k := k) (cs := cs) (w := w) (rest := rest) ho hw (hb ▸ hd)
        have hfin : ∀ v, (atR b a (.inRegion ops (i :: rest) :: k)).finish v = atR b (a.put o.dst v) (.inRegion ops rest :: k) := by
          intro v; rw [finish_atR, ho]; rfl
        have callee : ∀ fr w₁, step P (lone (atR b a (.inRegion ops (i :: rest) :: k)) cs w) = .next (lone fr (atR b a (.inRegion ops (i :: rest) :: k) :: cs) w₁) →
            Runs P fr w₁ (fun e w'' => match e with | .returned v => OpsW P r ops Q rest (a.put o.dst v) w'' | .panicked chain => Q (.panic chain) a w'' | .outgrown => False) →
            ∃ e a' w', Q e a' w' ∧ Arr P (lone (atR b a (.inRegion ops (i :: rest) :: k)) cs w) b k cs e a' w' := by
          intro fr w₁ hst hrun
          obtain ⟨e, w'', hR, hsteps⟩ := hrun (atR b a (.inRegion ops (i :: rest) :: k)) cs
          cases e with
          | returned v =>
            obtain ⟨e, a', w₃, hq, harr⟩ := ih _ _ hR b k cs hb
            refine ⟨e, a', w₃, hq, .of_steps (.head hst ?_) harr⟩
            rw [← hfin]; exact hsteps
          | panicked chain => exact ⟨.panic chain, a, w'', hR, .inRegion ops (i :: rest) :: k, .head hst hsteps⟩
          | outgrown => exact hR.elim
        generalize hr : (execOp a.eval o).run P w = res at h
        unfold OpOut at h
        split at h
        · rename_i v w'
          obtain ⟨e, a', w'', hq, harr⟩ := ih _ _ h b k cs hb
          refine ⟨e, a', w'', hq, .of_steps (.one (step_lone_go ?_)) harr⟩
          rw [hg, ← hfin]; simp [stepG.apply, hr]
        · rename_i w'
          obtain ⟨e, a', w'', hq, harr⟩ := ih _ _ h b k cs hb
          refine ⟨e, a', w'', hq, .of_steps (.one (step_lone_go ?_)) harr⟩
          rw [hg, ← hfin]; simp [stepG.apply, hr]
        · rename_i d w'
          obtain ⟨e, a', w'', hq, harr⟩ := ih _ _ h.2 b k cs hb
          refine ⟨e, a', w'', hq, .of_steps (.one (step_lone_go ?_)) harr⟩
          have : ({ atR b a (.inRegion ops (i :: rest) :: k) with defers := d :: a.defers } : Frame).finish undef =
              atR b ({ a with defers := d :: a.defers }.put o.dst undef) (.inRegion ops rest :: k) := by
            have := finish_atR (b := b) (a := { a with defers := d :: a.defers }) (k := k) ops i rest undef
            rw [ho] at this; exact this
          rw [hg]; simp only [stepG.apply, Sem.runT_eq, hr, GStep.bare_after]
          exact congrArg (fun fr => GStep.go { frame := fr, callers := cs, status := .running, dying := none } w') this
        · rename_i f args w'
          exact callee _ _ (step_lone_go (by rw [hg]; simp [stepG.apply, hr, atR])) (h.mono fun e w'' hx => by cases e <;> exact hx)
        · rename_i l f tmps assign body w'
          exact callee _ _ (step_lone_go (by rw [hg]; simp [stepG.apply, hr])) (h.mono fun e w'' hx => by cases e <;> exact hx)
        · rename_i v w'
          refine ⟨_, a, w', h, .inRegion ops (i :: rest) :: k, .one (step_lone_go ?_)⟩
          rw [hg]; simp [stepG.apply, hr, atR, Frame.raise]
        · exact h.elim
      · simp only [hw, if_false, Bool.false_eq_true] at h
        obtain ⟨e, a', w', hq, harr⟩ := ih _ _ h b k cs hb
        have hs := mv_op_skip (P := P) (b := b) (a := a) (k := k) (cs := cs) (w := w) (ops := ops) (i := i) (rest := rest) (by simp [ho]; simpa using hw)
        simp only [ho, Option.bind_some] at hs
        exact ⟨e, a', w', hq, .of_steps (.one hs) harr⟩

theorem cw_region {P : Program} {r : Option Nat} {id : Nat} {ops : Array Oper} {Q : Ex → Act → World → Prop} {a : Act} {w : World}
    (h : OpsW P r ops Q (List.range ops.size) a w) : CW P r (.region id ops false) Q a w :=
  fun b k cs hb => let ⟨e, a', w', q, x⟩ := cw_ops _ a w h b k cs hb; ⟨e, a', w', q, .of_steps (.one mv_region) x⟩
theorem cw_region_draw {P : Program} {r : Option Nat} {id : Nat} {ops : Array Oper} {Q : Ex → Act → World → Prop} {a : Act} {w : World}
    (h : ∀ t, OpsW P r ops Q (Region.schedule (P.follows .mixedOrders) ops t) a { w with drawn := w.drawn + 1 }) : CW P r (.region id ops true) Q a w :=
  fun b k cs hb => let ⟨e, a', w', q, x⟩ := cw_ops _ a _ (h _) b k cs hb; ⟨e, a', w', q, .of_steps (.one mv_region_draw) x⟩

/-- How a body's end becomes a function's, where nothing is deferred. -/
def bodyEnd (P : Program) (fn : Func) (R : Ending → World → Prop) : Ex → Act → World → Prop
  | .normal, a, w | .ret, a, w => a.defers = [] ∧ ∃ v, (results fn a.tmps).run P w = .ok v w ∧ R (.returned v) w
  | .panic chain, a, w => a.defers = [] ∧ R (.panicked chain) w
  | .exit _, _, _ => False

theorem calls_of_cw {P : Program} {f : FuncId} {fn : Func} {c : Code} {args : Array Value} {w : World} {R : Ending → World → Prop}
    (hf : P.funcs[f]? = some fn) (hb : fn.body = some c)
    (h : CW P none c (bodyEnd P fn R) { tmps := args ++ Array.replicate (fn.ntmps - args.size) undef, defers := [] } w) : Calls P f args w R := by
  intro cs
  let b : Frame := { (default : Frame) with fn := f, kind := .normal, roundOf := none }
  have henter : Frame.enter P f args .normal = atR b { tmps := args ++ Array.replicate (fn.ntmps - args.size) undef, defers := [] } [.code c] := by
    simp [Frame.enter, atR, hf, hb, b]
  obtain ⟨e, a', w', hq, harr⟩ := h b [] cs rfl
  rw [← henter] at harr
  cases e with
  | normal =>
    obtain ⟨hd, v, hr, hR⟩ := hq
    exact ⟨.returned v, w', _, hR, Steps.trans harr (.one (mv_end rfl)), rfl, rfl, hd, rfl, fn, hf, hr⟩
  | ret =>
    obtain ⟨hd, v, hr, hR⟩ := hq
    obtain ⟨todo, hs⟩ := harr
    exact ⟨.returned v, w', _, hR, Steps.trans hs (.one (mv_ret rfl)), rfl, rfl, hd, rfl, fn, hf, hr⟩
  | panic chain =>
    obtain ⟨hd, hR⟩ := hq
    obtain ⟨todo, hs⟩ := harr
    exact ⟨.panicked chain, w', _, hR, hs, rfl, rfl, hd, fn, hf⟩
  | exit id => exact hq.elim

end Go.Am
/-
  OPERATIONS WITH THEIR TYPES RESOLVED, and what each does to an abstract memory.
-/
namespace Go.Am
open Go.RowKit

/-- A constant, as an abstract value. -/
def ofScalar : Value → Option AV
  | .bool b => some (.bool b)
  | .int k n => some (.int k n)
  | .string s => some (.str (s.data.toList.map UInt8.toNat))
  | .pointer none => some (.ptr none)
  | .slice none 0 0 => some (.slice none 0 0 0 true)
  | .map none => some (.map none)
  | .nilFunc => some .nilFunc
  | .nilIface => some .nilIface
  | _ => none
def ofScalars : List Value → Option (List AV)
  | [] => some []
  | v :: l => match ofScalar v, ofScalars l with
    | some x, some y => some (x :: y)
    | _, _ => none
def ofV : Value → Option AV
  | .agg cs => (ofScalars cs.toList).map .agg
  | .tuple cs => (ofScalars cs.toList).map .tuple
  | v => ofScalar v

inductive AOpd where
  | tmp (t : Nat)
  | const (v : AV)
  deriving Inhabited

def compOpd : Operand → Option AOpd
  | .tmp t => some (.tmp t)
  | .const v => (ofV v).map .const
  | .func f => some (.const (.func (.func f) [] []))
  | .global _ => none
def compOpds : List Operand → Option (List AOpd)
  | [] => some []
  | x :: l => match compOpd x, compOpds l with
    | some a, some b => some (a :: b)
    | _, _ => none

def isC : Operand → Bool
  | .const _ => true
  | _ => false

inductive EqKind where
  | bool | int | str | ptr | slice | map | func | iface
  deriving DecidableEq, Inhabited
inductive KeyKind where
  | int | str | bool | ints (n : Nat)
  deriving DecidableEq, Inhabited
inductive LenKind where
  | slice | str | map
  deriving DecidableEq, Inhabited

inductive AOp where
  | move (x : AOpd)
  | pick (c a b : AOpd)
  | alloc (zero : List AV)
  | box (x : AOpd)
  | build (zero : List AV) (parts : List (Nat × Nat × AOpd))
  | buildSlice (sz len : Nat) (zero : List AV) (parts : List (Nat × Nat × AOpd))
  | load (n : Option Nat) (a : AOpd)
  | store (n : Nat) (a v : AOpd)
  | nilCheck (x : AOpd)
  | binOp (op : BinOp) (kd : EqKind) (x y : AOpd)
  | not (x : AOpd)
  | convInt (k : IntKind) (x : AOpd)
  | makeIface (t : TypeId) (x : AOpd)
  | makeFunc (fn : Fn) (first cap : List AOpd)
  | makeMap
  | makeSlice (sz bytes : Nat) (zero : List AV) (l c : AOpd)
  | slice (sz : Nat) (x : AOpd) (lo hi mx : Option AOpd)
  | fieldAddr (off : Nat) (x : AOpd)
  | field (off : Nat) (n : Option Nat) (x : AOpd)
  | indexSlice (sz : Nat) (x i : AOpd)
  | indexArr (sz len : Nat) (x i : AOpd)
  | index (sz len : Nat) (n : Option Nat) (x i : AOpd)
  | indexStr (x i : AOpd)
  | lookup (kk : KeyKind) (zero : AV) (m k : AOpd) (ok : Bool)
  | mapUpdate (kk : KeyKind) (m k v : AOpd)
  | delete (kk : KeyKind) (m k : AOpd)
  | extract (t : AOpd) (i : Nat)
  | range (x : AOpd)
  | next (x : AOpd)
  | entry (x : AOpd)
  | typeAssert (t : TypeId) (zero : AV) (x : AOpd) (ok : Bool)
  | call (f : AOpd) (args : List AOpd)
  | append (sz bytes : Nat) (zero : List AV) (s x : AOpd)
  | len (k : LenKind) (x : AOpd)
  | minInt (x y : AOpd)
  | panic (x : AOpd)
  | defer (f : AOpd) (args : List AOpd)
  | recover
  deriving Inhabited

structure AOper where
  dst : Option Nat
  op : AOp
  guard : Option (Nat × Bool)
  /-- which operations ahead of it must come first -/
  after : List Nat
  deriving Inhabited

/-- An operation of a statement whose order is open: its number, and which operations that were carried out ahead of it might as well have come behind it. -/
structure DOper where
  idx : Nat
  o : AOper
  pend : List AOper
  deriving Inhabited

inductive ACode where
  | skip
  | region (ops : List AOper)
  | draw (main : List DOper) (tail : List AOper)
  | seq (a b : ACode)
  | cond (c : AOpd) (a b : ACode)
  | block (id : Nat) (c : ACode)
  | loop (c : ACode)
  | rangeFunc (f : AOpd) (params : List Nat) (assign body : ACode)
  | exit (id : Nat)
  | ret
  deriving Inhabited

/-- The temporaries that an operation reads. -/
def AOpd.nm : AOpd → List Nat
  | .tmp t => [t]
  | .const _ => []
def nmAll : List AOpd → List Nat
  | [] => []
  | x :: l => x.nm ++ nmAll l
def nmOpt : Option AOpd → List Nat
  | none => []
  | some x => x.nm
def nmParts : List (Nat × Nat × AOpd) → List Nat
  | [] => []
  | (_, _, x) :: l => x.nm ++ nmParts l
def AOp.names : AOp → List Nat
  | .move x | .box x | .load _ x | .nilCheck x | .not x | .convInt _ x | .makeIface _ x | .fieldAddr _ x | .field _ _ x | .extract x _ | .range x | .next x | .entry x | .typeAssert _ _ x _ | .len _ x | .panic x => x.nm
  | .pick a b c | .mapUpdate _ a b c => a.nm ++ b.nm ++ c.nm
  | .alloc _ | .makeMap | .recover => []
  | .build _ ps | .buildSlice _ _ _ ps => nmParts ps
  | .store _ a b | .binOp _ _ a b | .makeSlice _ _ _ a b | .indexSlice _ a b | .indexArr _ _ a b | .index _ _ _ a b | .indexStr a b | .lookup _ _ a b _ | .delete _ a b | .append _ _ _ a b | .minInt a b => a.nm ++ b.nm
  | .makeFunc _ f c => nmAll f ++ nmAll c
  | .slice _ x a b c => x.nm ++ nmOpt a ++ nmOpt b ++ nmOpt c
  | .call f args | .defer f args => f.nm ++ nmAll args
inductive OKind where
  | pure | read | alloc | loud
  deriving DecidableEq, Inhabited
def AOp.kind : AOp → OKind
  | .move _ | .pick .. | .build .. | .nilCheck _ | .binOp .. | .not _ | .convInt .. | .makeIface .. | .makeFunc .. | .slice .. | .fieldAddr .. | .field .. | .indexSlice .. | .indexArr .. | .index .. | .indexStr .. | .extract .. | .typeAssert .. | .minInt .. => .pure
  | .len .slice _ | .len .str _ => .pure
  | .load .. | .lookup .. | .len .map _ => .read
  | .alloc _ | .box _ | .buildSlice .. | .makeMap | .makeSlice .. => .alloc
  | _ => .loud
def AOper.quiet (o : AOper) : Bool := o.op.kind != .loud
def AOper.reads (o : AOper) : List Nat := o.op.names ++ (match o.guard with | some (t, _) => [t] | none => [])

/-- All operations that must come ahead of each. -/
def ancs (al : List AOper) : List (List Nat) :=
  al.foldl (fun acc o => acc ++ [(o.after ++ o.after.flatMap fun j => acc.getD j []).eraseDups]) []
def anc (as : List (List Nat)) (i : Nat) : List Nat := as.getD i []
/-- How many operations stand ahead of those that come last whatever the order. -/
def mainLen (as : List (List Nat)) : Nat → Nat
  | 0 => 0
  | i + 1 => if (List.range i).all fun j => (anc as i).contains j then mainLen as i else i + 1
/-- The operations that nothing loud keeps back first; then what is loud, in its order. -/
def eagerPick (al : List AOper) (as : List (List Nat)) (m : Nat) (done : List Nat) : Option Nat :=
  let free := (List.range m).filter fun i => !done.contains i && (anc as i).all fun j => done.contains j
  match free.find? fun i => (al.getD i default).quiet with
  | some i => some i
  | none => free.head?
def eager (al : List AOper) (as : List (List Nat)) (m : Nat) : Nat → List Nat → List Nat
  | 0, done => done
  | k + 1, done => match eagerPick al as m done with
    | some i => eager al as m k (done ++ [i])
    | none => done
def dopers (al : List AOper) (as : List (List Nat)) : List Nat → List Nat → List DOper
  | _, [] => []
  | done, i :: rest =>
    let o := al.getD i default
    { idx := i, o := o, pend := if o.quiet then [] else (done.filter fun j => !(anc as i).contains j && (al.getD j default).op.kind != .pure && (al.getD j default).quiet).map fun j => al.getD j default } :: dopers al as (done ++ [i]) rest
/-- What a statement with an open order must meet. -/
def drawOk (al : List AOper) (as : List (List Nat)) (m : Nat) (σ : List Nat) : Bool :=
  decide (m ≤ al.length) && decide (σ.length = m) && (List.range m).all (fun i => σ.contains i) && σ.all (fun i => decide (i < m)) &&
  -- edges lead back, and the lists of what comes ahead are made of them
  (List.range al.length).all (fun i => (al.getD i default).after.all (fun j => decide (j < i)) && (anc as i).all (fun k => (al.getD i default).after.contains k || (al.getD i default).after.any fun j => (anc as j).contains k) && (al.getD i default).after.all (fun j => (anc as i).contains j)) &&
  -- each temporary is written once, and read behind its writer alone
  (List.range m).all (fun i => match (al.getD i default).dst with
    | none => !(al.getD i default).quiet
    | some d => (List.range m).all fun j => j == i || ((al.getD j default).dst != some d && (!(al.getD j default).reads.contains d || (anc as j).contains i)) ) &&
  (List.range m).all (fun i => match (al.getD i default).dst with
    | none => true
    | some d => !(al.getD i default).reads.contains d) &&
  -- what is loud has one order
  (List.range m).all (fun i => (al.getD i default).quiet || (List.range i).all fun j => (al.getD j default).quiet || (anc as i).contains j) &&
  -- the last ones come behind all
  (List.range al.length).all (fun i => decide (i < m) || (List.range i).all fun j => (anc as i).contains j) &&
  (List.range m).all (fun i => match (al.getD i default).op with | .defer .. => false | _ => true)
/-- In the chosen order each comes behind what must come ahead of it; and what is quiet behind a loud one only where it must. -/
def eagerOk (al : List AOper) (as : List (List Nat)) : List Nat → List Nat → Bool
  | _, [] => true
  | done, i :: rest => !done.contains i && (anc as i).all (fun j => done.contains j) &&
    (if (al.getD i default).quiet then true else rest.all fun j => !(al.getD j default).quiet || (anc as j).contains i) && eagerOk al as (done ++ [i]) rest
/-- Without what must come first. -/
def AOper.strip (o : AOper) : AOper := { o with after := [] }
def DOper.strip (p : DOper) : DOper := { idx := 0, o := p.o.strip, pend := p.pend.map AOper.strip }
def compDraw (al : List AOper) : Option ACode :=
  let as := ancs al
  let m := mainLen as al.length
  let σ := eager al as m m []
  if drawOk al as m σ && eagerOk al as [] σ then some (.draw ((dopers al as [] σ).map DOper.strip) ((al.drop m).map AOper.strip)) else none

section comp
variable (P : Program)
def zeroOf (t : TypeId) : Option AV := ((P.info? t).bind (·.zero)).bind ofV
def isAggT (t : TypeId) : Option Bool := match P.underlying t with
  | some (.struct _) | some (.array _ _) => some true
  | some _ => some false
  | none => none
/-- How many cells, where it is one thing of several cells; none: one cell. -/
def aggSize (t : TypeId) : Option (Option Nat) := match isAggT P t with
  | some true => (P.info? t).map fun i => some i.size
  | some false => some none
  | none => none
def sizeT (t : TypeId) : Option Nat := (P.info? t).map (·.size)
def bytesT (t : TypeId) : Option Nat := (P.info? t).map (·.bytes)
def eqKind (t : TypeId) : Option EqKind := match P.underlying t with
  | some .bool => some .bool
  | some (.int _) => some .int
  | some .string => some .str
  | some (.pointer _) => some .ptr
  | some (.slice _) => some .slice
  | some (.map _ _) => some .map
  | some (.func _ _ _) => some .func
  | some (.interface _) => some .iface
  | _ => none
def keyKind (t : TypeId) : Option KeyKind := match P.underlying t with
  | some .bool => some .bool
  | some (.int _) => some .int
  | some .string => some .str
  | some (.array n e) => match P.underlying e, (P.info? e).map (·.size) with
    | some (.int _), some 1 => some (.ints n)
    | _, _ => none
  | _ => none
def compParts (place : Nat → Option (Nat × Nat)) : List (Nat × Operand) → Option (List (Nat × Nat × AOpd))
  | [] => some []
  | (i, x) :: l => match place i, compOpd x, compParts place l with
    | some (o, s), some a, some r => some ((o, s, a) :: r)
    | _, _, _ => none
def compOpt : Option Operand → Option (Option AOpd)
  | none => some none
  | some x => (compOpd x).map some
def structPlaces (fields : List Field) : Option (List (Nat × Nat)) := fields.mapM fun f => (sizeT P f.type).map fun s => (f.offset, s)

def cPick (c a b : Operand) : Option AOp := match compOpd c, compOpd a, compOpd b with
  | some c, some a, some b => some (.pick c a b)
  | _, _, _ => none
def cAlloc (t : TypeId) : Option AOp := (zeroOf P t).map fun z => .alloc z.cells
def cBuild (t : TypeId) (parts : Array (Nat × Operand)) : Option AOp := match zeroOf P t, P.underlying t with
  | some z, some (.struct fs) => match structPlaces P fs.toList with
    | some pl => (compParts (pl[·]?) parts.toList).map fun a => .build z.cells a
    | none => none
  | some z, some (.array _ e) => match sizeT P e with
    | some s => (compParts (fun i => some (i * s, s)) parts.toList).map fun a => .build z.cells a
    | none => none
  | _, _ => none
def cBuildSlice (t : TypeId) (len : Nat) (parts : Array (Nat × Operand)) : Option AOp := match P.underlying t with
  | some (.slice e) => match sizeT P e, zeroOf P e with
    | some s, some z => if s = 0 ∨ 65536 < len * s ∨ z.cells.length ≠ s then none else
      (compParts (fun i => some (i * s, s)) parts.toList).map fun a => .buildSlice s len z.cells a
    | _, _ => none
  | _ => none
def cLoad (t : TypeId) (a : Operand) : Option AOp := match aggSize P t, compOpd a with
  | some r, some a => some (.load r a)
  | _, _ => none
def cStore (t : TypeId) (a v : Operand) : Option AOp := match sizeT P t, compOpd a, compOpd v with
  | some r, some a, some v => some (.store r a v)
  | _, _, _ => none
def cBin (op : BinOp) (t : TypeId) (x y : Operand) : Option AOp := match eqKind P t, compOpd x, compOpd y with
  | some k, some a, some b => if k = .iface ∧ isC x = false ∧ isC y = false then none else some (.binOp op k a b)
  | _, _, _ => none
def cUn (op : UnOp) (x : Operand) : Option AOp := match op with
  | .not => (compOpd x).map .not
  | _ => none
def cConv (s d : TypeId) (x : Operand) : Option AOp := match P.underlying s, P.underlying d with
  | some (.int _), some (.int k) => (compOpd x).map (.convInt k)
  | _, _ => none
def cIface (t : TypeId) (x : Operand) : Option AOp := match P.underlying t with
  | some (.interface _) => none
  | some _ => (compOpd x).map (.makeIface t)
  | none => none
def cFunc (fn : Fn) (f c : Array Operand) : Option AOp := match compOpds f.toList, compOpds c.toList with
  | some f, some c => some (.makeFunc fn f c)
  | _, _ => none
def cMap (t : TypeId) (r : Option Operand) : Option AOp := match r, P.underlying t with
  | none, some (.map _ _) => some .makeMap
  | _, _ => none
def cMakeSlice (t : TypeId) (l c : Operand) : Option AOp := match P.underlying t with
  | some (.slice e) => match sizeT P e, zeroOf P e, bytesT P e, compOpd l, compOpd c with
    | some s, some z, some b, some l, some c => if s = 0 ∨ z.cells.length ≠ s then none else some (.makeSlice s b z.cells l c)
    | _, _, _, _, _ => none
  | _ => none
def cSlice (t : TypeId) (x : Operand) (lo hi mx : Option Operand) : Option AOp := match P.underlying t with
  | some (.slice e) => match sizeT P e, compOpd x, compOpt lo, compOpt hi, compOpt mx with
    | some s, some x, some l, some h, some m => some (.slice s x l h m)
    | _, _, _, _, _ => none
  | _ => none
def cFieldAddr (t : TypeId) (x : Operand) (f : Nat) : Option AOp := match P.underlying t with
  | some (.struct fs) => match fs[f]? with
    | some fd => match sizeT P fd.type with
      | some (_ + 1) => (compOpd x).map (.fieldAddr fd.offset)
      | _ => none
    | none => none
  | _ => none
def cField (t : TypeId) (x : Operand) (f : Nat) : Option AOp := match P.underlying t with
  | some (.struct fs) => match fs[f]? with
    | some fd => match aggSize P fd.type, compOpd x with
      | some r, some x => some (.field fd.offset r x)
      | _, _ => none
    | none => none
  | _ => none
def cIndexAddr (t : TypeId) (x i : Operand) : Option AOp := match P.underlying t with
  | some (.slice e) => match sizeT P e, compOpd x, compOpd i with
    | some s, some x, some i => some (.indexSlice s x i)
    | _, _, _ => none
  | some (.array n e) => match sizeT P e, compOpd x, compOpd i with
    | some s, some x, some i => some (.indexArr s n x i)
    | _, _, _ => none
  | _ => none
def cIndex (t : TypeId) (x i : Operand) : Option AOp := match P.underlying t with
  | some (.array n e) => match sizeT P e, aggSize P e, compOpd x, compOpd i with
    | some s, some r, some x, some i => some (.index s n r x i)
    | _, _, _, _ => none
  | _ => none
def cLookup (t : TypeId) (m k : Operand) (ok : Bool) : Option AOp := match P.underlying t with
  | some (.map kt et) => match keyKind P kt, zeroOf P et, compOpd m, compOpd k with
    | some kk, some z, some m, some k => some (.lookup kk z m k ok)
    | _, _, _, _ => none
  | _ => none
def cUpdate (t : TypeId) (m k v : Operand) : Option AOp := match P.underlying t with
  | some (.map kt _) => match keyKind P kt, compOpd m, compOpd k, compOpd v with
    | some kk, some m, some k, some v => some (.mapUpdate kk m k v)
    | _, _, _, _ => none
  | _ => none
def cRange (t : TypeId) (x : Operand) : Option AOp := match P.underlying t with
  | some (.map _ _) => (compOpd x).map .range
  | _ => none
def cNext (x : Operand) (b : Bool) : Option AOp := match b with
  | false => (compOpd x).map .next
  | true => none
def cAssert (x : Operand) (xt t : TypeId) (ok : Bool) : Option AOp := match P.underlying t with
  | some (.interface _) => none
  | some _ => match zeroOf P t, P.underlying xt, compOpd x with
    | some z, some (.interface _), some x => some (.typeAssert t z x ok)
    | _, _, _ => none
  | none => none
def cAppend (args : List Operand) (ts : List TypeId) : Option AOp := match args, ts with
  | [s, x], [t, t'] => match P.underlying t, P.underlying t' with
    | some (.slice e), some (.slice _) => match zeroOf P e, sizeT P e, bytesT P e, compOpd s, compOpd x with
      | some z, some s', some b, some s, some x => if s' = 0 ∨ b = 0 ∨ z.cells.length ≠ s' then none else some (.append s' b z.cells s x)
      | _, _, _, _, _ => none
    | _, _ => none
  | _, _ => none
def cLen (args : List Operand) (ts : List TypeId) : Option AOp := match args, ts with
  | [x], [t] => match P.underlying t with
    | some (.slice _) => (compOpd x).map (.len .slice)
    | some (.map _ _) => (compOpd x).map (.len .map)
    | _ => none
  | _, _ => none
def cDelete (args : List Operand) (ts : List TypeId) : Option AOp := match args, ts with
  | [m, k], [t, _] => match P.underlying t with
    | some (.map kt _) => match keyKind P kt, compOpd m, compOpd k with
      | some kk, some m, some k => some (.delete kk m k)
      | _, _, _ => none
    | _ => none
  | _, _ => none
def cMin (args : List Operand) : Option AOp := match args with
  | [x, y] => match compOpd x, compOpd y with
    | some x, some y => some (.minInt x y)
    | _, _ => none
  | _ => none
def cBuiltin (b : Builtin) (args : List Operand) (ts : List TypeId) : Option AOp := match b with
  | .append => cAppend P args ts
  | .len => cLen P args ts
  | .delete => cDelete P args ts
  | .min => cMin args
  | .recover => match args with
    | [] => some .recover
    | _ => none
  | _ => none
def cCall (c : Call) : Option AOp := match c.callee with
  | .value f => match compOpd f, compOpds c.args.toList with
    | some f, some a => some (.call f a)
    | _, _ => none
  | .builtin b => cBuiltin P b c.args.toList c.argTypes.toList
  | _ => none
def cDefer (c : Call) : Option AOp := match c.callee with
  | .value f => match compOpd f, compOpds c.args.toList with
    | some f, some a => some (.defer f a)
    | _, _ => none
  | _ => none

def compOp (o : Op) : Option AOp := match o with
  | .move x | .assign x => (compOpd x).map .move
  | .pick c a b => cPick c a b
  | .alloc t => cAlloc P t
  | .box _ x => (compOpd x).map .box
  | .build t parts => cBuild P t parts
  | .buildSlice t len parts => cBuildSlice P t len parts
  | .load t a => cLoad P t a
  | .store t a v => cStore P t a v
  | .nilCheck x => (compOpd x).map .nilCheck
  | .binOp op t x y _ => cBin P op t x y
  | .unOp op _ x => cUn op x
  | .convert s d x => cConv P s d x
  | .makeInterface t x => cIface P t x
  | .makeFunc fn f c => cFunc fn f c
  | .makeMap t r => cMap P t r
  | .makeSlice t l c => cMakeSlice P t l c
  | .slice t x lo hi mx => cSlice P t x lo hi mx
  | .fieldAddr t x f => cFieldAddr P t x f
  | .field t x f => cField P t x f
  | .indexAddr t x i => cIndexAddr P t x i
  | .index t x i => cIndex P t x i
  | .lookup t m k ok => cLookup P t m k ok
  | .mapUpdate t m k v => cUpdate P t m k v
  | .extract t i => (compOpd t).map fun t => .extract t i
  | .range t x => cRange P t x
  | .next x b => cNext x b
  | .entry x => (compOpd x).map .entry
  | .typeAssert x xt t ok => cAssert P x xt t ok
  | .call c => cCall P c
  | .defer c => cDefer c
  | .panic x => (compOpd x).map .panic
  | _ => none

/-- The temporary that decides whether an operation is carried out. -/
def compGuard (ops : Array Oper) (o : Oper) : Option (Option (Nat × Bool)) := match o.guard with
  | none => some none
  | some (j, b) => match (ops[j]?).bind (·.dst) with
    | some d => some (some (d, b))
    | none => none
def compAfter (o : Oper) : List Nat := o.after.toList.filterMap fun e => match e.ground with | .textOnly _ | .gcOnly _ => none | _ => some e.on
def compOper (ops : Array Oper) (o : Oper) : Option AOper := match compOp P o.op, compGuard ops o with
  | some x, some g => some { dst := o.dst, op := x, guard := g, after := compAfter o }
  | _, _ => none
def compOpers (ops : Array Oper) : List Oper → Option (List AOper)
  | [] => some []
  | o :: l => match compOper P ops o, compOpers ops l with
    | some x, some y => some (x :: y)
    | _, _ => none
def compCode : Code → Option ACode
  | .skip | .label _ => some .skip
  | .region _ ops draw => match draw with
    | false => (compOpers P ops ops.toList).map fun l => .region (l.map AOper.strip)
    | true => (compOpers P ops ops.toList).bind compDraw
  | .seq a b => match compCode a, compCode b with
    | some x, some y => some (.seq x y)
    | _, _ => none
  | .cond c a b => match compOpd c, compCode a, compCode b with
    | some z, some x, some y => some (.cond z x y)
    | _, _, _ => none
  | .block id c => (compCode c).map (.block id)
  | .loop c => (compCode c).map .loop
  | .rangeFunc f ps a b => match compOpd f, compCode a, compCode b with
    | some z, some x, some y => some (.rangeFunc z ps.toList x y)
    | _, _, _ => none
  | .exit id => some (.exit id)
  | .scope c => compCode c
  | .ret => some .ret
  | .goto _ | .refuse _ => none
end comp
end Go.Am
/-
  WHAT EACH OPERATION DOES TO AN ABSTRACT MEMORY.
-/
namespace Go.Am
open Go.RowKit

abbrev TM := Nat → AV
def TM.put (tm : TM) (d : Option Nat) (v : AV) : TM := match d with
  | some d => fun t => if t = d then v else tm t
  | none => tm
def AOpd.ev (tm : TM) : AOpd → AV
  | .tmp t => tm t
  | .const v => v

inductive ARes where
  | val (v : AV) (h : AHeap)
  | new (x : ABlk) (k : Nat → AV) (h : AHeap)
  | any (l : List (AV × AHeap))
  | call (f : FuncId) (args : List AV)
  | yield (b : Nat) (args : List AV)
  | panic (v : AV)
  | defer (fn : Fn) (cap args : List AV)
  | stuck

def ARes.ofOpt (h : AHeap) : Option AV → ARes
  | some v => .val v h
  | none => .stuck

/-- Whole numbers of one kind. -/
def intOp (op : BinOp) (k : IntKind) (a b : Int) : Option AV := match op with
  | .add => some (.int k (k.wrap (a + b)))
  | .sub => some (.int k (k.wrap (a - b)))
  | .mul => some (.int k (k.wrap (a * b)))
  | .quo => if b = 0 then none else some (.int k (k.wrap (a.tdiv b)))
  | .rem => if b = 0 then none else some (.int k (a.tmod b))
  | .and => some (.int k (k.wrap ((BitVec.ofInt k.bits a) &&& (BitVec.ofInt k.bits b)).toNat))
  | .or => some (.int k (k.wrap ((BitVec.ofInt k.bits a) ||| (BitVec.ofInt k.bits b)).toNat))
  | .xor => some (.int k (k.wrap ((BitVec.ofInt k.bits a) ^^^ (BitVec.ofInt k.bits b)).toNat))
  | .andNot => some (.int k (k.wrap ((BitVec.ofInt k.bits a) &&& ~~~(BitVec.ofInt k.bits b)).toNat))
  | .eql => some (.bool (decide (a = b)))
  | .neq => some (.bool (!decide (a = b)))
  | .lss => some (.bool (decide (a < b)))
  | .leq => some (.bool (decide (a ≤ b)))
  | .gtr => some (.bool (decide (b < a)))
  | .geq => some (.bool (decide (b ≤ a)))
  | _ => none
def shiftOp (op : BinOp) (k : IntKind) (a b : Int) : Option AV :=
  if b < 0 then none else match op with
  | .shl => some (.int k (k.wrap (a * 2 ^ (min b.toNat k.bits))))
  | .shr => some (.int k (a.fdiv (2 ^ (min b.toNat k.bits))))
  | _ => none
def AV.isNil : AV → Option Bool
  | .ptr none | .slice none _ _ _ _ | .map none | .nilFunc | .nilIface => some true
  | .ptr (some _) | .slice (some _) _ _ _ _ | .map (some _) | .func _ _ _ | .yld _ | .iface _ _ => some false
  | _ => none
/-- Is a thing of a kind the nil? -/
def nilOf (kd : EqKind) : AV → Option Bool
  | .ptr p => if kd = .ptr then some p.isNone else none
  | .slice p _ _ _ _ => if kd = .slice then some p.isNone else none
  | .map p => if kd = .map then some p.isNone else none
  | .nilFunc => if kd = .func then some true else none
  | .func _ _ _ => if kd = .func then some false else none
  | .yld _ => if kd = .func then some false else none
  | .nilIface => if kd = .iface then some true else none
  | .iface _ _ => if kd = .iface then some false else none
  | _ => none
def eqOp (kd : EqKind) (x y : AV) : Option Bool := match x, y with
  | .bool a, .bool b => if kd = .bool then some (decide (a = b)) else none
  | x, y => match nilOf kd x, nilOf kd y with
    | some true, some b => some b
    | some a, some true => some a
    | _, _ => none
def binA (op : BinOp) (kd : EqKind) (x y : AV) : Option AV := match op, x, y with
  | .shl, .int k a, .int _ b => shiftOp .shl k a b
  | .shr, .int k a, .int _ b => shiftOp .shr k a b
  | op, .int k a, .int k' b => if k = k' then intOp op k a b else none
  | .eql, x, y => (eqOp kd x y).map .bool
  | .neq, x, y => (eqOp kd x y).map fun b => .bool !b
  | _, _, _ => none

/-- Put values one behind the other into a list. -/
def setL (cs : List AV) (o : Nat) : List AV → List AV
  | [] => cs
  | v :: vs => setL (cs.set o v) (o + 1) vs
def loadA (h : AHeap) (n : Option Nat) : AV → ARes
  | .ptr (some (b, o)) => match h b with
    | some (.cells cs _) => match n with
      | none => match cs[o]? with
        | some v => .val v h
        | none => .stuck
      | some n => if o + n ≤ cs.length then .val (.agg ((cs.drop o).take n)) h else .stuck
    | _ => .stuck
  | _ => .stuck
def storeA (h : AHeap) (n : Nat) (a v : AV) : ARes := match a with
  | .ptr (some (b, o)) => match h b with
    | some (.cells cs false) =>
      if v.cells.length = n ∧ o + n ≤ cs.length ∧ v.cells.all AV.oneCell = true then .val undefA (h.upd b (.cells (setL cs o v.cells) false)) else .stuck
    | _ => .stuck
  | _ => .stuck
def nilCheckA : AV → Option AV
  | .ptr none | .nilIface | .nilFunc => none
  | .func (.method _) _ _ => none
  | v => some v
def fillA (cells : List AV) : List (Nat × Nat × AV) → Option (List AV)
  | [] => some cells
  | (o, s, v) :: r => if v.cells.length = s ∧ o + s ≤ cells.length then fillA (setL cells o v.cells) r else none
def repeatA (z : List AV) : Nat → List AV
  | 0 => []
  | n + 1 => z ++ repeatA z n
def sliceA (sz : Nat) (x : AV) (lo hi mx : Option AV) : Option AV := match x with
  | .slice p sz' len cap ex =>
    let num : Option AV → Nat → Option Nat := fun v d => match v with
      | none => some d
      | some (.int _ i) => if 0 ≤ i then some i.toNat else none
      | _ => none
    match num lo 0, num hi len, num mx cap with
    | some l, some u, some m => if l ≤ u ∧ u ≤ m ∧ m ≤ cap ∧ (mx.isSome = true → hi.isSome = true) then
        match p with
        | none => some (.slice none sz 0 0 true)
        | some (b, o) => if sz' = sz then some (.slice (some (b, o + l * sz)) sz (u - l) (m - l) (ex || mx.isSome)) else none
      else none
    | _, _, _ => none
  | _ => none
def partA (cs : List AV) (off : Nat) : Option Nat → Option AV
  | none => cs[off]?
  | some n => some (.agg ((cs.drop off).take n))
def indexSliceA (sz : Nat) : AV → AV → Option AV
  | .slice (some (b, o)) sz' len _ _, .int _ i => if sz' = sz ∧ 0 ≤ i ∧ i < len then some (.ptr (some (b, o + i.toNat * sz))) else none
  | _, _ => none
def indexArrA (sz len : Nat) : AV → AV → Option AV
  | .ptr (some (b, o)), .int _ i => if 0 ≤ i ∧ i < len then some (.ptr (some (b, o + i.toNat * sz))) else none
  | _, _ => none
def indexA (sz len : Nat) (n : Option Nat) : AV → AV → Option AV
  | .agg cs, .int _ i => if 0 ≤ i ∧ i < len then partA cs (i.toNat * sz) n else none
  | _, _ => none
def indexStrA : AV → AV → Option AV
  | .str s, .int _ i => if 0 ≤ i then (s[i.toNat]?).map fun c => .int .u8 c else none
  | _, _ => none

def allInts : List AV → Option (List Int)
  | [] => some []
  | .int _ n :: l => (allInts l).map (n :: ·)
  | _ => none
/-- Are two keys the same? none: they are not of the kind. -/
def sameKey (kk : KeyKind) (x y : AV) : Option Bool := match kk, x, y with
  | .int, .int k a, .int k' b => if k = k' then some (decide (a = b)) else none
  | .bool, .bool a, .bool b => some (decide (a = b))
  | _, _, _ => none
def findA (kk : KeyKind) (k : AV) : List AEnt → Nat → Option (Option (Nat × AEnt))
  | [], _ => some none
  | e :: es, i => match sameKey kk k e.key with
    | some true => some (some (i, e))
    | some false => findA kk k es (i + 1)
    | none => none
def outA (ok : Bool) (v : AV) (b : Bool) : AV := if ok then .tuple [v, .bool b] else v
def lookupA (h : AHeap) (kk : KeyKind) (zero m k : AV) (ok : Bool) : Option AV :=
  match m with
  | .map none => some (outA ok zero false)
  | .map (some b) => match h b with
    | some (.map es _) => match findA kk k es 0 with
      | some (some (_, e)) => some (outA ok e.val true)
      | some none => some (outA ok zero false)
      | none => none
    | _ => none
  | _ => none
/-- Is a key one of the kind? -/
def keyOk (kk : KeyKind) (k : AV) : Bool := sameKey kk k k == some true
def updateA (h : AHeap) (kk : KeyKind) (m k v : AV) : ARes := match m with
  | .map (some b) => match h b with
    | some (.map es ck) => if keyOk kk k then match findA kk k es 0 with
      | some (some (i, e)) => .val undefA (h.upd b (.map (es.set i { key := k, val := v, born := e.born }) ck))
      | some none => .val undefA (h.upd b (.map (es ++ [{ key := k, val := v, born := ck }]) (ck + 1)))
      | none => .stuck
      else .stuck
    | _ => .stuck
  | _ => .stuck
def deleteA (h : AHeap) (kk : KeyKind) (m k : AV) : ARes := match m with
  | .map (some b) => match h b with
    | some (.map es ck) => if keyOk kk k then match findA kk k es 0 with
      | some (some (i, _)) => .val (.tuple []) (h.upd b (.map (es.eraseIdx i) ck))
      | some none => .val (.tuple []) (h.upd b (.map es ck))
      | none => .stuck
      else .stuck
    | _ => .stuck
  | _ => .stuck
def rangeA (h : AHeap) : AV → ARes
  | .map none => .new (.iter none 0 [] 0) (fun b => .ptr (some (b, 0))) h
  | .map (some m) => match h m with
    | some (.map _ ck) => .new (.iter (some m) ck [] ck) (fun b => .ptr (some (b, 0))) h
    | _ => .stuck
  | _ => .stuck
def nextA (h : AHeap) : AV → ARes
  | .ptr (some (b, 0)) => match h b with
    | some (.iter none _ _ _) => .val (.tuple [.bool false]) h
    | some (.iter (some m) since seen last) => match h m with
      | some (.map es ck) =>
        if (!seen.isEmpty && !es.isEmpty && es.all fun e => decide (last ≤ e.born)) = true then .stuck else
        let left := es.filter fun e => !seen.contains e.born
        let old := left.filter fun e => decide (e.born < since)
        let new := left.filter fun e => decide (since ≤ e.born)
        .any ((if old.isEmpty then [(AV.tuple [.bool false], h)] else []) ++
          (old ++ new).map fun e => (AV.tuple [.bool true, e.key, e.val], h.upd b (.iter (some m) since (seen ++ [e.born]) ck)))
      | _ => .stuck
    | _ => .stuck
  | _ => .stuck
def entryA (h : AHeap) : AV → Option AV
  | .ptr (some (b, 0)) => match h b with
    | some (.iter (some m) _ seen stepped) => match seen.getLast?, h m with
      | some stamp, some (.map es ck) => if ck ≠ stepped then none else (es.find? fun e => e.born == stamp).map fun e => .tuple [e.key, e.val]
      | _, _ => none
    | _ => none
  | _ => none
def assertA (t : TypeId) (zero : AV) (ok : Bool) : AV → Option AV
  | .nilIface => if ok then some (.tuple [zero, .bool false]) else none
  | .iface u v => if u = t then some (if ok then .tuple [v, .bool true] else v) else if ok then some (.tuple [zero, .bool false]) else none
  | _ => none
/-- The cells of a slice's first elements. -/
def firstA (h : AHeap) (sz n : Nat) : AV → Option (List AV)
  | .slice p sz' len _ _ => if n = 0 then some [] else match p with
    | some (b, o) => match h b with
      | some (.cells cs _) => if sz' = sz ∧ n ≤ len ∧ o + n * sz ≤ cs.length then some ((cs.drop o).take (n * sz)) else none
      | _ => none
    | none => none
  | _ => none
def appendA (h : AHeap) (sz bytes : Nat) (s x : AV) : ARes := match s, x with
  | .slice p sz' len cap ex, .slice _ _ n _ _ =>
    if n = 0 then .val s h else
    match firstA h sz len s, firstA h sz n x with
    | some old, some new =>
      if (len + n) * bytes ≤ 140737488355328 ∧ len + n ≤ 9223372036854775807 ∧ old.all AV.oneCell = true ∧ new.all AV.oneCell = true then
        match p with
        | none => .new (.cells new false) (fun b => .slice (some (b, 0)) sz n n false) h
        | some (b, _) =>
          if ex = true ∧ cap < len + n then .new (.cells (old ++ new) false) (fun b => .slice (some (b, 0)) sz (len + n) (len + n) false) h else
          if sz' = sz then match h b with
            | some (.cells _ false) => .new (.cells (old ++ new) false) (fun b => .slice (some (b, 0)) sz (len + n) (len + n) false) (h.upd b .dead)
            | _ => .stuck
          else .stuck
      else .stuck
    | _, _ => .stuck
  | _, _ => .stuck
def lenA (h : AHeap) (k : LenKind) (x : AV) : Option AV := match k, x with
  | .slice, .slice _ _ n _ _ => some (.int .i64 n)
  | .str, .str s => some (.int .i64 s.length)
  | .map, .map none => some (.int .i64 0)
  | .map, .map (some b) => match h b with
    | some (.map es _) => some (.int .i64 es.length)
    | _ => none
  | _, _ => none
def callA (f : AV) (args : List AV) : ARes := match f with
  | .func (.func f) first cap => .call f (first ++ args ++ cap)
  | .yld b => .yield b args
  | _ => .stuck
def makeA (sz bytes : Nat) (zero : List AV) (l c : AV) (h : AHeap) : ARes := match l, c with
  | .int _ l, .int _ c => if 0 ≤ l ∧ l ≤ c ∧ (bytes : Int) * c ≤ 281474976710656 ∧ c ≤ 9223372036854775807 then
      .new (.cells (repeatA zero c.toNat) false) (fun b => .slice (some (b, 0)) sz l.toNat c.toNat true) h else .stuck
  | _, _ => .stuck

def evParts (tm : TM) : List (Nat × Nat × AOpd) → List (Nat × Nat × AV)
  | [] => []
  | (o, s, x) :: r => (o, s, x.ev tm) :: evParts tm r
def evAll (tm : TM) : List AOpd → List AV
  | [] => []
  | x :: r => x.ev tm :: evAll tm r
def evOpt (tm : TM) : Option AOpd → Option AV
  | none => none
  | some x => some (x.ev tm)

def AOp.ev (tm : TM) (h : AHeap) : AOp → ARes
  | .move x => .val (x.ev tm) h
  | .pick c a b => match c.ev tm with
    | .bool t => .val (if t then a.ev tm else b.ev tm) h
    | _ => .stuck
  | .alloc z => .new (.cells z false) (fun b => .ptr (some (b, 0))) h
  | .box x => .new (.cells (x.ev tm).cells false) (fun b => .ptr (some (b, 0))) h
  | .build z parts => ARes.ofOpt h ((fillA z (evParts tm parts)).map .agg)
  | .buildSlice sz ln z parts => match fillA (repeatA z ln) (evParts tm parts) with
    | some cs => .new (.cells cs false) (fun b => .slice (some (b, 0)) sz ln ln true) h
    | none => .stuck
  | .load n a => loadA h n (a.ev tm)
  | .store n a v => storeA h n (a.ev tm) (v.ev tm)
  | .nilCheck x => ARes.ofOpt h (nilCheckA (x.ev tm))
  | .binOp op kd x y => ARes.ofOpt h (binA op kd (x.ev tm) (y.ev tm))
  | .not x => match x.ev tm with
    | .bool b => .val (.bool !b) h
    | _ => .stuck
  | .convInt k x => match x.ev tm with
    | .int _ n => .val (.int k (k.wrap n)) h
    | _ => .stuck
  | .makeIface t x => .val (.iface t (x.ev tm)) h
  | .makeFunc fn f c => .val (.func fn (evAll tm f) (evAll tm c)) h
  | .makeMap => .new (.map [] 0) (fun b => .map (some b)) h
  | .makeSlice sz bytes z l c => makeA sz bytes z (l.ev tm) (c.ev tm) h
  | .slice sz x lo hi mx => ARes.ofOpt h (sliceA sz (x.ev tm) (evOpt tm lo) (evOpt tm hi) (evOpt tm mx))
  | .fieldAddr off x => match x.ev tm with
    | .ptr (some (b, o)) => .val (.ptr (some (b, o + off))) h
    | _ => .stuck
  | .field off n x => match x.ev tm with
    | .agg cs => ARes.ofOpt h (partA cs off n)
    | _ => .stuck
  | .indexSlice sz x i => ARes.ofOpt h (indexSliceA sz (x.ev tm) (i.ev tm))
  | .indexArr sz ln x i => ARes.ofOpt h (indexArrA sz ln (x.ev tm) (i.ev tm))
  | .index sz ln n x i => ARes.ofOpt h (indexA sz ln n (x.ev tm) (i.ev tm))
  | .indexStr x i => ARes.ofOpt h (indexStrA (x.ev tm) (i.ev tm))
  | .lookup kk z m k ok => if keyOk kk (k.ev tm) then ARes.ofOpt h (lookupA h kk z (m.ev tm) (k.ev tm) ok) else .stuck
  | .mapUpdate kk m k v => updateA h kk (m.ev tm) (k.ev tm) (v.ev tm)
  | .delete kk m k => deleteA h kk (m.ev tm) (k.ev tm)
  | .extract t i => match t.ev tm with
    | .tuple vs => ARes.ofOpt h vs[i]?
    | _ => .stuck
  | .range x => rangeA h (x.ev tm)
  | .next x => nextA h (x.ev tm)
  | .entry x => ARes.ofOpt h (entryA h (x.ev tm))
  | .typeAssert t z x ok => ARes.ofOpt h (assertA t z ok (x.ev tm))
  | .call f args => callA (f.ev tm) (evAll tm args)
  | .append sz bytes _ s x => appendA h sz bytes (s.ev tm) (x.ev tm)
  | .len k x => ARes.ofOpt h (lenA h k (x.ev tm))
  | .minInt x y => match x.ev tm, y.ev tm with
    | .int k a, .int k' b => if k = k' then .val (.int k (if b < a then b else a)) h else .stuck
    | _, _ => .stuck
  | .panic x => match x.ev tm with
    | .iface t v => .panic (.iface t v)
    | _ => .stuck
  | .defer f args => match f.ev tm with
    | .func fn first cap => .defer fn cap (first ++ evAll tm args)
    | _ => .stuck
  | .recover => .stuck

end Go.Am
/-
  EACH OPERATION OF THE MODEL DOES WHAT ITS ABSTRACT TWIN SAYS (first part: what leaves the memory as it is).
-/
namespace Go.Am
open Go.RowKit

/-- A frame's slots are told by abstract values. -/
structure ActRel (ι : Emb) (n : Nat) (tm : TM) (tmps : Array Value) : Prop where
  size : tmps.size = n
  get : ∀ t, VRel ι (tm t) (tmps.getD t undef)
theorem ActRel.ext {ι ι' : Emb} (e : Ext ι ι') {n : Nat} {tm : TM} {tmps : Array Value} (h : ActRel ι n tm tmps) : ActRel ι' n tm tmps := ⟨h.size, fun t => (h.get t).ext e⟩
theorem VRel.undef (ι : Emb) : VRel ι undefA undef := .tuple _ _ .nil
theorem ActRel.put {ι : Emb} {n : Nat} {tm : TM} {a : Act} (h : ActRel ι n tm a.tmps) (d : Option Nat) (hd : ∀ x, d = some x → x < n) {v : AV} {v' : Value} (hv : VRel ι v v') :
    ActRel ι n (tm.put d v) (a.put d v').tmps := by
  cases d with
  | none => exact h
  | some d =>
    refine ⟨by simp [Act.put, h.size], fun t => ?_⟩
    simp only [TM.put, Act.put, Array.getD_eq_getD_getElem?, Array.getElem?_setIfInBounds]
    by_cases e : t = d
    · subst e
      have := hd _ rfl
      rw [if_pos rfl, if_pos rfl, if_pos (by rw [h.size]; exact this)]
      exact hv
    · rw [if_neg e, if_neg (fun x => e x.symm)]
      have := h.get t
      simpa only [Array.getD_eq_getD_getElem?] using this

theorem ofScalar_sound {ι : Emb} {v : Value} {a : AV} (h : ofScalar v = some a) : VRel ι a v := by
  unfold ofScalar at h
  split at h <;> simp at h <;> subst h
  · exact .bool _
  · exact .int _ _
  · exact .str _ _ rfl
  · exact .ptrNone
  · exact .sliceNone _ _
  · exact .mapNone
  · exact .nilFunc
  · exact .nilIface
theorem ofScalars_sound {ι : Emb} : ∀ {l : List Value} {m : List AV}, ofScalars l = some m → VsRel ι m l
  | [], m, h => by simp [ofScalars] at h; subst h; exact .nil
  | v :: l, m, h => by
    simp only [ofScalars] at h
    split at h
    · rename_i x y hx hy
      simp at h; subst h
      exact .cons _ _ _ _ (ofScalar_sound hx) (ofScalars_sound hy)
    · simp at h
theorem ofV_sound {ι : Emb} {v : Value} {a : AV} (h : ofV v = some a) : VRel ι a v := by
  unfold ofV at h
  split at h
  · simp only [Option.map_eq_some_iff] at h
    obtain ⟨l, hl, rfl⟩ := h
    exact .agg _ _ (ofScalars_sound hl)
  · simp only [Option.map_eq_some_iff] at h
    obtain ⟨l, hl, rfl⟩ := h
    exact .tuple _ _ (ofScalars_sound hl)
  · exact ofScalar_sound h
theorem compOpd_sound {ι : Emb} {n : Nat} {tm : TM} {act : Act} (h : ActRel ι n tm act.tmps) {x : Operand} {a : AOpd} (hc : compOpd x = some a) : VRel ι (a.ev tm) (act.eval x) := by
  cases x with
  | tmp t => simp [compOpd] at hc; subst hc; exact h.get t
  | const v =>
    simp only [compOpd, Option.map_eq_some_iff] at hc
    obtain ⟨b, hb, rfl⟩ := hc
    exact ofV_sound hb
  | global g => simp [compOpd] at hc
  | func f => simp [compOpd] at hc; subst hc; exact .func _ _ _ _ _ .nil .nil
theorem compOpds_sound {ι : Emb} {n : Nat} {tm : TM} {act : Act} (h : ActRel ι n tm act.tmps) : ∀ {l : List Operand} {m : List AOpd}, compOpds l = some m → VsRel ι (evAll tm m) (l.map act.eval)
  | [], m, e => by simp [compOpds] at e; subst e; exact .nil
  | x :: l, m, e => by
    simp only [compOpds] at e
    split at e
    · rename_i a b ha hb
      simp at e; subst e
      exact .cons _ _ _ _ (compOpd_sound h ha) (compOpds_sound h hb)
    · simp at e

/-- What an operation of the model comes to, told by what its twin says. -/
def Meets (P : Program) (N : Nat) (ι : Emb) (w : World) (res : Result Next) : ARes → Prop
  | .val v h' => ∃ cv w', (res = .ok (.value cv) w' ∨ res = .ok .skip w' ∧ cv = undef) ∧ VRel ι v cv ∧ Sim N ι h' w' ∧ Below N w w'
  | .new x k h' => (∃ m, ∀ b, m ≤ b → h' b = none) ∧ ∀ b, h' b = none → ∃ L cv w', Ext ι (ι.upd b L) ∧ res = .ok (.value cv) w' ∧ VRel (ι.upd b L) (k b) cv ∧ Sim N (ι.upd b L) (h'.upd b x) w' ∧ Below N w w'
  | .any l => ∃ o ∈ l, ∃ cv w', res = .ok (.value cv) w' ∧ VRel ι o.1 cv ∧ Sim N ι o.2 w' ∧ Below N w w'
  | .call f args => (∃ fn, P.funcs[f]? = some fn ∧ fn.body.isSome = true ∧ (fn.name == "runtime.NumGoroutine") = false) → ∃ cargs, res = .ok (.enter f cargs) w ∧ VsRel ι args cargs.toList
  | .yield b args => ∃ L cargs, ι b = some L ∧ VsRel ι args cargs.toList ∧ res = (Instr.yield L.blk cargs).run P w
  | .panic v => ∃ cv, res = .halt (.panic cv) w ∧ VRel ι v cv
  | .defer fn cap args => ∃ ccap cargs, res = .ok (.defer { target := .fn fn ccap, args := cargs }) w ∧ VsRel ι cap ccap.toList ∧ VsRel ι args cargs.toList
  | .stuck => True

/-- A value out of the memory as it is. -/
theorem Meets.val_same {P : Program} {N : Nat} {ι : Emb} {h : AHeap} {w : World} (s : Sim N ι h w) {res : Result Next} {v : AV} {cv : Value} (hr : res = .ok (.value cv) w) (hv : VRel ι v cv) :
    Meets P N ι w res (.val v h) := ⟨cv, w, .inl hr, hv, s, .refl _ _⟩
theorem Meets.opt_same {P : Program} {N : Nat} {ι : Emb} {h : AHeap} {w : World} (s : Sim N ι h w) {res : Result Next} {o : Option AV}
    (hv : ∀ v, o = some v → ∃ cv, res = .ok (.value cv) w ∧ VRel ι v cv) : Meets P N ι w res (.ofOpt h o) := by
  cases o with
  | none => trivial
  | some v => obtain ⟨cv, hr, hv⟩ := hv v rfl; exact .val_same s hr hv

section
variable {P : Program} {N : Nat} {ι : Emb} {h : AHeap} {w : World} (s : Sim N ι h w) {n : Nat} {tm : TM} {act : Act} (ha : ActRel ι n tm act.tmps)

theorem VRel.bool_inv {ι : Emb} {b : Bool} {v : Value} (h : VRel ι (.bool b) v) : v = .bool b := by cases h; rfl
theorem VRel.slice_inv {ι : Emb} {b o sz len cap : Nat} {ex : Bool} {v : Value} (h : VRel ι (.slice (some (b, o)) sz len cap ex) v) :
    ∃ L a C, ι b = some L ∧ v = .slice (some a) len C ∧ len ≤ cap ∧ cap ≤ C ∧ (ex = true → C = cap) ∧ (0 < C → a = ⟨L.blk, L.off + o, none⟩ ∧ o + C * sz ≤ L.room) := by
  cases h with
  | slice _ _ _ _ _ _ L hL a C hl hc hex ha => exact ⟨L, a, C, hL, rfl, hl, hc, hex, ha⟩
theorem VRel.sliceNone_inv {ι : Emb} {sz len cap : Nat} {ex : Bool} {v : Value} (h : VRel ι (.slice none sz len cap ex) v) : len = 0 ∧ cap = 0 ∧ v = .slice none 0 0 := by
  cases h; exact ⟨rfl, rfl, rfl⟩
theorem VRel.int_inv {ι : Emb} {k : IntKind} {n : Int} {v : Value} (h : VRel ι (.int k n) v) : v = .int k n := by cases h; rfl

theorem run_underlyingD {t : TypeId} {d : TypeDesc} (h : P.underlying t = some d) : (underlying t).run P w = .ok d w := by
  simp [underlying, h]
theorem run_info {t : TypeId} {i : TypeInfo} (h : P.info? t = some i) : (typeInfo t).run P w = .ok i w := by simp [typeInfo, h]

theorem intOp_sound {op : BinOp} {k : IntKind} {a b : Int} {v : AV} (h1 : op ≠ .shl) (h2 : op ≠ .shr) (e : intOp op k a b = some v) (t : TypeId) :
    ∃ cv, (binOp op t (.int k a) (.int k b)).run P w = .ok cv w ∧ VRel ι v cv := by
  cases op <;> simp only [intOp] at e <;> first
    | (split at e
       · cases e
       · rename_i hb; cases e; refine ⟨_, ?_, .int _ _⟩; simp [binOp, Op.intDiv, hb])
    | (cases e; refine ⟨_, ?_, .int _ _⟩; simp [binOp, Op.intArith]; done)
    | (cases e; refine ⟨_, ?_, .int _ _⟩; simp [binOp, Op.intBits]; done)
    | (cases e; refine ⟨.bool (a == b), by simp [binOp, Op.intCmp], ?_⟩; rw [show (a == b) = decide (a = b) from rfl]; exact .bool _)
    | (cases e; refine ⟨.bool (a != b), by simp [binOp, Op.intCmp], ?_⟩; rw [show (a != b) = !decide (a = b) from rfl]; exact .bool _)
    | (cases e; refine ⟨_, ?_, .bool _⟩; simp [binOp, Op.intCmp]; done)
    | exact absurd rfl h1
    | exact absurd rfl h2
    | cases e
theorem shiftOp_sound {op : BinOp} {k k' : IntKind} {a b : Int} {v : AV} (h1 : op = .shl ∨ op = .shr) (e : shiftOp op k a b = some v) (t : TypeId) :
    ∃ cv, (binOp op t (.int k a) (.int k' b)).run P w = .ok cv w ∧ VRel ι v cv := by
  unfold shiftOp at e
  split at e
  · cases e
  · rename_i hb
    rcases h1 with rfl | rfl <;> cases e <;> exact ⟨_, by simp [binOp, Op.shift, hb], .int _ _⟩

/-- The types of a kind. -/
def kindOf : EqKind → TypeDesc → Prop
  | .bool, .bool => True
  | .int, .int _ => True
  | .str, .string => True
  | .ptr, .pointer _ => True
  | .slice, .slice _ => True
  | .map, .map _ _ => True
  | .func, .func _ _ _ => True
  | .iface, .interface _ => True
  | _, _ => False
theorem eqKind_sound {t : TypeId} {k : EqKind} (h : eqKind P t = some k) : ∃ d, P.underlying t = some d ∧ kindOf k d := by
  unfold eqKind at h
  split at h <;> simp at h <;> subst h <;> rename_i hd <;> exact ⟨_, hd, trivial⟩

/-- What is nil, in the concrete. -/
def nilC (kd : EqKind) : Value → Option Bool
  | .pointer p => if kd = .ptr then some p.isNone else none
  | .slice p _ _ => if kd = .slice then some p.isNone else none
  | .map p => if kd = .map then some p.isNone else none
  | .nilFunc => if kd = .func then some true else none
  | .func _ _ _ => if kd = .func then some false else none
  | .nilIface => if kd = .iface then some true else none
  | .iface _ _ => if kd = .iface then some false else none
  | _ => none
theorem nilOf_sound {kd : EqKind} {x : AV} {v : Value} (h : VRel ι x v) : nilOf kd x = nilC kd v := by
  cases h <;> simp [nilOf, nilC]
theorem equalIn_nil (m : Nat) {t : TypeId} {kd : EqKind} {d : TypeDesc} (hd : P.underlying t = some d) (hk : kindOf kd d) {x y : Value} {a b : Bool} (hx : nilC kd x = some a) (hy : nilC kd y = some b) (hab : a = true ∨ b = true) :
    (Op.equalIn (m + 1) t x y).run P w = .ok (if a then b else a) w := by
  have hu := run_underlyingD (w := w) hd
  cases x <;> simp [nilC] at hx <;> obtain ⟨rfl, hx⟩ := hx <;> cases y <;> simp [nilC] at hy <;> cases d <;> simp [kindOf] at hk
  all_goals subst hx
  all_goals subst hy
  all_goals simp only [Op.equalIn, Sem.run_bind, hu, Result.andThen_ok]
  all_goals first
    | rfl
    | (rename_i p q _ _; cases p <;> cases q <;> first | rfl | (simp at hab; done))
    | (rename_i p q _; cases p <;> cases q <;> first | rfl | (simp at hab; done))
    | (rename_i p _ _ q _ _ _; cases p <;> cases q <;> first | rfl | (simp at hab; done))
    | (simp at hab; done)
theorem equal_nil {t : TypeId} {kd : EqKind} {d : TypeDesc} (hd : P.underlying t = some d) (hk : kindOf kd d) {x y : Value} {a b : Bool} (hx : nilC kd x = some a) (hy : nilC kd y = some b) (hab : a = true ∨ b = true) :
    (Op.equal t x y).run P w = .ok (if a then b else a) w := equalIn_nil 9999 hd hk hx hy hab

def guardBody (t : TypeId) (x y : Operand) (a b : Value) : Sem Unit := match a, b with
  | .nilIface, .nilIface =>
    if ((x matches .const _) || (y matches .const _)) = true then pure ()
    else do if ← Op.eqGuardIn Op.maxDepth t a b then unsupported (.noEntry "binop/eql: two nil values of an interface type with methods, neither of them the literal nil")
  | .agg _, .agg _ => do
    if !(← program).eqGuardType (← program).depth t then pure ()
    else if ← Op.eqGuardIn Op.maxDepth t a b then unsupported (.noEntry "binop/eql: two nil values of an interface type with methods, in a part of a struct or an array")
  | _, _ => pure ()
theorem eqGuard_eq (op : BinOp) (t : TypeId) (x y : Operand) (a b : Value) : eqGuard op t x y a b = if (!(op matches .eql | .neq)) = true then pure () else guardBody t x y a b := rfl
theorem run_eqGuard {op : BinOp} {t : TypeId} {x y : Operand} {a b : Value} (h : ∀ cs cs', ¬ (a = .agg cs ∧ b = .agg cs')) (hi : a = .nilIface → b = .nilIface → isC x = true ∨ isC y = true) :
    (eqGuard op t x y a b).run P w = .ok () w := by
  have hb : (guardBody t x y a b).run P w = .ok () w := by
    unfold guardBody
    split
    · rw [if_pos (by have := hi rfl rfl; cases x <;> cases y <;> simp_all [isC])]; rfl
    · exact absurd ⟨rfl, rfl⟩ (h _ _)
    · rfl
  have key : ∀ c : Bool, (if c = true then (pure () : Sem Unit) else guardBody t x y a b).run P w = .ok () w := fun c => by
    cases c
    · exact hb
    · rfl
  rw [eqGuard_eq]
  exact key _
theorem nilC_notAgg {kd : EqKind} {v : Value} {b : Bool} (h : nilC kd v = some b) : ∀ cs, v ≠ .agg cs := by intro cs e; subst e; simp [nilC] at h
theorem nilC_iface {kd : EqKind} {b : Bool} (h : nilC kd .nilIface = some b) : kd = .iface := by
  simp [nilC] at h; exact h.1
theorem eqOp_nil {kd : EqKind} {x y : AV} {b : Bool} (e : eqOp kd x y = some b) :
    (∃ p q, x = .bool p ∧ y = .bool q ∧ kd = .bool ∧ b = decide (p = q)) ∨ (∃ p q, nilOf kd x = some p ∧ nilOf kd y = some q ∧ (p = true ∨ q = true) ∧ b = if p then q else p) := by
  unfold eqOp at e
  split at e
  · split at e
    · rename_i hk; cases e; exact .inl ⟨_, _, rfl, rfl, hk, rfl⟩
    · cases e
  · split at e
    · rename_i q hp hq; cases e; exact .inr ⟨true, _, hp, hq, .inl rfl, rfl⟩
    · rename_i p hp hq; cases e; exact .inr ⟨_, true, hp, hq, .inr rfl, by cases b <;> rfl⟩
    · cases e
theorem binOp_eql_nil {kd : EqKind} {t : TypeId} {cx cy : Value} {p q : Bool} (hp : nilC kd cx = some p) (hq : nilC kd cy = some q) :
    (binOp .eql t cx cy = do pure (.bool (← Op.equal t cx cy))) ∧ (binOp .neq t cx cy = do pure (.bool (!(← Op.equal t cx cy)))) := by
  cases cx <;> simp only [nilC] at hp <;> first
    | (cases hp; done)
    | (cases cy <;> simp only [nilC] at hq <;> first
        | (cases hq; done)
        | exact ⟨rfl, rfl⟩
        | (split at hp <;> split at hq <;> simp_all))
theorem eqA_sound {kd : EqKind} {t : TypeId} {d : TypeDesc} (hd : P.underlying t = some d) (hk : kindOf kd d) {x y : AV} {cx cy : Value} (hx : VRel ι x cx) (hy : VRel ι y cy) {b : Bool} (e : eqOp kd x y = some b) :
    (binOp .eql t cx cy).run P w = .ok (.bool b) w ∧ (binOp .neq t cx cy).run P w = .ok (.bool !b) w ∧ (∀ cs cs', ¬ (cx = .agg cs ∧ cy = .agg cs')) ∧ (cx = .nilIface → cy = .nilIface → kd = .iface) := by
  rcases eqOp_nil e with ⟨p, q, rfl, rfl, rfl, rfl⟩ | ⟨p, q, hp, hq, hpq, rfl⟩
  · cases hx; cases hy
    have hd' : P.underlying t = some .bool := by cases d <;> first | exact hd | exact hk.elim
    exact ⟨run_eql_bool (P := P) w t p q hd', run_neq_bool (P := P) w t p q hd', by simp, by simp⟩
  · rw [nilOf_sound hx] at hp
    rw [nilOf_sound hy] at hq
    have h1 := equal_nil (w := w) hd hk hp hq hpq
    obtain ⟨h2, h3⟩ := binOp_eql_nil (t := t) hp hq
    exact ⟨by rw [h2]; simp [h1], by rw [h3]; simp [h1], fun cs cs' h => nilC_notAgg hp _ h.1, fun h1 h2 => by subst h1; exact nilC_iface hp⟩

theorem bin_sound {op : BinOp} {t : TypeId} {kd : EqKind} (hk : eqKind P t = some kd) {x y : Operand} (hi : kd = .iface → isC x = true ∨ isC y = true)
    {a b : AV} {ca cb : Value} (h1 : VRel ι a ca) (h2 : VRel ι b cb) {v : AV} (e : binA op kd a b = some v) :
    ∃ cv, (do eqGuard op t x y ca cb; binOp op t ca cb : Sem Value).run P w = .ok cv w ∧ VRel ι v cv := by
  obtain ⟨d, hd, hkd⟩ := eqKind_sound hk
  have ints : ∀ {k k' : IntKind} {m n : Int}, (eqGuard op t x y (.int k m) (.int k' n)).run P w = .ok () w := fun {k k' m n} => run_eqGuard (by simp) (by simp)
  unfold binA at e
  split at e
  · cases h1; cases h2
    obtain ⟨cv, hr, hv⟩ := shiftOp_sound (P := P) (ι := ι) (w := w) (.inl rfl) e t
    exact ⟨cv, by simp only [Sem.run_bind, ints, Result.andThen_ok]; exact hr, hv⟩
  · cases h1; cases h2
    obtain ⟨cv, hr, hv⟩ := shiftOp_sound (P := P) (ι := ι) (w := w) (.inr rfl) e t
    exact ⟨cv, by simp only [Sem.run_bind, ints, Result.andThen_ok]; exact hr, hv⟩
  · rename_i hs1 hs2
    cases h1; cases h2
    split at e
    · rename_i hkk; subst hkk
      obtain ⟨cv, hr, hv⟩ := intOp_sound (P := P) (ι := ι) (w := w) (fun h => hs1 h) (fun h => hs2 h) e t
      exact ⟨cv, by simp only [Sem.run_bind, ints, Result.andThen_ok]; exact hr, hv⟩
    · cases e
  · simp only [Option.map_eq_some_iff] at e
    obtain ⟨r, hr, rfl⟩ := e
    obtain ⟨q1, _, q3, q4⟩ := eqA_sound (w := w) hd hkd h1 h2 hr
    exact ⟨_, by simp only [Sem.run_bind, run_eqGuard q3 (fun u v => hi (q4 u v)), Result.andThen_ok]; exact q1, .bool _⟩
  · simp only [Option.map_eq_some_iff] at e
    obtain ⟨r, hr, rfl⟩ := e
    obtain ⟨_, q2, q3, q4⟩ := eqA_sound (w := w) hd hkd h1 h2 hr
    exact ⟨_, by simp only [Sem.run_bind, run_eqGuard q3 (fun u v => hi (q4 u v)), Result.andThen_ok]; exact q2, .bool _⟩
  · cases e
end
end Go.Am
