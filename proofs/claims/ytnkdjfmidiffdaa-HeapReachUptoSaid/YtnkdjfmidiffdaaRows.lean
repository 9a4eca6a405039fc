/-
  No cell of these rows narrows 'for every input' (looked for: loops, veiled, ifaces, maps, wideKeys, modest, calm, conditions, laid).
  DERIVED. THE GIVEN ROWS OF THIS SEAT. 6 by the template 'for every input the law returns true; each argument reads behind the call as it read before'; 0 by the template 'total and deterministic' (their statements: YtnkdjfmidiffdaaTotals.lean).
  GIVEN WITH THE SEED: the statements are not yours to turn. If you find one false, say at which input.
  Laid BY PROGRAM, IN A SANDBOX (cutbox-rows.mjs): the forced cells as the released guide's own fill.sh prints them over the translation 95d1bb86355e4162… (all of the seat's roots in one cut). By AI agents, Wed Nov 11 2026. No macro, syntax, notation, axiom, sorry.
-/
import Derived.Test.YtnkdjfmidiffdaaChecked
import GoSem.Claim
import GoSem.ClaimJoined
import GoSem.ClaimMapViews
import Derived.JoinedTies
import Derived.KernelRfl
namespace Go.Proofs.Ytnkdjfmidiffdaa
/- THE CELL 'sum', in the pinned program and in every row, IS THE sha256 OF THE DUMP (.gsa) THAT YtnkdjfmidiffdaaProg.lean LOADS. Nothing in Lean hashes anything: it is a label: what it is worth is what the hold of that sum in a sandbox is worth. -/
noncomputable def Try.pinned : Pinned := { name := "ytnkdjfmidiffdaa", sum := "95d1bb86355e41625aa5863142bccdbcffe7f5637fd0193633c83db1edb5d366", checked := Try.checked }
namespace Rows
def none {H : Type} : Left H := { results := [], args := [] }

/-- 'mullionlaw12.HeapRoom': WHATEVER THE INPUT: true; the input reads as it did. -/
def heapRoomSpec : ChangeSpec := { name := "heapRoom", fn := fun _ => fun
  | [d1, d2, d3, d4] => { results := [.lit (.bool true)], args := [d1, d2, d3, d4] }
  | _ => none }
def heapRoomRow : OpenClaim := { program := "ytnkdjfmidiffdaa", sum := "95d1bb86355e41625aa5863142bccdbcffe7f5637fd0193633c83db1edb5d366", func := "mullion/mullionlaw12.HeapRoom", spec := "heapRoom", unfollowed := true, recurses := true, apart := false }
def HeapRoomSaid : Prop := heapRoomRow.holds Try.pinned (OpenSpec.ofChange heapRoomSpec)

/-- ITS FALSE NEIGHBOUR: 'it returns false'. Refute it at one input. -/
def heapRoomWrong : ChangeSpec := { name := "heapRoom", fn := fun _ => fun
  | [d1, d2, d3, d4] => { results := [.lit (.bool false)], args := [d1, d2, d3, d4] }
  | _ => none }
def HeapRoomWrongFalsely : Prop := heapRoomRow.holds Try.pinned (OpenSpec.ofChange heapRoomWrong)

/-- 'mullionlaw12.HeapReach': WHATEVER THE INPUT: true; the input reads as it did. -/
def heapReachSpec : ChangeSpec := { name := "heapReach", fn := fun _ => fun
  | [d1, d2, d3, d4] => { results := [.lit (.bool true)], args := [d1, d2, d3, d4] }
  | _ => none }
def heapReachRow : OpenClaim := { program := "ytnkdjfmidiffdaa", sum := "95d1bb86355e41625aa5863142bccdbcffe7f5637fd0193633c83db1edb5d366", func := "mullion/mullionlaw12.HeapReach", spec := "heapReach", unfollowed := true, recurses := true, apart := false }
def HeapReachSaid : Prop := heapReachRow.holds Try.pinned (OpenSpec.ofChange heapReachSpec)

/-- ITS FALSE NEIGHBOUR: 'it returns false'. Refute it at one input. -/
def heapReachWrong : ChangeSpec := { name := "heapReach", fn := fun _ => fun
  | [d1, d2, d3, d4] => { results := [.lit (.bool false)], args := [d1, d2, d3, d4] }
  | _ => none }
def HeapReachWrongFalsely : Prop := heapReachRow.holds Try.pinned (OpenSpec.ofChange heapReachWrong)

/-- 'mullionlaw12.HeapNames': WHATEVER THE INPUT: true; the input reads as it did. -/
def heapNamesSpec : ChangeSpec := { name := "heapNames", fn := fun _ => fun
  | [d1, d2, d3] => { results := [.lit (.bool true)], args := [d1, d2, d3] }
  | _ => none }
def heapNamesRow : OpenClaim := { program := "ytnkdjfmidiffdaa", sum := "95d1bb86355e41625aa5863142bccdbcffe7f5637fd0193633c83db1edb5d366", func := "mullion/mullionlaw12.HeapNames", spec := "heapNames", unfollowed := true, recurses := true, apart := false }
def HeapNamesSaid : Prop := heapNamesRow.holds Try.pinned (OpenSpec.ofChange heapNamesSpec)

/-- ITS FALSE NEIGHBOUR: 'it returns false'. Refute it at one input. -/
def heapNamesWrong : ChangeSpec := { name := "heapNames", fn := fun _ => fun
  | [d1, d2, d3] => { results := [.lit (.bool false)], args := [d1, d2, d3] }
  | _ => none }
def HeapNamesWrongFalsely : Prop := heapNamesRow.holds Try.pinned (OpenSpec.ofChange heapNamesWrong)

/-- 'mullionlaw12.HeapTwice': WHATEVER THE INPUT: true; the input reads as it did. -/
def heapTwiceSpec : ChangeSpec := { name := "heapTwice", fn := fun _ => fun
  | [d1, d2, d3] => { results := [.lit (.bool true)], args := [d1, d2, d3] }
  | _ => none }
def heapTwiceRow : OpenClaim := { program := "ytnkdjfmidiffdaa", sum := "95d1bb86355e41625aa5863142bccdbcffe7f5637fd0193633c83db1edb5d366", func := "mullion/mullionlaw12.HeapTwice", spec := "heapTwice", unfollowed := true, recurses := true, apart := false }
def HeapTwiceSaid : Prop := heapTwiceRow.holds Try.pinned (OpenSpec.ofChange heapTwiceSpec)

/-- ITS FALSE NEIGHBOUR: 'it returns false'. Refute it at one input. -/
def heapTwiceWrong : ChangeSpec := { name := "heapTwice", fn := fun _ => fun
  | [d1, d2, d3] => { results := [.lit (.bool false)], args := [d1, d2, d3] }
  | _ => none }
def HeapTwiceWrongFalsely : Prop := heapTwiceRow.holds Try.pinned (OpenSpec.ofChange heapTwiceWrong)

/-- 'mullionlaw12.HeapActs': WHATEVER THE INPUT: true; the input reads as it did. -/
def heapActsSpec : ChangeSpec := { name := "heapActs", fn := fun _ => fun
  | [d1, d2] => { results := [.lit (.bool true)], args := [d1, d2] }
  | _ => none }
def heapActsRow : OpenClaim := { program := "ytnkdjfmidiffdaa", sum := "95d1bb86355e41625aa5863142bccdbcffe7f5637fd0193633c83db1edb5d366", func := "mullion/mullionlaw12.HeapActs", spec := "heapActs", unfollowed := true, recurses := true, apart := false }
def HeapActsSaid : Prop := heapActsRow.holds Try.pinned (OpenSpec.ofChange heapActsSpec)

/-- ITS FALSE NEIGHBOUR: 'it returns false'. Refute it at one input. -/
def heapActsWrong : ChangeSpec := { name := "heapActs", fn := fun _ => fun
  | [d1, d2] => { results := [.lit (.bool false)], args := [d1, d2] }
  | _ => none }
def HeapActsWrongFalsely : Prop := heapActsRow.holds Try.pinned (OpenSpec.ofChange heapActsWrong)

/-- 'mullionlaw12.HeapApart': WHATEVER THE INPUT: true; the input reads as it did. -/
def heapApartSpec : ChangeSpec := { name := "heapApart", fn := fun _ => fun
  | [d1, d2, d3] => { results := [.lit (.bool true)], args := [d1, d2, d3] }
  | _ => none }
def heapApartRow : OpenClaim := { program := "ytnkdjfmidiffdaa", sum := "95d1bb86355e41625aa5863142bccdbcffe7f5637fd0193633c83db1edb5d366", func := "mullion/mullionlaw12.HeapApart", spec := "heapApart", unfollowed := true, recurses := true, apart := false }
def HeapApartSaid : Prop := heapApartRow.holds Try.pinned (OpenSpec.ofChange heapApartSpec)

/-- ITS FALSE NEIGHBOUR: 'it returns false'. Refute it at one input. -/
def heapApartWrong : ChangeSpec := { name := "heapApart", fn := fun _ => fun
  | [d1, d2, d3] => { results := [.lit (.bool false)], args := [d1, d2, d3] }
  | _ => none }
def HeapApartWrongFalsely : Prop := heapApartRow.holds Try.pinned (OpenSpec.ofChange heapApartWrong)

/- THE SECOND FORM. 'bulk': how many values and letters a reading holds, each counted each time it is reached (what is shared counts as often as it is met; a slice's spare places count too). A statement '..UptoSaid' is the law's where the arguments, and the package variables that the reading takes, are together of bulk at most 1048576: NARROWER than '..Said'. Prove '..Said' where nothing that the law and all that it calls make is longer than what came in: it says more and counts as full. Else prove '..UptoSaid'. A law counts once. -/
mutual
def uptoBulk {H : Type} : DataW H → Nat
  | .lit (.string bytes) => bytes.length + 1
  | .lit _ => 1
  | .nil => 1
  | .ptr d => uptoBulk d + 1
  | .slice elems spare => uptoBulkAll elems + uptoBulkAll spare + 1
  | .agg parts => uptoBulkAll parts + 1
  | .iface _ d => uptoBulk d + 1
  | .map entries => uptoBulkEntries entries + 1
  | .held _ => 1
def uptoBulkAll {H : Type} : List (DataW H) → Nat
  | [] => 0
  | d :: r => uptoBulk d + uptoBulkAll r
def uptoBulkEntries {H : Type} : List (Lit × DataW H) → Nat
  | [] => 0
  | x :: r => uptoBulkEntry x + uptoBulkEntries r
def uptoBulkEntry {H : Type} : Lit × DataW H → Nat
  | (.string bytes, d) => bytes.length + uptoBulk d + 1
  | (_, d) => uptoBulk d + 1
 end
def uptoSmall : (H : Type) → List (DataW H) → Bool := fun _ ds => decide (uptoBulkAll ds ≤ 1048576)
def OpenSpec.upto (s : _root_.Go.ChangeSpec) : _root_.Go.OpenSpec := { _root_.Go.OpenSpec.ofChange s with cond := some uptoSmall }

/-- 'mullionlaw12.HeapRoom', WHERE WHAT IT READS IS OF BULK AT MOST 1048576: true; the input reads as it did. -/
def heapRoomUptoRow : OpenClaim := { program := "ytnkdjfmidiffdaa", sum := "95d1bb86355e41625aa5863142bccdbcffe7f5637fd0193633c83db1edb5d366", func := "mullion/mullionlaw12.HeapRoom", spec := "heapRoom", unfollowed := true, recurses := true, apart := false, narrowed := true }
def HeapRoomUptoSaid : Prop := heapRoomUptoRow.holds Try.pinned (OpenSpec.upto heapRoomSpec)

/-- 'mullionlaw12.HeapReach', WHERE WHAT IT READS IS OF BULK AT MOST 1048576: true; the input reads as it did. -/
def heapReachUptoRow : OpenClaim := { program := "ytnkdjfmidiffdaa", sum := "95d1bb86355e41625aa5863142bccdbcffe7f5637fd0193633c83db1edb5d366", func := "mullion/mullionlaw12.HeapReach", spec := "heapReach", unfollowed := true, recurses := true, apart := false, narrowed := true }
def HeapReachUptoSaid : Prop := heapReachUptoRow.holds Try.pinned (OpenSpec.upto heapReachSpec)

/-- 'mullionlaw12.HeapNames', WHERE WHAT IT READS IS OF BULK AT MOST 1048576: true; the input reads as it did. -/
def heapNamesUptoRow : OpenClaim := { program := "ytnkdjfmidiffdaa", sum := "95d1bb86355e41625aa5863142bccdbcffe7f5637fd0193633c83db1edb5d366", func := "mullion/mullionlaw12.HeapNames", spec := "heapNames", unfollowed := true, recurses := true, apart := false, narrowed := true }
def HeapNamesUptoSaid : Prop := heapNamesUptoRow.holds Try.pinned (OpenSpec.upto heapNamesSpec)

/-- 'mullionlaw12.HeapTwice', WHERE WHAT IT READS IS OF BULK AT MOST 1048576: true; the input reads as it did. -/
def heapTwiceUptoRow : OpenClaim := { program := "ytnkdjfmidiffdaa", sum := "95d1bb86355e41625aa5863142bccdbcffe7f5637fd0193633c83db1edb5d366", func := "mullion/mullionlaw12.HeapTwice", spec := "heapTwice", unfollowed := true, recurses := true, apart := false, narrowed := true }
def HeapTwiceUptoSaid : Prop := heapTwiceUptoRow.holds Try.pinned (OpenSpec.upto heapTwiceSpec)

/-- 'mullionlaw12.HeapActs', WHERE WHAT IT READS IS OF BULK AT MOST 1048576: true; the input reads as it did. -/
def heapActsUptoRow : OpenClaim := { program := "ytnkdjfmidiffdaa", sum := "95d1bb86355e41625aa5863142bccdbcffe7f5637fd0193633c83db1edb5d366", func := "mullion/mullionlaw12.HeapActs", spec := "heapActs", unfollowed := true, recurses := true, apart := false, narrowed := true }
def HeapActsUptoSaid : Prop := heapActsUptoRow.holds Try.pinned (OpenSpec.upto heapActsSpec)

/-- 'mullionlaw12.HeapApart', WHERE WHAT IT READS IS OF BULK AT MOST 1048576: true; the input reads as it did. -/
def heapApartUptoRow : OpenClaim := { program := "ytnkdjfmidiffdaa", sum := "95d1bb86355e41625aa5863142bccdbcffe7f5637fd0193633c83db1edb5d366", func := "mullion/mullionlaw12.HeapApart", spec := "heapApart", unfollowed := true, recurses := true, apart := false, narrowed := true }
def HeapApartUptoSaid : Prop := heapApartUptoRow.holds Try.pinned (OpenSpec.upto heapApartSpec)

end Rows
end Go.Proofs.Ytnkdjfmidiffdaa
