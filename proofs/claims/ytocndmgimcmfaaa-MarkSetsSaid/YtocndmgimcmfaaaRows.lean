/-
  No cell of these rows narrows 'for every input' (looked for: loops, veiled, ifaces, maps, wideKeys, modest, calm, conditions, laid).
  DERIVED. THE GIVEN ROWS OF THIS SEAT. 10 by the template 'for every input the law returns true; each argument reads behind the call as it read before'; 0 by the template 'total and deterministic' (their statements: YtocndmgimcmfaaaTotals.lean).
  GIVEN WITH THE SEED: the statements are not yours to turn. If you find one false, say at which input.
  Laid BY PROGRAM, IN A SANDBOX (cutbox-rows.mjs): the forced cells as the released guide's own fill.sh prints them over the translation b5e8ffa42ed94079… (all of the seat's roots in one cut). By AI agents, Wed Nov 11 2026. No macro, syntax, notation, axiom, sorry.
-/
import Derived.Test.YtocndmgimcmfaaaChecked
import GoSem.Claim
import GoSem.ClaimJoined
import GoSem.ClaimMapViews
import Derived.JoinedTies
import Derived.KernelRfl
namespace Go.Proofs.Ytocndmgimcmfaaa
/- THE CELL 'sum', in the pinned program and in every row, IS THE sha256 OF THE DUMP (.gsa) THAT YtocndmgimcmfaaaProg.lean LOADS. Nothing in Lean hashes anything: it is a label: what it is worth is what the hold of that sum in a sandbox is worth. -/
noncomputable def Try.pinned : Pinned := { name := "ytocndmgimcmfaaa", sum := "b5e8ffa42ed9407975d6985ade543a2258a3a975ab388149781d41152a377e24", checked := Try.checked }
namespace Rows
def none {H : Type} : Left H := { results := [], args := [] }

/-- 'joinerylaw2.MarkNames': WHATEVER THE INPUT: true; the input reads as it did. -/
def markNamesSpec : ChangeSpec := { name := "markNames", fn := fun _ => fun
  | [d1, d2, d3] => { results := [.lit (.bool true)], args := [d1, d2, d3] }
  | _ => none }
def markNamesRow : OpenClaim := { program := "ytocndmgimcmfaaa", sum := "b5e8ffa42ed9407975d6985ade543a2258a3a975ab388149781d41152a377e24", func := "joinery/joinerylaw2.MarkNames", spec := "markNames", apart := false }
def MarkNamesSaid : Prop := markNamesRow.holds Try.pinned (OpenSpec.ofChange markNamesSpec)

/-- ITS FALSE NEIGHBOUR: 'it returns false'. Refute it at one input. -/
def markNamesWrong : ChangeSpec := { name := "markNames", fn := fun _ => fun
  | [d1, d2, d3] => { results := [.lit (.bool false)], args := [d1, d2, d3] }
  | _ => none }
def MarkNamesWrongFalsely : Prop := markNamesRow.holds Try.pinned (OpenSpec.ofChange markNamesWrong)

/-- 'joinerylaw2.MarkKnown': WHATEVER THE INPUT: true; the input reads as it did. -/
def markKnownSpec : ChangeSpec := { name := "markKnown", fn := fun _ => fun
  | [d] => { results := [.lit (.bool true)], args := [d] }
  | _ => none }
def markKnownRow : OpenClaim := { program := "ytocndmgimcmfaaa", sum := "b5e8ffa42ed9407975d6985ade543a2258a3a975ab388149781d41152a377e24", func := "joinery/joinerylaw2.MarkKnown", spec := "markKnown", apart := false }
def MarkKnownSaid : Prop := markKnownRow.holds Try.pinned (OpenSpec.ofChange markKnownSpec)

/-- ITS FALSE NEIGHBOUR: 'it returns false'. Refute it at one input. -/
def markKnownWrong : ChangeSpec := { name := "markKnown", fn := fun _ => fun
  | [d] => { results := [.lit (.bool false)], args := [d] }
  | _ => none }
def MarkKnownWrongFalsely : Prop := markKnownRow.holds Try.pinned (OpenSpec.ofChange markKnownWrong)

/-- 'joinerylaw2.MarkRunes': WHATEVER THE INPUT: true; the input reads as it did. -/
def markRunesSpec : ChangeSpec := { name := "markRunes", fn := fun _ => fun
  | [d1, d2, d3] => { results := [.lit (.bool true)], args := [d1, d2, d3] }
  | _ => none }
def markRunesRow : OpenClaim := { program := "ytocndmgimcmfaaa", sum := "b5e8ffa42ed9407975d6985ade543a2258a3a975ab388149781d41152a377e24", func := "joinery/joinerylaw2.MarkRunes", spec := "markRunes", apart := false }
def MarkRunesSaid : Prop := markRunesRow.holds Try.pinned (OpenSpec.ofChange markRunesSpec)

/-- ITS FALSE NEIGHBOUR: 'it returns false'. Refute it at one input. -/
def markRunesWrong : ChangeSpec := { name := "markRunes", fn := fun _ => fun
  | [d1, d2, d3] => { results := [.lit (.bool false)], args := [d1, d2, d3] }
  | _ => none }
def MarkRunesWrongFalsely : Prop := markRunesRow.holds Try.pinned (OpenSpec.ofChange markRunesWrong)

/-- 'joinerylaw2.MarkLong': WHATEVER THE INPUT: true; the input reads as it did. -/
def markLongSpec : ChangeSpec := { name := "markLong", fn := fun _ => fun
  | [d1, d2] => { results := [.lit (.bool true)], args := [d1, d2] }
  | _ => none }
def markLongRow : OpenClaim := { program := "ytocndmgimcmfaaa", sum := "b5e8ffa42ed9407975d6985ade543a2258a3a975ab388149781d41152a377e24", func := "joinery/joinerylaw2.MarkLong", spec := "markLong", apart := false }
def MarkLongSaid : Prop := markLongRow.holds Try.pinned (OpenSpec.ofChange markLongSpec)

/-- ITS FALSE NEIGHBOUR: 'it returns false'. Refute it at one input. -/
def markLongWrong : ChangeSpec := { name := "markLong", fn := fun _ => fun
  | [d1, d2] => { results := [.lit (.bool false)], args := [d1, d2] }
  | _ => none }
def MarkLongWrongFalsely : Prop := markLongRow.holds Try.pinned (OpenSpec.ofChange markLongWrong)

/-- 'joinerylaw2.MarkEach': WHATEVER THE INPUT: true; the input reads as it did. -/
def markEachSpec : ChangeSpec := { name := "markEach", fn := fun _ => fun
  | [d1, d2] => { results := [.lit (.bool true)], args := [d1, d2] }
  | _ => none }
def markEachRow : OpenClaim := { program := "ytocndmgimcmfaaa", sum := "b5e8ffa42ed9407975d6985ade543a2258a3a975ab388149781d41152a377e24", func := "joinery/joinerylaw2.MarkEach", spec := "markEach", apart := false }
def MarkEachSaid : Prop := markEachRow.holds Try.pinned (OpenSpec.ofChange markEachSpec)

/-- ITS FALSE NEIGHBOUR: 'it returns false'. Refute it at one input. -/
def markEachWrong : ChangeSpec := { name := "markEach", fn := fun _ => fun
  | [d1, d2] => { results := [.lit (.bool false)], args := [d1, d2] }
  | _ => none }
def MarkEachWrongFalsely : Prop := markEachRow.holds Try.pinned (OpenSpec.ofChange markEachWrong)

/-- 'joinerylaw2.MarkJoin': WHATEVER THE INPUT: true; the input reads as it did. -/
def markJoinSpec : ChangeSpec := { name := "markJoin", fn := fun _ => fun
  | [d1, d2] => { results := [.lit (.bool true)], args := [d1, d2] }
  | _ => none }
def markJoinRow : OpenClaim := { program := "ytocndmgimcmfaaa", sum := "b5e8ffa42ed9407975d6985ade543a2258a3a975ab388149781d41152a377e24", func := "joinery/joinerylaw2.MarkJoin", spec := "markJoin", apart := false }
def MarkJoinSaid : Prop := markJoinRow.holds Try.pinned (OpenSpec.ofChange markJoinSpec)

/-- ITS FALSE NEIGHBOUR: 'it returns false'. Refute it at one input. -/
def markJoinWrong : ChangeSpec := { name := "markJoin", fn := fun _ => fun
  | [d1, d2] => { results := [.lit (.bool false)], args := [d1, d2] }
  | _ => none }
def MarkJoinWrongFalsely : Prop := markJoinRow.holds Try.pinned (OpenSpec.ofChange markJoinWrong)

/-- 'joinerylaw2.MarkAll': WHATEVER THE INPUT: true; the input reads as it did. -/
def markAllSpec : ChangeSpec := { name := "markAll", fn := fun _ => fun
  | [d1, d2, d3] => { results := [.lit (.bool true)], args := [d1, d2, d3] }
  | _ => none }
def markAllRow : OpenClaim := { program := "ytocndmgimcmfaaa", sum := "b5e8ffa42ed9407975d6985ade543a2258a3a975ab388149781d41152a377e24", func := "joinery/joinerylaw2.MarkAll", spec := "markAll", unfollowed := true, recurses := true, apart := false }
def MarkAllSaid : Prop := markAllRow.holds Try.pinned (OpenSpec.ofChange markAllSpec)

/-- ITS FALSE NEIGHBOUR: 'it returns false'. Refute it at one input. -/
def markAllWrong : ChangeSpec := { name := "markAll", fn := fun _ => fun
  | [d1, d2, d3] => { results := [.lit (.bool false)], args := [d1, d2, d3] }
  | _ => none }
def MarkAllWrongFalsely : Prop := markAllRow.holds Try.pinned (OpenSpec.ofChange markAllWrong)

/-- 'joinerylaw2.MarkSets': WHATEVER THE INPUT: true; the input reads as it did. -/
def markSetsSpec : ChangeSpec := { name := "markSets", fn := fun _ => fun
  | [d1, d2, d3, d4] => { results := [.lit (.bool true)], args := [d1, d2, d3, d4] }
  | _ => none }
def markSetsRow : OpenClaim := { program := "ytocndmgimcmfaaa", sum := "b5e8ffa42ed9407975d6985ade543a2258a3a975ab388149781d41152a377e24", func := "joinery/joinerylaw2.MarkSets", spec := "markSets", unfollowed := true, recurses := true, apart := false }
def MarkSetsSaid : Prop := markSetsRow.holds Try.pinned (OpenSpec.ofChange markSetsSpec)

/-- ITS FALSE NEIGHBOUR: 'it returns false'. Refute it at one input. -/
def markSetsWrong : ChangeSpec := { name := "markSets", fn := fun _ => fun
  | [d1, d2, d3, d4] => { results := [.lit (.bool false)], args := [d1, d2, d3, d4] }
  | _ => none }
def MarkSetsWrongFalsely : Prop := markSetsRow.holds Try.pinned (OpenSpec.ofChange markSetsWrong)

/-- 'joinerylaw2.MarkOrder': WHATEVER THE INPUT: true; the input reads as it did. -/
def markOrderSpec : ChangeSpec := { name := "markOrder", fn := fun _ => fun
  | [d1, d2] => { results := [.lit (.bool true)], args := [d1, d2] }
  | _ => none }
def markOrderRow : OpenClaim := { program := "ytocndmgimcmfaaa", sum := "b5e8ffa42ed9407975d6985ade543a2258a3a975ab388149781d41152a377e24", func := "joinery/joinerylaw2.MarkOrder", spec := "markOrder", unfollowed := true, recurses := true, apart := false }
def MarkOrderSaid : Prop := markOrderRow.holds Try.pinned (OpenSpec.ofChange markOrderSpec)

/-- ITS FALSE NEIGHBOUR: 'it returns false'. Refute it at one input. -/
def markOrderWrong : ChangeSpec := { name := "markOrder", fn := fun _ => fun
  | [d1, d2] => { results := [.lit (.bool false)], args := [d1, d2] }
  | _ => none }
def MarkOrderWrongFalsely : Prop := markOrderRow.holds Try.pinned (OpenSpec.ofChange markOrderWrong)

/-- 'joinerylaw2.MarkFive': WHATEVER THE INPUT: true; the input reads as it did. -/
def markFiveSpec : ChangeSpec := { name := "markFive", fn := fun _ => fun
  | [d1, d2] => { results := [.lit (.bool true)], args := [d1, d2] }
  | _ => none }
def markFiveRow : OpenClaim := { program := "ytocndmgimcmfaaa", sum := "b5e8ffa42ed9407975d6985ade543a2258a3a975ab388149781d41152a377e24", func := "joinery/joinerylaw2.MarkFive", spec := "markFive", unfollowed := true, recurses := true, apart := false }
def MarkFiveSaid : Prop := markFiveRow.holds Try.pinned (OpenSpec.ofChange markFiveSpec)

/-- ITS FALSE NEIGHBOUR: 'it returns false'. Refute it at one input. -/
def markFiveWrong : ChangeSpec := { name := "markFive", fn := fun _ => fun
  | [d1, d2] => { results := [.lit (.bool false)], args := [d1, d2] }
  | _ => none }
def MarkFiveWrongFalsely : Prop := markFiveRow.holds Try.pinned (OpenSpec.ofChange markFiveWrong)

/- THE SECOND FORM. 'bulk': how many values and letters a reading holds, each counted each time it is reached (what is shared counts as often as it is met; a slice's spare places count too). A statement '..UptoSaid' is the law's where the arguments, and the package variables that the reading takes, are together of bulk at most 1048576: NARROWER than '..Said'. Prove '..Said' where nothing that the law and all that it calls make is longer than what came in: it says more and counts as full. Else prove '..UptoSaid'. A law counts once. -/
mutual
def uptoBulk {H : Type} : DataW H → Nat
  | .lit (.string bytes) => bytes.length + 1
  | .lit _ => 1
  | .nil => 1
  | .ptr d => uptoBulk d + 1
  | .slice elems spare => uptoBulkAll elems + uptoBulkAll spare + 1
  | .agg parts => uptoBulkAll parts + 1
  | .iface _ d => uptoBulk d + 1
  | .map entries => uptoBulkEntries entries + 1
  | .held _ => 1
def uptoBulkAll {H : Type} : List (DataW H) → Nat
  | [] => 0
  | d :: r => uptoBulk d + uptoBulkAll r
def uptoBulkEntries {H : Type} : List (Lit × DataW H) → Nat
  | [] => 0
  | x :: r => uptoBulkEntry x + uptoBulkEntries r
def uptoBulkEntry {H : Type} : Lit × DataW H → Nat
  | (.string bytes, d) => bytes.length + uptoBulk d + 1
  | (_, d) => uptoBulk d + 1
 end
def uptoSmall : (H : Type) → List (DataW H) → Bool := fun _ ds => decide (uptoBulkAll ds ≤ 1048576)
def OpenSpec.upto (s : _root_.Go.ChangeSpec) : _root_.Go.OpenSpec := { _root_.Go.OpenSpec.ofChange s with cond := some uptoSmall }

/-- 'joinerylaw2.MarkNames', WHERE WHAT IT READS IS OF BULK AT MOST 1048576: true; the input reads as it did. -/
def markNamesUptoRow : OpenClaim := { program := "ytocndmgimcmfaaa", sum := "b5e8ffa42ed9407975d6985ade543a2258a3a975ab388149781d41152a377e24", func := "joinery/joinerylaw2.MarkNames", spec := "markNames", apart := false, narrowed := true }
def MarkNamesUptoSaid : Prop := markNamesUptoRow.holds Try.pinned (OpenSpec.upto markNamesSpec)

/-- 'joinerylaw2.MarkKnown', WHERE WHAT IT READS IS OF BULK AT MOST 1048576: true; the input reads as it did. -/
def markKnownUptoRow : OpenClaim := { program := "ytocndmgimcmfaaa", sum := "b5e8ffa42ed9407975d6985ade543a2258a3a975ab388149781d41152a377e24", func := "joinery/joinerylaw2.MarkKnown", spec := "markKnown", apart := false, narrowed := true }
def MarkKnownUptoSaid : Prop := markKnownUptoRow.holds Try.pinned (OpenSpec.upto markKnownSpec)

/-- 'joinerylaw2.MarkRunes', WHERE WHAT IT READS IS OF BULK AT MOST 1048576: true; the input reads as it did. -/
def markRunesUptoRow : OpenClaim := { program := "ytocndmgimcmfaaa", sum := "b5e8ffa42ed9407975d6985ade543a2258a3a975ab388149781d41152a377e24", func := "joinery/joinerylaw2.MarkRunes", spec := "markRunes", apart := false, narrowed := true }
def MarkRunesUptoSaid : Prop := markRunesUptoRow.holds Try.pinned (OpenSpec.upto markRunesSpec)

/-- 'joinerylaw2.MarkLong', WHERE WHAT IT READS IS OF BULK AT MOST 1048576: true; the input reads as it did. -/
def markLongUptoRow : OpenClaim := { program := "ytocndmgimcmfaaa", sum := "b5e8ffa42ed9407975d6985ade543a2258a3a975ab388149781d41152a377e24", func := "joinery/joinerylaw2.MarkLong", spec := "markLong", apart := false, narrowed := true }
def MarkLongUptoSaid : Prop := markLongUptoRow.holds Try.pinned (OpenSpec.upto markLongSpec)

/-- 'joinerylaw2.MarkEach', WHERE WHAT IT READS IS OF BULK AT MOST 1048576: true; the input reads as it did. -/
def markEachUptoRow : OpenClaim := { program := "ytocndmgimcmfaaa", sum := "b5e8ffa42ed9407975d6985ade543a2258a3a975ab388149781d41152a377e24", func := "joinery/joinerylaw2.MarkEach", spec := "markEach", apart := false, narrowed := true }
def MarkEachUptoSaid : Prop := markEachUptoRow.holds Try.pinned (OpenSpec.upto markEachSpec)

/-- 'joinerylaw2.MarkJoin', WHERE WHAT IT READS IS OF BULK AT MOST 1048576: true; the input reads as it did. -/
def markJoinUptoRow : OpenClaim := { program := "ytocndmgimcmfaaa", sum := "b5e8ffa42ed9407975d6985ade543a2258a3a975ab388149781d41152a377e24", func := "joinery/joinerylaw2.MarkJoin", spec := "markJoin", apart := false, narrowed := true }
def MarkJoinUptoSaid : Prop := markJoinUptoRow.holds Try.pinned (OpenSpec.upto markJoinSpec)

/-- 'joinerylaw2.MarkAll', WHERE WHAT IT READS IS OF BULK AT MOST 1048576: true; the input reads as it did. -/
def markAllUptoRow : OpenClaim := { program := "ytocndmgimcmfaaa", sum := "b5e8ffa42ed9407975d6985ade543a2258a3a975ab388149781d41152a377e24", func := "joinery/joinerylaw2.MarkAll", spec := "markAll", unfollowed := true, recurses := true, apart := false, narrowed := true }
def MarkAllUptoSaid : Prop := markAllUptoRow.holds Try.pinned (OpenSpec.upto markAllSpec)

/-- 'joinerylaw2.MarkSets', WHERE WHAT IT READS IS OF BULK AT MOST 1048576: true; the input reads as it did. -/
def markSetsUptoRow : OpenClaim := { program := "ytocndmgimcmfaaa", sum := "b5e8ffa42ed9407975d6985ade543a2258a3a975ab388149781d41152a377e24", func := "joinery/joinerylaw2.MarkSets", spec := "markSets", unfollowed := true, recurses := true, apart := false, narrowed := true }
def MarkSetsUptoSaid : Prop := markSetsUptoRow.holds Try.pinned (OpenSpec.upto markSetsSpec)

/-- 'joinerylaw2.MarkOrder', WHERE WHAT IT READS IS OF BULK AT MOST 1048576: true; the input reads as it did. -/
def markOrderUptoRow : OpenClaim := { program := "ytocndmgimcmfaaa", sum := "b5e8ffa42ed9407975d6985ade543a2258a3a975ab388149781d41152a377e24", func := "joinery/joinerylaw2.MarkOrder", spec := "markOrder", unfollowed := true, recurses := true, apart := false, narrowed := true }
def MarkOrderUptoSaid : Prop := markOrderUptoRow.holds Try.pinned (OpenSpec.upto markOrderSpec)

/-- 'joinerylaw2.MarkFive', WHERE WHAT IT READS IS OF BULK AT MOST 1048576: true; the input reads as it did. -/
def markFiveUptoRow : OpenClaim := { program := "ytocndmgimcmfaaa", sum := "b5e8ffa42ed9407975d6985ade543a2258a3a975ab388149781d41152a377e24", func := "joinery/joinerylaw2.MarkFive", spec := "markFive", unfollowed := true, recurses := true, apart := false, narrowed := true }
def MarkFiveUptoSaid : Prop := markFiveUptoRow.holds Try.pinned (OpenSpec.upto markFiveSpec)

end Rows
end Go.Proofs.Ytocndmgimcmfaaa
