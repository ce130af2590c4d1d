/-
  No cell of these rows narrows 'for every input' (looked for: loops, veiled, ifaces, maps, wideKeys, modest, calm, conditions, laid).
  DERIVED. THE GIVEN ROWS OF THIS SEAT. 8 by the template 'for every input the law returns true; each argument reads behind the call as it read before'; 0 by the template 'total and deterministic' (their statements: YtciedbaeenhgkaaTotals.lean).
  GIVEN WITH THE SEED: the statements are not yours to turn. If you find one false, say at which input.
  Laid BY PROGRAM, IN A SANDBOX (cutbox-rows.mjs): the forced cells as the released guide's own fill.sh prints them over the translation 90bf72f29d61b198… (all of the seat's roots in one cut). By AI agents, Wed Nov 11 2026. No macro, syntax, notation, axiom, sorry.
-/
import Derived.Test.YtciedbaeenhgkaaChecked
import GoSem.Claim
import GoSem.ClaimJoined
import GoSem.ClaimMapViews
import Derived.JoinedTies
import Derived.KernelRfl
namespace Go.Proofs.Ytciedbaeenhgkaa
/- THE CELL 'sum', in the pinned program and in every row, IS THE sha256 OF THE DUMP (.gsa) THAT YtciedbaeenhgkaaProg.lean LOADS. Nothing in Lean hashes anything: it is a label: what it is worth is what the hold of that sum in a sandbox is worth. -/
noncomputable def Try.pinned : Pinned := { name := "ytciedbaeenhgkaa", sum := "90bf72f29d61b198f5f14d82bb83c85663ecf53eb69e946db4853cfcc0f08d83", checked := Try.checked }
namespace Rows
def none {H : Type} : Left H := { results := [], args := [] }

/-- 'joinerylaw5.FitWhy': WHATEVER THE INPUT: true; the input reads as it did. -/
def fitWhySpec : ChangeSpec := { name := "fitWhy", fn := fun _ => fun
  | [d1, d2, d3, d4, d5, d6] => { results := [.lit (.bool true)], args := [d1, d2, d3, d4, d5, d6] }
  | _ => none }
def fitWhyRow : OpenClaim := { program := "ytciedbaeenhgkaa", sum := "90bf72f29d61b198f5f14d82bb83c85663ecf53eb69e946db4853cfcc0f08d83", func := "joinery/joinerylaw5.FitWhy", spec := "fitWhy", unfollowed := true, recurses := true, apart := false }
def FitWhySaid : Prop := fitWhyRow.holds Try.pinned (OpenSpec.ofChange fitWhySpec)

/-- ITS FALSE NEIGHBOUR: 'it returns false'. Refute it at one input. -/
def fitWhyWrong : ChangeSpec := { name := "fitWhy", fn := fun _ => fun
  | [d1, d2, d3, d4, d5, d6] => { results := [.lit (.bool false)], args := [d1, d2, d3, d4, d5, d6] }
  | _ => none }
def FitWhyWrongFalsely : Prop := fitWhyRow.holds Try.pinned (OpenSpec.ofChange fitWhyWrong)

/-- 'joinerylaw5.FitKnown': WHATEVER THE INPUT: true; the input reads as it did. -/
def fitKnownSpec : ChangeSpec := { name := "fitKnown", fn := fun _ => fun
  | [d] => { results := [.lit (.bool true)], args := [d] }
  | _ => none }
def fitKnownRow : OpenClaim := { program := "ytciedbaeenhgkaa", sum := "90bf72f29d61b198f5f14d82bb83c85663ecf53eb69e946db4853cfcc0f08d83", func := "joinery/joinerylaw5.FitKnown", spec := "fitKnown", unfollowed := true, recurses := true, apart := false }
def FitKnownSaid : Prop := fitKnownRow.holds Try.pinned (OpenSpec.ofChange fitKnownSpec)

/-- ITS FALSE NEIGHBOUR: 'it returns false'. Refute it at one input. -/
def fitKnownWrong : ChangeSpec := { name := "fitKnown", fn := fun _ => fun
  | [d] => { results := [.lit (.bool false)], args := [d] }
  | _ => none }
def FitKnownWrongFalsely : Prop := fitKnownRow.holds Try.pinned (OpenSpec.ofChange fitKnownWrong)

/-- 'joinerylaw5.FitMore': WHATEVER THE INPUT: true; the input reads as it did. -/
def fitMoreSpec : ChangeSpec := { name := "fitMore", fn := fun _ => fun
  | [d1, d2, d3, d4, d5, d6, d7] => { results := [.lit (.bool true)], args := [d1, d2, d3, d4, d5, d6, d7] }
  | _ => none }
def fitMoreRow : OpenClaim := { program := "ytciedbaeenhgkaa", sum := "90bf72f29d61b198f5f14d82bb83c85663ecf53eb69e946db4853cfcc0f08d83", func := "joinery/joinerylaw5.FitMore", spec := "fitMore", unfollowed := true, recurses := true, apart := false }
def FitMoreSaid : Prop := fitMoreRow.holds Try.pinned (OpenSpec.ofChange fitMoreSpec)

/-- ITS FALSE NEIGHBOUR: 'it returns false'. Refute it at one input. -/
def fitMoreWrong : ChangeSpec := { name := "fitMore", fn := fun _ => fun
  | [d1, d2, d3, d4, d5, d6, d7] => { results := [.lit (.bool false)], args := [d1, d2, d3, d4, d5, d6, d7] }
  | _ => none }
def FitMoreWrongFalsely : Prop := fitMoreRow.holds Try.pinned (OpenSpec.ofChange fitMoreWrong)

/-- 'joinerylaw5.FitNeeds': WHATEVER THE INPUT: true; the input reads as it did. -/
def fitNeedsSpec : ChangeSpec := { name := "fitNeeds", fn := fun _ => fun
  | [d1, d2, d3, d4, d5, d6] => { results := [.lit (.bool true)], args := [d1, d2, d3, d4, d5, d6] }
  | _ => none }
def fitNeedsRow : OpenClaim := { program := "ytciedbaeenhgkaa", sum := "90bf72f29d61b198f5f14d82bb83c85663ecf53eb69e946db4853cfcc0f08d83", func := "joinery/joinerylaw5.FitNeeds", spec := "fitNeeds", unfollowed := true, recurses := true, apart := false }
def FitNeedsSaid : Prop := fitNeedsRow.holds Try.pinned (OpenSpec.ofChange fitNeedsSpec)

/-- ITS FALSE NEIGHBOUR: 'it returns false'. Refute it at one input. -/
def fitNeedsWrong : ChangeSpec := { name := "fitNeeds", fn := fun _ => fun
  | [d1, d2, d3, d4, d5, d6] => { results := [.lit (.bool false)], args := [d1, d2, d3, d4, d5, d6] }
  | _ => none }
def FitNeedsWrongFalsely : Prop := fitNeedsRow.holds Try.pinned (OpenSpec.ofChange fitNeedsWrong)

/-- 'joinerylaw5.FitMarks': WHATEVER THE INPUT: true; the input reads as it did. -/
def fitMarksSpec : ChangeSpec := { name := "fitMarks", fn := fun _ => fun
  | [d1, d2, d3, d4] => { results := [.lit (.bool true)], args := [d1, d2, d3, d4] }
  | _ => none }
def fitMarksRow : OpenClaim := { program := "ytciedbaeenhgkaa", sum := "90bf72f29d61b198f5f14d82bb83c85663ecf53eb69e946db4853cfcc0f08d83", func := "joinery/joinerylaw5.FitMarks", spec := "fitMarks", unfollowed := true, recurses := true, apart := false }
def FitMarksSaid : Prop := fitMarksRow.holds Try.pinned (OpenSpec.ofChange fitMarksSpec)

/-- ITS FALSE NEIGHBOUR: 'it returns false'. Refute it at one input. -/
def fitMarksWrong : ChangeSpec := { name := "fitMarks", fn := fun _ => fun
  | [d1, d2, d3, d4] => { results := [.lit (.bool false)], args := [d1, d2, d3, d4] }
  | _ => none }
def FitMarksWrongFalsely : Prop := fitMarksRow.holds Try.pinned (OpenSpec.ofChange fitMarksWrong)

/-- 'joinerylaw5.FitAlone': WHATEVER THE INPUT: true; the input reads as it did. -/
def fitAloneSpec : ChangeSpec := { name := "fitAlone", fn := fun _ => fun
  | [d1, d2] => { results := [.lit (.bool true)], args := [d1, d2] }
  | _ => none }
def fitAloneRow : OpenClaim := { program := "ytciedbaeenhgkaa", sum := "90bf72f29d61b198f5f14d82bb83c85663ecf53eb69e946db4853cfcc0f08d83", func := "joinery/joinerylaw5.FitAlone", spec := "fitAlone", unfollowed := true, recurses := true, apart := false }
def FitAloneSaid : Prop := fitAloneRow.holds Try.pinned (OpenSpec.ofChange fitAloneSpec)

/-- ITS FALSE NEIGHBOUR: 'it returns false'. Refute it at one input. -/
def fitAloneWrong : ChangeSpec := { name := "fitAlone", fn := fun _ => fun
  | [d1, d2] => { results := [.lit (.bool false)], args := [d1, d2] }
  | _ => none }
def FitAloneWrongFalsely : Prop := fitAloneRow.holds Try.pinned (OpenSpec.ofChange fitAloneWrong)

/-- 'joinerylaw5.FitFirst': WHATEVER THE INPUT: true; the input reads as it did. -/
def fitFirstSpec : ChangeSpec := { name := "fitFirst", fn := fun _ => fun
  | [d] => { results := [.lit (.bool true)], args := [d] }
  | _ => none }
def fitFirstRow : OpenClaim := { program := "ytciedbaeenhgkaa", sum := "90bf72f29d61b198f5f14d82bb83c85663ecf53eb69e946db4853cfcc0f08d83", func := "joinery/joinerylaw5.FitFirst", spec := "fitFirst", unfollowed := true, recurses := true, apart := false }
def FitFirstSaid : Prop := fitFirstRow.holds Try.pinned (OpenSpec.ofChange fitFirstSpec)

/-- ITS FALSE NEIGHBOUR: 'it returns false'. Refute it at one input. -/
def fitFirstWrong : ChangeSpec := { name := "fitFirst", fn := fun _ => fun
  | [d] => { results := [.lit (.bool false)], args := [d] }
  | _ => none }
def FitFirstWrongFalsely : Prop := fitFirstRow.holds Try.pinned (OpenSpec.ofChange fitFirstWrong)

/-- 'joinerylaw5.FitNames': WHATEVER THE INPUT: true; the input reads as it did. -/
def fitNamesSpec : ChangeSpec := { name := "fitNames", fn := fun _ => fun
  | [d1, d2, d3, d4, d5] => { results := [.lit (.bool true)], args := [d1, d2, d3, d4, d5] }
  | _ => none }
def fitNamesRow : OpenClaim := { program := "ytciedbaeenhgkaa", sum := "90bf72f29d61b198f5f14d82bb83c85663ecf53eb69e946db4853cfcc0f08d83", func := "joinery/joinerylaw5.FitNames", spec := "fitNames", unfollowed := true, recurses := true, apart := false }
def FitNamesSaid : Prop := fitNamesRow.holds Try.pinned (OpenSpec.ofChange fitNamesSpec)

/-- ITS FALSE NEIGHBOUR: 'it returns false'. Refute it at one input. -/
def fitNamesWrong : ChangeSpec := { name := "fitNames", fn := fun _ => fun
  | [d1, d2, d3, d4, d5] => { results := [.lit (.bool false)], args := [d1, d2, d3, d4, d5] }
  | _ => none }
def FitNamesWrongFalsely : Prop := fitNamesRow.holds Try.pinned (OpenSpec.ofChange fitNamesWrong)

/- THE SECOND FORM. 'bulk': how many values and letters a reading holds, each counted each time it is reached (what is shared counts as often as it is met; a slice's spare places count too). A statement '..UptoSaid' is the law's where the arguments, and the package variables that the reading takes, are together of bulk at most 1048576: NARROWER than '..Said'. Prove '..Said' where nothing that the law and all that it calls make is longer than what came in: it says more and counts as full. Else prove '..UptoSaid'. A law counts once. -/
mutual
def uptoBulk {H : Type} : DataW H → Nat
  | .lit (.string bytes) => bytes.length + 1
  | .lit _ => 1
  | .nil => 1
  | .ptr d => uptoBulk d + 1
  | .slice elems spare => uptoBulkAll elems + uptoBulkAll spare + 1
  | .agg parts => uptoBulkAll parts + 1
  | .iface _ d => uptoBulk d + 1
  | .map entries => uptoBulkEntries entries + 1
  | .held _ => 1
def uptoBulkAll {H : Type} : List (DataW H) → Nat
  | [] => 0
  | d :: r => uptoBulk d + uptoBulkAll r
def uptoBulkEntries {H : Type} : List (Lit × DataW H) → Nat
  | [] => 0
  | x :: r => uptoBulkEntry x + uptoBulkEntries r
def uptoBulkEntry {H : Type} : Lit × DataW H → Nat
  | (.string bytes, d) => bytes.length + uptoBulk d + 1
  | (_, d) => uptoBulk d + 1
 end
def uptoSmall : (H : Type) → List (DataW H) → Bool := fun _ ds => decide (uptoBulkAll ds ≤ 1048576)
def OpenSpec.upto (s : _root_.Go.ChangeSpec) : _root_.Go.OpenSpec := { _root_.Go.OpenSpec.ofChange s with cond := some uptoSmall }

/-- 'joinerylaw5.FitWhy', WHERE WHAT IT READS IS OF BULK AT MOST 1048576: true; the input reads as it did. -/
def fitWhyUptoRow : OpenClaim := { program := "ytciedbaeenhgkaa", sum := "90bf72f29d61b198f5f14d82bb83c85663ecf53eb69e946db4853cfcc0f08d83", func := "joinery/joinerylaw5.FitWhy", spec := "fitWhy", unfollowed := true, recurses := true, apart := false, narrowed := true }
def FitWhyUptoSaid : Prop := fitWhyUptoRow.holds Try.pinned (OpenSpec.upto fitWhySpec)

/-- 'joinerylaw5.FitKnown', WHERE WHAT IT READS IS OF BULK AT MOST 1048576: true; the input reads as it did. -/
def fitKnownUptoRow : OpenClaim := { program := "ytciedbaeenhgkaa", sum := "90bf72f29d61b198f5f14d82bb83c85663ecf53eb69e946db4853cfcc0f08d83", func := "joinery/joinerylaw5.FitKnown", spec := "fitKnown", unfollowed := true, recurses := true, apart := false, narrowed := true }
def FitKnownUptoSaid : Prop := fitKnownUptoRow.holds Try.pinned (OpenSpec.upto fitKnownSpec)

/-- 'joinerylaw5.FitMore', WHERE WHAT IT READS IS OF BULK AT MOST 1048576: true; the input reads as it did. -/
def fitMoreUptoRow : OpenClaim := { program := "ytciedbaeenhgkaa", sum := "90bf72f29d61b198f5f14d82bb83c85663ecf53eb69e946db4853cfcc0f08d83", func := "joinery/joinerylaw5.FitMore", spec := "fitMore", unfollowed := true, recurses := true, apart := false, narrowed := true }
def FitMoreUptoSaid : Prop := fitMoreUptoRow.holds Try.pinned (OpenSpec.upto fitMoreSpec)

/-- 'joinerylaw5.FitNeeds', WHERE WHAT IT READS IS OF BULK AT MOST 1048576: true; the input reads as it did. -/
def fitNeedsUptoRow : OpenClaim := { program := "ytciedbaeenhgkaa", sum := "90bf72f29d61b198f5f14d82bb83c85663ecf53eb69e946db4853cfcc0f08d83", func := "joinery/joinerylaw5.FitNeeds", spec := "fitNeeds", unfollowed := true, recurses := true, apart := false, narrowed := true }
def FitNeedsUptoSaid : Prop := fitNeedsUptoRow.holds Try.pinned (OpenSpec.upto fitNeedsSpec)

/-- 'joinerylaw5.FitMarks', WHERE WHAT IT READS IS OF BULK AT MOST 1048576: true; the input reads as it did. -/
def fitMarksUptoRow : OpenClaim := { program := "ytciedbaeenhgkaa", sum := "90bf72f29d61b198f5f14d82bb83c85663ecf53eb69e946db4853cfcc0f08d83", func := "joinery/joinerylaw5.FitMarks", spec := "fitMarks", unfollowed := true, recurses := true, apart := false, narrowed := true }
def FitMarksUptoSaid : Prop := fitMarksUptoRow.holds Try.pinned (OpenSpec.upto fitMarksSpec)

/-- 'joinerylaw5.FitAlone', WHERE WHAT IT READS IS OF BULK AT MOST 1048576: true; the input reads as it did. -/
def fitAloneUptoRow : OpenClaim := { program := "ytciedbaeenhgkaa", sum := "90bf72f29d61b198f5f14d82bb83c85663ecf53eb69e946db4853cfcc0f08d83", func := "joinery/joinerylaw5.FitAlone", spec := "fitAlone", unfollowed := true, recurses := true, apart := false, narrowed := true }
def FitAloneUptoSaid : Prop := fitAloneUptoRow.holds Try.pinned (OpenSpec.upto fitAloneSpec)

/-- 'joinerylaw5.FitFirst', WHERE WHAT IT READS IS OF BULK AT MOST 1048576: true; the input reads as it did. -/
def fitFirstUptoRow : OpenClaim := { program := "ytciedbaeenhgkaa", sum := "90bf72f29d61b198f5f14d82bb83c85663ecf53eb69e946db4853cfcc0f08d83", func := "joinery/joinerylaw5.FitFirst", spec := "fitFirst", unfollowed := true, recurses := true, apart := false, narrowed := true }
def FitFirstUptoSaid : Prop := fitFirstUptoRow.holds Try.pinned (OpenSpec.upto fitFirstSpec)

/-- 'joinerylaw5.FitNames', WHERE WHAT IT READS IS OF BULK AT MOST 1048576: true; the input reads as it did. -/
def fitNamesUptoRow : OpenClaim := { program := "ytciedbaeenhgkaa", sum := "90bf72f29d61b198f5f14d82bb83c85663ecf53eb69e946db4853cfcc0f08d83", func := "joinery/joinerylaw5.FitNames", spec := "fitNames", unfollowed := true, recurses := true, apart := false, narrowed := true }
def FitNamesUptoSaid : Prop := fitNamesUptoRow.holds Try.pinned (OpenSpec.upto fitNamesSpec)

end Rows
end Go.Proofs.Ytciedbaeenhgkaa
