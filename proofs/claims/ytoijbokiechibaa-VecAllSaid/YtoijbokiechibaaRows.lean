/-
  No cell of these rows narrows 'for every input' (looked for: loops, veiled, ifaces, maps, wideKeys, modest, calm, conditions, laid).
  DERIVED. THE GIVEN ROWS OF THIS SEAT. 8 by the template 'for every input the law returns true; each argument reads behind the call as it read before'; 0 by the template 'total and deterministic' (their statements: YtoijbokiechibaaTotals.lean).
  GIVEN WITH THE SEED: the statements are not yours to turn. If you find one false, say at which input.
  Laid BY PROGRAM, IN A SANDBOX (cutbox-rows.mjs): the forced cells as the released guide's own fill.sh prints them over the translation 36e11864f857480f… (all of the seat's roots in one cut). By AI agents, Wed Nov 11 2026. No macro, syntax, notation, axiom, sorry.
-/
import Derived.Test.YtoijbokiechibaaChecked
import GoSem.Claim
import GoSem.ClaimJoined
import GoSem.ClaimMapViews
import Derived.JoinedTies
import Derived.KernelRfl
namespace Go.Proofs.Ytoijbokiechibaa
/- THE CELL 'sum', in the pinned program and in every row, IS THE sha256 OF THE DUMP (.gsa) THAT YtoijbokiechibaaProg.lean LOADS. Nothing in Lean hashes anything: it is a label: what it is worth is what the hold of that sum in a sandbox is worth. -/
noncomputable def Try.pinned : Pinned := { name := "ytoijbokiechibaa", sum := "36e11864f857480fd4b09b74b48132d9bbaec916565754690cd48d4c39e52571", checked := Try.checked }
namespace Rows
def none {H : Type} : Left H := { results := [], args := [] }

/-- 'joinerylaw1.VecFits': WHATEVER THE INPUT: true; the input reads as it did. -/
def vecFitsSpec : ChangeSpec := { name := "vecFits", fn := fun _ => fun
  | [d1, d2, d3, d4, d5, d6] => { results := [.lit (.bool true)], args := [d1, d2, d3, d4, d5, d6] }
  | _ => none }
def vecFitsRow : OpenClaim := { program := "ytoijbokiechibaa", sum := "36e11864f857480fd4b09b74b48132d9bbaec916565754690cd48d4c39e52571", func := "joinery/joinerylaw1.VecFits", spec := "vecFits", unfollowed := true, recurses := true, apart := false }
def VecFitsSaid : Prop := vecFitsRow.holds Try.pinned (OpenSpec.ofChange vecFitsSpec)

/-- ITS FALSE NEIGHBOUR: 'it returns false'. Refute it at one input. -/
def vecFitsWrong : ChangeSpec := { name := "vecFits", fn := fun _ => fun
  | [d1, d2, d3, d4, d5, d6] => { results := [.lit (.bool false)], args := [d1, d2, d3, d4, d5, d6] }
  | _ => none }
def VecFitsWrongFalsely : Prop := vecFitsRow.holds Try.pinned (OpenSpec.ofChange vecFitsWrong)

/-- 'joinerylaw1.VecAll': WHATEVER THE INPUT: true; the input reads as it did. -/
def vecAllSpec : ChangeSpec := { name := "vecAll", fn := fun _ => fun
  | [d1, d2, d3, d4] => { results := [.lit (.bool true)], args := [d1, d2, d3, d4] }
  | _ => none }
def vecAllRow : OpenClaim := { program := "ytoijbokiechibaa", sum := "36e11864f857480fd4b09b74b48132d9bbaec916565754690cd48d4c39e52571", func := "joinery/joinerylaw1.VecAll", spec := "vecAll", unfollowed := true, recurses := true, apart := false }
def VecAllSaid : Prop := vecAllRow.holds Try.pinned (OpenSpec.ofChange vecAllSpec)

/-- ITS FALSE NEIGHBOUR: 'it returns false'. Refute it at one input. -/
def vecAllWrong : ChangeSpec := { name := "vecAll", fn := fun _ => fun
  | [d1, d2, d3, d4] => { results := [.lit (.bool false)], args := [d1, d2, d3, d4] }
  | _ => none }
def VecAllWrongFalsely : Prop := vecAllRow.holds Try.pinned (OpenSpec.ofChange vecAllWrong)

/-- 'joinerylaw1.VecBack': WHATEVER THE INPUT: true; the input reads as it did. -/
def vecBackSpec : ChangeSpec := { name := "vecBack", fn := fun _ => fun
  | [d1, d2, d3, d4] => { results := [.lit (.bool true)], args := [d1, d2, d3, d4] }
  | _ => none }
def vecBackRow : OpenClaim := { program := "ytoijbokiechibaa", sum := "36e11864f857480fd4b09b74b48132d9bbaec916565754690cd48d4c39e52571", func := "joinery/joinerylaw1.VecBack", spec := "vecBack", unfollowed := true, recurses := true, apart := false }
def VecBackSaid : Prop := vecBackRow.holds Try.pinned (OpenSpec.ofChange vecBackSpec)

/-- ITS FALSE NEIGHBOUR: 'it returns false'. Refute it at one input. -/
def vecBackWrong : ChangeSpec := { name := "vecBack", fn := fun _ => fun
  | [d1, d2, d3, d4] => { results := [.lit (.bool false)], args := [d1, d2, d3, d4] }
  | _ => none }
def VecBackWrongFalsely : Prop := vecBackRow.holds Try.pinned (OpenSpec.ofChange vecBackWrong)

/-- 'joinerylaw1.VecEnds': WHATEVER THE INPUT: true; the input reads as it did. -/
def vecEndsSpec : ChangeSpec := { name := "vecEnds", fn := fun _ => fun
  | [d1, d2] => { results := [.lit (.bool true)], args := [d1, d2] }
  | _ => none }
def vecEndsRow : OpenClaim := { program := "ytoijbokiechibaa", sum := "36e11864f857480fd4b09b74b48132d9bbaec916565754690cd48d4c39e52571", func := "joinery/joinerylaw1.VecEnds", spec := "vecEnds", unfollowed := true, recurses := true, apart := false }
def VecEndsSaid : Prop := vecEndsRow.holds Try.pinned (OpenSpec.ofChange vecEndsSpec)

/-- ITS FALSE NEIGHBOUR: 'it returns false'. Refute it at one input. -/
def vecEndsWrong : ChangeSpec := { name := "vecEnds", fn := fun _ => fun
  | [d1, d2] => { results := [.lit (.bool false)], args := [d1, d2] }
  | _ => none }
def VecEndsWrongFalsely : Prop := vecEndsRow.holds Try.pinned (OpenSpec.ofChange vecEndsWrong)

/-- 'joinerylaw1.VecErrs': WHATEVER THE INPUT: true; the input reads as it did. -/
def vecErrsSpec : ChangeSpec := { name := "vecErrs", fn := fun _ => fun
  | [d1, d2, d3, d4] => { results := [.lit (.bool true)], args := [d1, d2, d3, d4] }
  | _ => none }
def vecErrsRow : OpenClaim := { program := "ytoijbokiechibaa", sum := "36e11864f857480fd4b09b74b48132d9bbaec916565754690cd48d4c39e52571", func := "joinery/joinerylaw1.VecErrs", spec := "vecErrs", unfollowed := true, recurses := true, apart := false }
def VecErrsSaid : Prop := vecErrsRow.holds Try.pinned (OpenSpec.ofChange vecErrsSpec)

/-- ITS FALSE NEIGHBOUR: 'it returns false'. Refute it at one input. -/
def vecErrsWrong : ChangeSpec := { name := "vecErrs", fn := fun _ => fun
  | [d1, d2, d3, d4] => { results := [.lit (.bool false)], args := [d1, d2, d3, d4] }
  | _ => none }
def VecErrsWrongFalsely : Prop := vecErrsRow.holds Try.pinned (OpenSpec.ofChange vecErrsWrong)

/-- 'joinerylaw1.VecThree': WHATEVER THE INPUT: true; the input reads as it did. -/
def vecThreeSpec : ChangeSpec := { name := "vecThree", fn := fun _ => fun
  | [d1, d2, d3] => { results := [.lit (.bool true)], args := [d1, d2, d3] }
  | _ => none }
def vecThreeRow : OpenClaim := { program := "ytoijbokiechibaa", sum := "36e11864f857480fd4b09b74b48132d9bbaec916565754690cd48d4c39e52571", func := "joinery/joinerylaw1.VecThree", spec := "vecThree", unfollowed := true, recurses := true, apart := false }
def VecThreeSaid : Prop := vecThreeRow.holds Try.pinned (OpenSpec.ofChange vecThreeSpec)

/-- ITS FALSE NEIGHBOUR: 'it returns false'. Refute it at one input. -/
def vecThreeWrong : ChangeSpec := { name := "vecThree", fn := fun _ => fun
  | [d1, d2, d3] => { results := [.lit (.bool false)], args := [d1, d2, d3] }
  | _ => none }
def VecThreeWrongFalsely : Prop := vecThreeRow.holds Try.pinned (OpenSpec.ofChange vecThreeWrong)

/-- 'joinerylaw1.VecParts': WHATEVER THE INPUT: true; the input reads as it did. -/
def vecPartsSpec : ChangeSpec := { name := "vecParts", fn := fun _ => fun
  | [d1, d2, d3, d4] => { results := [.lit (.bool true)], args := [d1, d2, d3, d4] }
  | _ => none }
def vecPartsRow : OpenClaim := { program := "ytoijbokiechibaa", sum := "36e11864f857480fd4b09b74b48132d9bbaec916565754690cd48d4c39e52571", func := "joinery/joinerylaw1.VecParts", spec := "vecParts", unfollowed := true, recurses := true, apart := false }
def VecPartsSaid : Prop := vecPartsRow.holds Try.pinned (OpenSpec.ofChange vecPartsSpec)

/-- ITS FALSE NEIGHBOUR: 'it returns false'. Refute it at one input. -/
def vecPartsWrong : ChangeSpec := { name := "vecParts", fn := fun _ => fun
  | [d1, d2, d3, d4] => { results := [.lit (.bool false)], args := [d1, d2, d3, d4] }
  | _ => none }
def VecPartsWrongFalsely : Prop := vecPartsRow.holds Try.pinned (OpenSpec.ofChange vecPartsWrong)

/-- 'joinerylaw1.VecNothing': WHATEVER THE INPUT: true; the input reads as it did. -/
def vecNothingSpec : ChangeSpec := { name := "vecNothing", fn := fun _ => fun
  | [d1, d2] => { results := [.lit (.bool true)], args := [d1, d2] }
  | _ => none }
def vecNothingRow : OpenClaim := { program := "ytoijbokiechibaa", sum := "36e11864f857480fd4b09b74b48132d9bbaec916565754690cd48d4c39e52571", func := "joinery/joinerylaw1.VecNothing", spec := "vecNothing", unfollowed := true, recurses := true, apart := false }
def VecNothingSaid : Prop := vecNothingRow.holds Try.pinned (OpenSpec.ofChange vecNothingSpec)

/-- ITS FALSE NEIGHBOUR: 'it returns false'. Refute it at one input. -/
def vecNothingWrong : ChangeSpec := { name := "vecNothing", fn := fun _ => fun
  | [d1, d2] => { results := [.lit (.bool false)], args := [d1, d2] }
  | _ => none }
def VecNothingWrongFalsely : Prop := vecNothingRow.holds Try.pinned (OpenSpec.ofChange vecNothingWrong)

/- THE SECOND FORM. 'bulk': how many values and letters a reading holds, each counted each time it is reached (what is shared counts as often as it is met; a slice's spare places count too). A statement '..UptoSaid' is the law's where the arguments, and the package variables that the reading takes, are together of bulk at most 1048576: NARROWER than '..Said'. Prove '..Said' where nothing that the law and all that it calls make is longer than what came in: it says more and counts as full. Else prove '..UptoSaid'. A law counts once. -/
mutual
def uptoBulk {H : Type} : DataW H → Nat
  | .lit (.string bytes) => bytes.length + 1
  | .lit _ => 1
  | .nil => 1
  | .ptr d => uptoBulk d + 1
  | .slice elems spare => uptoBulkAll elems + uptoBulkAll spare + 1
  | .agg parts => uptoBulkAll parts + 1
  | .iface _ d => uptoBulk d + 1
  | .map entries => uptoBulkEntries entries + 1
  | .held _ => 1
def uptoBulkAll {H : Type} : List (DataW H) → Nat
  | [] => 0
  | d :: r => uptoBulk d + uptoBulkAll r
def uptoBulkEntries {H : Type} : List (Lit × DataW H) → Nat
  | [] => 0
  | x :: r => uptoBulkEntry x + uptoBulkEntries r
def uptoBulkEntry {H : Type} : Lit × DataW H → Nat
  | (.string bytes, d) => bytes.length + uptoBulk d + 1
  | (_, d) => uptoBulk d + 1
 end
def uptoSmall : (H : Type) → List (DataW H) → Bool := fun _ ds => decide (uptoBulkAll ds ≤ 1048576)
def OpenSpec.upto (s : _root_.Go.ChangeSpec) : _root_.Go.OpenSpec := { _root_.Go.OpenSpec.ofChange s with cond := some uptoSmall }

/-- 'joinerylaw1.VecFits', WHERE WHAT IT READS IS OF BULK AT MOST 1048576: true; the input reads as it did. -/
def vecFitsUptoRow : OpenClaim := { program := "ytoijbokiechibaa", sum := "36e11864f857480fd4b09b74b48132d9bbaec916565754690cd48d4c39e52571", func := "joinery/joinerylaw1.VecFits", spec := "vecFits", unfollowed := true, recurses := true, apart := false, narrowed := true }
def VecFitsUptoSaid : Prop := vecFitsUptoRow.holds Try.pinned (OpenSpec.upto vecFitsSpec)

/-- 'joinerylaw1.VecAll', WHERE WHAT IT READS IS OF BULK AT MOST 1048576: true; the input reads as it did. -/
def vecAllUptoRow : OpenClaim := { program := "ytoijbokiechibaa", sum := "36e11864f857480fd4b09b74b48132d9bbaec916565754690cd48d4c39e52571", func := "joinery/joinerylaw1.VecAll", spec := "vecAll", unfollowed := true, recurses := true, apart := false, narrowed := true }
def VecAllUptoSaid : Prop := vecAllUptoRow.holds Try.pinned (OpenSpec.upto vecAllSpec)

/-- 'joinerylaw1.VecBack', WHERE WHAT IT READS IS OF BULK AT MOST 1048576: true; the input reads as it did. -/
def vecBackUptoRow : OpenClaim := { program := "ytoijbokiechibaa", sum := "36e11864f857480fd4b09b74b48132d9bbaec916565754690cd48d4c39e52571", func := "joinery/joinerylaw1.VecBack", spec := "vecBack", unfollowed := true, recurses := true, apart := false, narrowed := true }
def VecBackUptoSaid : Prop := vecBackUptoRow.holds Try.pinned (OpenSpec.upto vecBackSpec)

/-- 'joinerylaw1.VecEnds', WHERE WHAT IT READS IS OF BULK AT MOST 1048576: true; the input reads as it did. -/
def vecEndsUptoRow : OpenClaim := { program := "ytoijbokiechibaa", sum := "36e11864f857480fd4b09b74b48132d9bbaec916565754690cd48d4c39e52571", func := "joinery/joinerylaw1.VecEnds", spec := "vecEnds", unfollowed := true, recurses := true, apart := false, narrowed := true }
def VecEndsUptoSaid : Prop := vecEndsUptoRow.holds Try.pinned (OpenSpec.upto vecEndsSpec)

/-- 'joinerylaw1.VecErrs', WHERE WHAT IT READS IS OF BULK AT MOST 1048576: true; the input reads as it did. -/
def vecErrsUptoRow : OpenClaim := { program := "ytoijbokiechibaa", sum := "36e11864f857480fd4b09b74b48132d9bbaec916565754690cd48d4c39e52571", func := "joinery/joinerylaw1.VecErrs", spec := "vecErrs", unfollowed := true, recurses := true, apart := false, narrowed := true }
def VecErrsUptoSaid : Prop := vecErrsUptoRow.holds Try.pinned (OpenSpec.upto vecErrsSpec)

/-- 'joinerylaw1.VecThree', WHERE WHAT IT READS IS OF BULK AT MOST 1048576: true; the input reads as it did. -/
def vecThreeUptoRow : OpenClaim := { program := "ytoijbokiechibaa", sum := "36e11864f857480fd4b09b74b48132d9bbaec916565754690cd48d4c39e52571", func := "joinery/joinerylaw1.VecThree", spec := "vecThree", unfollowed := true, recurses := true, apart := false, narrowed := true }
def VecThreeUptoSaid : Prop := vecThreeUptoRow.holds Try.pinned (OpenSpec.upto vecThreeSpec)

/-- 'joinerylaw1.VecParts', WHERE WHAT IT READS IS OF BULK AT MOST 1048576: true; the input reads as it did. -/
def vecPartsUptoRow : OpenClaim := { program := "ytoijbokiechibaa", sum := "36e11864f857480fd4b09b74b48132d9bbaec916565754690cd48d4c39e52571", func := "joinery/joinerylaw1.VecParts", spec := "vecParts", unfollowed := true, recurses := true, apart := false, narrowed := true }
def VecPartsUptoSaid : Prop := vecPartsUptoRow.holds Try.pinned (OpenSpec.upto vecPartsSpec)

/-- 'joinerylaw1.VecNothing', WHERE WHAT IT READS IS OF BULK AT MOST 1048576: true; the input reads as it did. -/
def vecNothingUptoRow : OpenClaim := { program := "ytoijbokiechibaa", sum := "36e11864f857480fd4b09b74b48132d9bbaec916565754690cd48d4c39e52571", func := "joinery/joinerylaw1.VecNothing", spec := "vecNothing", unfollowed := true, recurses := true, apart := false, narrowed := true }
def VecNothingUptoSaid : Prop := vecNothingUptoRow.holds Try.pinned (OpenSpec.upto vecNothingSpec)

end Rows
end Go.Proofs.Ytoijbokiechibaa
