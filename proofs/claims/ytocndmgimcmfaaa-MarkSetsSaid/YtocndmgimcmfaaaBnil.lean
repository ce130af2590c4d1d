/- mark.All's contract once more, where one row is nil. -/
import Derived.Test.YtocndmgimcmfaaaBall
namespace Go.Proofs.Ytocndmgimcmfaaa.Base
open Go.RowKit Go.Proofs.YtocndmgimcmfaaaW.PrintWords
theorem mark_All.calls_n1 (A1 : Option Addr) (c1 : Nat) (l1 : List ByteArray) (r : Bool) (w : World) (hr1 : Kd.C Kd.string w A1 l1.length l1) (hc1 : l1.length ≤ c1) (h : mark_All.f [] l1 = some r) :
    Calls Try.prog 22 #[.slice none 0 0, .slice A1 l1.length c1] w fun e w' => e = .returned (.bool r) ∧ Below w.heap.size w w' :=
  mark_All.calls none 0 [] A1 c1 l1 r w (Kd.C_nil _ _) (Nat.le_refl _) hr1 hc1 h
theorem mark_All.calls_n2 (A0 : Option Addr) (c0 : Nat) (l0 : List ByteArray) (r : Bool) (w : World) (hr0 : Kd.C Kd.string w A0 l0.length l0) (hc0 : l0.length ≤ c0) (h : mark_All.f l0 [] = some r) :
    Calls Try.prog 22 #[.slice A0 l0.length c0, .slice none 0 0] w fun e w' => e = .returned (.bool r) ∧ Below w.heap.size w w' :=
  mark_All.calls A0 c0 l0 none 0 [] r w hr0 hc0 (Kd.C_nil _ _) (Nat.le_refl _) h
end Go.Proofs.Ytocndmgimcmfaaa.Base
