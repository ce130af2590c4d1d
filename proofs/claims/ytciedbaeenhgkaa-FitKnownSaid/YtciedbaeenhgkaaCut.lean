/- A region of a function's body, and what follows it, taken out of the code by their number: so that a walk can be parted in several theorems. -/
import Derived.Test.YtciedbaeenhgkaaProg
import Derived.Deep.Draws
namespace Go.Proofs.Ytciedbaeenhgkaa
def regionAt (n : Nat) : Code → Option Code
  | .region m o d => if m = n then some (.region m o d) else none
  | .seq a b => (regionAt n a).or (regionAt n b)
  | .cond _ a b => (regionAt n a).or (regionAt n b)
  | .block _ c => regionAt n c
  | .loop c => regionAt n c
  | .scope c => regionAt n c
  | _ => none
def isRegion (n : Nat) : Code → Bool
  | .region m _ _ => m == n
  | _ => false
def after (n : Nat) : Code → Option Code
  | .seq a b => if isRegion n a then some b else (after n a).or (after n b)
  | .cond _ a b => (after n a).or (after n b)
  | .block _ c => after n c
  | .loop c => after n c
  | .scope c => after n c
  | _ => none
def leftmost : Code → Option Nat
  | .region m _ _ => some m
  | .seq a _ => leftmost a
  | .block _ c => leftmost c
  | .loop c => leftmost c
  | .scope c => leftmost c
  | _ => none
def fromRegion (n : Nat) : Code → Option Code
  | .seq a b => if leftmost a == some n then some (.seq a b) else (fromRegion n a).or (fromRegion n b)
  | .cond _ a b => (fromRegion n a).or (fromRegion n b)
  | .block _ c => fromRegion n c
  | .loop c => fromRegion n c
  | .scope c => fromRegion n c
  | _ => none
def condAt (n : Nat) : Code → Option Code
  | .cond (.tmp m) a b => if m = n then some (.cond (.tmp m) a b) else (condAt n a).or (condAt n b)
  | .cond _ a b => (condAt n a).or (condAt n b)
  | .seq a b => (condAt n a).or (condAt n b)
  | .block _ c => condAt n c
  | .loop c => condAt n c
  | .scope c => condAt n c
  | _ => none
theorem drewN_out (w : World) (n : Nat) (p : Addr) (v : Value) : (w.drewN n).setCell p v = (w.setCell p v).drewN n := rfl
end Go.Proofs.Ytciedbaeenhgkaa
