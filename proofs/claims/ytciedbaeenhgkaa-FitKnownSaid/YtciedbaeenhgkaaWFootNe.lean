-- Words of the kit's print, laid by print.sh; what this claim does not name is left out (wip/tools/trimw.py).
import Derived.Test.YtciedbaeenhgkaaWN
/-! ### 52. A row that stays read whatever happens to a block (a set of blocks) doesn't lie there -/
namespace Go.Proofs.YtciedbaeenhgkaaW.PrintWords
open Go.RowKit
namespace Kd
section
variable {α : Type} {d : Kd α} {W : World} {g n : Nat} {S ok : Nat → Prop} {A : Option Addr} {ad : Addr} {xs : List α}
end
end Kd
end Go.Proofs.YtciedbaeenhgkaaW.PrintWords
