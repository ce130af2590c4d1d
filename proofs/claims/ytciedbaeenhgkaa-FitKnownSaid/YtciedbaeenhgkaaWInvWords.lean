-- Words of the kit's print, laid by print.sh; what this claim does not name is left out (wip/tools/trimw.py).
import Derived.Test.YtciedbaeenhgkaaWInv
import Derived.Test.YtciedbaeenhgkaaWFootNe
namespace Go.Proofs.YtciedbaeenhgkaaW.PrintWords
open Go.RowKit
end Go.Proofs.YtciedbaeenhgkaaW.PrintWords
namespace Go.Proofs.YtciedbaeenhgkaaW.PrintLast
section
variable {ops : Array Oper} {a : Act} {o og : Oper} {g : Nat} {t : Tmp} {u : Bool}
end
end Go.Proofs.YtciedbaeenhgkaaW.PrintLast
