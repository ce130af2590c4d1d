/- When two rows of two whole numbers are equal, in the machine's words: where both parts are. -/
import Derived.Test.YtciedbaeenhgkaaProg
import Derived.WalkKit
import Derived.KernelRfl
import Derived.Laws.StructEq
set_option linter.unusedVariables false
set_option linter.unusedSimpArgs false
namespace Go.Proofs.Ytciedbaeenhgkaa.Base
open Go.RowKit

theorem equal_row (d : Nat) (a b c e : Int) (w : World) : (Op.equalIn (d + 2) 69 (.agg #[.int .i64 a, .int .i64 b]) (.agg #[.int .i64 c, .int .i64 e])).run Try.prog w = .ok (a == c && b == e) w := by
  have h3 := Try.underlying3
  have hs : (sizeOf 3).run Try.prog w = .ok 1 w := by kernel_rfl
  unfold Op.equalIn
  simp only [Sem.run_bind, run_underlying Try.underlying69, Result.andThen_ok, hs]
  simp [hs, Std.Legacy.Range.forIn_eq_forIn_range', List.range', go_sem, h3]
  by_cases h : a = c <;> by_cases h' : b = e <;> simp [h, h']
theorem row_guard : Try.prog.eqGuardType Try.prog.depth 69 = false := by kernel_rfl
/-- As the walk asks it. -/
theorem row_equal (a b c e : Int) (w : World) : (Op.equalIn 10000 69 (.agg #[.int .i64 a, .int .i64 b]) (.agg #[.int .i64 c, .int .i64 e])).run Try.prog w = .ok (a == c && b == e) w := equal_row 9998 a b c e w
end Go.Proofs.Ytciedbaeenhgkaa.Base
