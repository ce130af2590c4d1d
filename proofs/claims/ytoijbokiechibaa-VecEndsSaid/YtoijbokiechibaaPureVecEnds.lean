/- VecEnds, over plain Lean functions: a sum that is just the greatest number is one, one more is refused, in either part; at every whole number and either part. -/
import Derived.Test.YtoijbokiechibaaPx3
import Derived.Test.YtoijbokiechibaaFacts
set_option linter.unusedVariables false
set_option linter.unusedSimpArgs false
namespace Go.Proofs.Ytoijbokiechibaa.Pure
open Go.RowKit Go.Proofs.Ytoijbokiechibaa.P Go.Proofs.Ytoijbokiechibaa.Facts Go.Proofs.Ytoijbokiechibaa.Base Go.Proofs.YtoijbokiechibaaW.PrintWords Go.Proofs.YtoijbokiechibaaW.PrintLast

theorem VecEnds : joinerylaw1_VecEnds.Pure := by
  intro a0 a1 _
  have m0 := Int.emod_nonneg a0 (show (1099511627776 : Int) ≠ 0 by omega)
  have n0 := Int.emod_lt_of_pos a0 (show (0 : Int) < 1099511627776 by omega)
  unfold joinerylaw1_VecEnds.f
  rw [known_yes]
  simp only [Option.bind_some, if_true]
  rw [within_eq a0 _ (by omega) (by omega)]
  simp only [Option.bind_some]
  generalize a0 % 1099511627776 = x at m0 n0 ⊢
  rw [show wrap64 (9223372036854775807 - x) = 9223372036854775807 - x by unfold wrap64; omega, show wrap64 (x + 1) = x + 1 by unfold wrap64; omega]
  cases a1 with
  | true =>
    rw [if_pos rfl]
    rw [add_ok (by omega) (by omega) (by omega) (by omega) (by omega) (by omega), add_room (by omega) (by omega) (by omega) (by omega) (by omega) (by omega) (by omega) (by omega) (by omega), sub_room (by omega) (by omega) (by omega) (by omega) (by omega) (by omega) (by omega) (by omega) (by omega)]
    simp only [Option.bind_some, if_true]
    rw [if_pos (by first | (simp; done) | (simp; omega)), if_pos (by simp)]
    rfl
  | false =>
    rw [if_neg (by simp)]
    rw [add_ok (by omega) (by omega) (by omega) (by omega) (by omega) (by omega), add_room (by omega) (by omega) (by omega) (by omega) (by omega) (by omega) (by omega) (by omega) (by omega), sub_room (by omega) (by omega) (by omega) (by omega) (by omega) (by omega) (by omega) (by omega) (by omega)]
    simp only [Option.bind_some, if_true]
    rw [if_pos (by first | (simp; done) | (simp; omega)), if_pos (by simp)]
    rfl

end Go.Proofs.Ytoijbokiechibaa.Pure
