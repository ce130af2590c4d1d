/- VecErrs, over plain Lean functions: what is not right is refused ahead of all else, wherever it stands; at every four whole numbers. -/
import Derived.Test.YtoijbokiechibaaPx4
import Derived.Test.YtoijbokiechibaaFacts
set_option linter.unusedVariables false
set_option linter.unusedSimpArgs false
namespace Go.Proofs.Ytoijbokiechibaa.Pure
open Go.RowKit Go.Proofs.Ytoijbokiechibaa.P Go.Proofs.Ytoijbokiechibaa.Facts Go.Proofs.Ytoijbokiechibaa.Base Go.Proofs.YtoijbokiechibaaW.PrintWords Go.Proofs.YtoijbokiechibaaW.PrintLast

theorem errs_end (x y : Int) (hx : x ≤ 9223372036854775807) (hy : y ≤ 9223372036854775807) (h : x < 0 ∨ y < 0) (k : Nat) : joinerylaw1_VecErrs.j0 (k + 1) x y = some true := by
  simp only [joinerylaw1_VecErrs.j0]
  rw [add_arg hx hy (by omega) (by omega) (.inl h), add_arg (by omega) (by omega) hx hy (.inr h), sub_arg hx hy (by omega) (by omega) (.inl h), sub_arg (by omega) (by omega) hx hy (.inr h)]
  simp only [Option.bind_some, if_true]
  rw [rightf_no h, rightf_yes (by omega) (by omega)]
  rfl
theorem VecErrs : joinerylaw1_VecErrs.Pure := by
  intro a0 a1 a2 a3 _ _ _ _
  refine ⟨1, ?_⟩
  have m0 := Int.emod_nonneg a0 (show (1099511627776 : Int) ≠ 0 by omega)
  have n0 := Int.emod_lt_of_pos a0 (show (0 : Int) < 1099511627776 by omega)
  have m1 := Int.emod_nonneg a1 (show (100 : Int) ≠ 0 by omega)
  have n1 := Int.emod_lt_of_pos a1 (show (0 : Int) < 100 by omega)
  have m2 := Int.emod_nonneg a2 (show (100 : Int) ≠ 0 by omega)
  have n2 := Int.emod_lt_of_pos a2 (show (0 : Int) < 100 by omega)
  have m3 := Int.emod_nonneg a3 (show (2 : Int) ≠ 0 by omega)
  have n3 := Int.emod_lt_of_pos a3 (show (0 : Int) < 2 by omega)
  unfold joinerylaw1_VecErrs.f
  rw [known_yes]
  simp only [Option.bind_some, if_true]
  rw [within_eq a1 _ (by omega) (by omega), within_eq a2 _ (by omega) (by omega), within_eq a3 _ (by omega) (by omega), within_eq a0 _ (by omega) (by omega)]
  simp only [Option.bind_some]
  rw [show wrap64 (-1 - a0 % 1099511627776) = -1 - a0 % 1099511627776 by unfold wrap64; omega]
  by_cases h : a3 % 2 = 0
  · rw [if_pos h]
    exact errs_end _ _ (by omega) (by omega) (by omega) 0
  · rw [if_neg h]
    exact errs_end _ _ (by omega) (by omega) (by omega) 0

end Go.Proofs.Ytoijbokiechibaa.Pure
