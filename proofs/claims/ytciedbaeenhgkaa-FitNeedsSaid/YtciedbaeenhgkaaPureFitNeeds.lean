/- FitNeeds, over plain Lean functions: a pod fits just where, added to what is used, it is no more than there is, in both parts. -/
import Derived.Test.YtciedbaeenhgkaaPx3
import Derived.Test.YtciedbaeenhgkaaFactsP
set_option linter.unusedVariables false
set_option linter.unusedSimpArgs false
namespace Go.Proofs.Ytciedbaeenhgkaa.Pure
open Go.RowKit Go.Proofs.Ytciedbaeenhgkaa Go.Proofs.Ytciedbaeenhgkaa.Base Go.Proofs.Ytciedbaeenhgkaa.BaseM Go.Proofs.Ytciedbaeenhgkaa.BaseR Go.Proofs.Ytciedbaeenhgkaa.P Go.Proofs.Ytciedbaeenhgkaa.FactsP Go.Proofs.YtciedbaeenhgkaaW.PrintWords Go.Proofs.YtciedbaeenhgkaaW.PrintLast

theorem FitNeeds : joinerylaw5_FitNeeds.Pure := by
  intro a0 a1 a2 a3 a4 a5 _ _ _ _ _ _
  refine ⟨20, ?_⟩
  have m0 := Int.emod_nonneg a0 (show (8 : Int) ≠ 0 by omega)
  have n0 := Int.emod_lt_of_pos a0 (show (0 : Int) < 8 by omega)
  have m1 := Int.emod_nonneg a1 (show (8 : Int) ≠ 0 by omega)
  have n1 := Int.emod_lt_of_pos a1 (show (0 : Int) < 8 by omega)
  have m4 := Int.emod_nonneg a4 (show (8 : Int) ≠ 0 by omega)
  have n4 := Int.emod_lt_of_pos a4 (show (0 : Int) < 8 by omega)
  have m5 := Int.emod_nonneg a5 (show (8 : Int) ≠ 0 by omega)
  have n5 := Int.emod_lt_of_pos a5 (show (0 : Int) < 8 by omega)
  unfold joinerylaw5_FitNeeds.f
  rw [known_ge (by omega)]
  simp only [Option.bind_some, if_true]
  rw [within5 a0 8 (by omega) (by omega), within5 a1 8 (by omega) (by omega), within5 a2 12 (by omega) (by omega), within5 a3 12 (by omega) (by omega), within5 a4 8 (by omega) (by omega), within5 a5 8 (by omega) (by omega)]
  simp only [Option.bind_some]
  generalize a0 % 8 = x at m0 n0
  generalize a1 % 8 = y at m1 n1
  generalize a2 % 12 = c
  generalize a3 % 12 = d
  generalize a4 % 8 = u at m4 n4
  generalize a5 % 8 = v at m5 n5
  have e1 : wrap64 (x + u) = x + u := by unfold wrap64; omega
  have e2 : wrap64 (y + v) = y + v := by unfold wrap64; omega
  rw [e1, e2, why_eq _ _ _ _ _ _ _ _ _ _ _ _ _ _ _ _ _ (fits_small _ _ _ _ _ _ _ _ _ _ _ _ _ _ _ m4 m5 m0 m1 (by omega) (by omega)) (by simp) 20 (by simp)]
  simp only [Option.bind_some]
  by_cases h1 : x + u > c
  · rw [if_pos h1, decide_eq_false (show ¬ u + x ≤ c by omega)]
    rfl
  · rw [if_neg h1, decide_eq_true (show u + x ≤ c by omega)]
    by_cases h2 : y + v > d
    · rw [if_pos h2, decide_eq_false (show ¬ v + y ≤ d by omega)]
      rfl
    · rw [if_neg h2, decide_eq_true (show v + y ≤ d by omega)]
      rfl

end Go.Proofs.Ytciedbaeenhgkaa.Pure
