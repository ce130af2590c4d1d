/- VecBack, over plain Lean functions: what was added is taken away again, sums do not depend on their order, what was taken away fits; at every four whole numbers. -/
import Derived.Test.YtoijbokiechibaaPx3
import Derived.Test.YtoijbokiechibaaFacts
set_option linter.unusedVariables false
set_option linter.unusedSimpArgs false
namespace Go.Proofs.Ytoijbokiechibaa.Pure
open Go.RowKit Go.Proofs.Ytoijbokiechibaa.P Go.Proofs.Ytoijbokiechibaa.Facts Go.Proofs.Ytoijbokiechibaa.Base Go.Proofs.YtoijbokiechibaaW.PrintWords Go.Proofs.YtoijbokiechibaaW.PrintLast

theorem VecBack : joinerylaw1_VecBack.Pure := by
  intro a0 a1 a2 a3 _ _ _ _
  have m0 := Int.emod_nonneg a0 (show (4611686018427387904 : Int) ≠ 0 by omega)
  have n0 := Int.emod_lt_of_pos a0 (show (0 : Int) < 4611686018427387904 by omega)
  have m1 := Int.emod_nonneg a1 (show (4611686018427387904 : Int) ≠ 0 by omega)
  have n1 := Int.emod_lt_of_pos a1 (show (0 : Int) < 4611686018427387904 by omega)
  have m2 := Int.emod_nonneg a2 (show (4611686018427387904 : Int) ≠ 0 by omega)
  have n2 := Int.emod_lt_of_pos a2 (show (0 : Int) < 4611686018427387904 by omega)
  have m3 := Int.emod_nonneg a3 (show (4611686018427387904 : Int) ≠ 0 by omega)
  have n3 := Int.emod_lt_of_pos a3 (show (0 : Int) < 4611686018427387904 by omega)
  unfold joinerylaw1_VecBack.f
  rw [known_yes]
  simp only [Option.bind_some, if_true]
  rw [within_eq a0 _ (by omega) (by omega), within_eq a1 _ (by omega) (by omega), within_eq a2 _ (by omega) (by omega), within_eq a3 _ (by omega) (by omega)]
  simp only [Option.bind_some]
  generalize a0 % 4611686018427387904 = x at m0 n0 ⊢
  generalize a1 % 4611686018427387904 = y at m1 n1 ⊢
  generalize a2 % 4611686018427387904 = z at m2 n2 ⊢
  generalize a3 % 4611686018427387904 = u at m3 n3 ⊢
  rw [add_ok m0 m1 m2 m3 (by omega) (by omega), add_ok m2 m3 m0 m1 (by omega) (by omega)]
  simp only [Option.bind_some]
  rw [sub_ok m2 m3 (by omega) (by omega) (by omega) (by omega)]
  simp only [Option.bind_some]
  rw [fits_yes (by omega) (by omega), fits_yes (by omega) (by omega)]
  simp only [Option.bind_some, if_true]
  rw [if_pos (by first | (simp; done) | (simp; omega)), if_pos (by first | (simp; done) | (simp; omega)), if_pos (by unfold wrap64; omega)]
  rw [show wrap64 (y + u - y) = u by unfold wrap64; omega]
  simp

end Go.Proofs.Ytoijbokiechibaa.Pure
