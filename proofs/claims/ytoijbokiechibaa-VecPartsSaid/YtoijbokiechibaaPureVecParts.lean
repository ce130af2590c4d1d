/- VecParts, over plain Lean functions: each part goes by itself; at every four whole numbers. -/
import Derived.Test.YtoijbokiechibaaPx6
import Derived.Test.YtoijbokiechibaaFacts
set_option linter.unusedVariables false
set_option linter.unusedSimpArgs false
namespace Go.Proofs.Ytoijbokiechibaa.Pure
open Go.RowKit Go.Proofs.Ytoijbokiechibaa.P Go.Proofs.Ytoijbokiechibaa.Facts Go.Proofs.Ytoijbokiechibaa.Base Go.Proofs.YtoijbokiechibaaW.PrintWords Go.Proofs.YtoijbokiechibaaW.PrintLast

theorem VecParts : joinerylaw1_VecParts.Pure := by
  intro a0 a1 a2 a3 _ _ _ _
  have m0 := Int.emod_nonneg a0 (show (1099511627776 : Int) ≠ 0 by omega)
  have n0 := Int.emod_lt_of_pos a0 (show (0 : Int) < 1099511627776 by omega)
  have m1 := Int.emod_nonneg a1 (show (1099511627776 : Int) ≠ 0 by omega)
  have n1 := Int.emod_lt_of_pos a1 (show (0 : Int) < 1099511627776 by omega)
  have m2 := Int.emod_nonneg a2 (show (1099511627776 : Int) ≠ 0 by omega)
  have n2 := Int.emod_lt_of_pos a2 (show (0 : Int) < 1099511627776 by omega)
  have m3 := Int.emod_nonneg a3 (show (1099511627776 : Int) ≠ 0 by omega)
  have n3 := Int.emod_lt_of_pos a3 (show (0 : Int) < 1099511627776 by omega)
  unfold joinerylaw1_VecParts.f
  rw [known_yes]
  simp only [Option.bind_some, if_true]
  rw [within_eq a0 _ (by omega) (by omega), within_eq a1 _ (by omega) (by omega), within_eq a2 _ (by omega) (by omega), within_eq a3 _ (by omega) (by omega)]
  simp only [Option.bind_some]
  generalize a0 % 1099511627776 = x at m0 n0 ⊢
  generalize a1 % 1099511627776 = y at m1 n1 ⊢
  generalize a2 % 1099511627776 = z at m2 n2 ⊢
  generalize a3 % 1099511627776 = u at m3 n3 ⊢
  rw [add_ok m0 m1 m2 m3 (by omega) (by omega), add_ok m0 (by omega) m2 (by omega) (by omega) (by omega), add_ok (by omega) m0 (by omega) m2 (by omega) (by omega)]
  simp only [Option.bind_some, if_true]
  rw [if_pos (by omega), if_pos (by omega)]
  rw [show wrap64 (y + u) = y + u by unfold wrap64; omega]
  simp

end Go.Proofs.Ytoijbokiechibaa.Pure
