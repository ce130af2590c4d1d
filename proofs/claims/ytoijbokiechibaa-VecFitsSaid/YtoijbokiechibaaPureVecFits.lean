/- VecFits, over plain Lean functions: one fits where each part does; what fits, and another one that fits there, fits; at every six whole numbers. -/
import Derived.Test.YtoijbokiechibaaPx2
import Derived.Test.YtoijbokiechibaaFacts
set_option linter.unusedVariables false
set_option linter.unusedSimpArgs false
namespace Go.Proofs.Ytoijbokiechibaa.Pure
open Go.RowKit Go.Proofs.Ytoijbokiechibaa.P Go.Proofs.Ytoijbokiechibaa.Facts Go.Proofs.Ytoijbokiechibaa.Base Go.Proofs.YtoijbokiechibaaW.PrintWords Go.Proofs.YtoijbokiechibaaW.PrintLast

theorem fits_end (x y z u v s : Int) (q : Bool) (hq : vec_Fits.f x y z u = some q) (k : Nat) : joinerylaw1_VecFits.j0 (k + 1) q false x y z u v s = some true := by
  simp only [joinerylaw1_VecFits.j0]
  rw [if_neg (by simp)]
  cases q with
  | false => rw [if_neg (by simp)]
  | true =>
    rw [if_pos rfl]
    by_cases h : z ≤ v ∧ u ≤ s
    · rw [fits_yes h.1 h.2, Option.bind_some, if_pos rfl]
      have h1 : x ≤ z ∧ y ≤ u := by
        by_cases h1 : z < x ∨ u < y
        · rw [fits_no h1] at hq; cases hq
        · omega
      rw [fits_yes (by omega) (by omega)]
      rfl
    · rw [fits_no (by omega), Option.bind_some, if_neg (by simp)]
theorem VecFits : joinerylaw1_VecFits.Pure := by
  intro a0 a1 a2 a3 a4 a5 _ _ _ _ _ _
  refine ⟨1, ?_⟩
  have m0 := Int.emod_nonneg a0 (show (9 : Int) ≠ 0 by omega)
  have n0 := Int.emod_lt_of_pos a0 (show (0 : Int) < 9 by omega)
  have m1 := Int.emod_nonneg a1 (show (9 : Int) ≠ 0 by omega)
  have n1 := Int.emod_lt_of_pos a1 (show (0 : Int) < 9 by omega)
  have m2 := Int.emod_nonneg a2 (show (9 : Int) ≠ 0 by omega)
  have n2 := Int.emod_lt_of_pos a2 (show (0 : Int) < 9 by omega)
  have m3 := Int.emod_nonneg a3 (show (9 : Int) ≠ 0 by omega)
  have n3 := Int.emod_lt_of_pos a3 (show (0 : Int) < 9 by omega)
  have m4 := Int.emod_nonneg a4 (show (9 : Int) ≠ 0 by omega)
  have n4 := Int.emod_lt_of_pos a4 (show (0 : Int) < 9 by omega)
  have m5 := Int.emod_nonneg a5 (show (9 : Int) ≠ 0 by omega)
  have n5 := Int.emod_lt_of_pos a5 (show (0 : Int) < 9 by omega)
  unfold joinerylaw1_VecFits.f
  rw [known_yes]
  simp only [Option.bind_some, if_true]
  rw [within_eq a0 _ (by omega) (by omega), within_eq a1 _ (by omega) (by omega), within_eq a2 _ (by omega) (by omega), within_eq a3 _ (by omega) (by omega), within_eq a4 _ (by omega) (by omega), within_eq a5 _ (by omega) (by omega)]
  simp only [Option.bind_some]
  generalize a0 % 9 = x at m0 n0 ⊢
  generalize a1 % 9 = y at m1 n1 ⊢
  generalize a2 % 9 = z at m2 n2 ⊢
  generalize a3 % 9 = u at m3 n3 ⊢
  generalize a4 % 9 = v at m4 n4 ⊢
  generalize a5 % 9 = s at m5 n5 ⊢
  rw [fits_yes (a := x) (b := y) (c := x) (d := y) (by omega) (by omega)]
  by_cases h1 : x ≤ z
  · by_cases h2 : y ≤ u
    · rw [fits_yes h1 h2, sub_ok m0 m1 h1 h2 (by omega) (by omega)]
      simp only [Option.bind_some]
      rw [if_pos h1, if_neg (by simp; omega), if_neg (by simp)]
      exact fits_end _ _ _ _ _ _ _ (fits_yes h1 h2) 0
    · rw [fits_no (.inr (by omega)), sub_room m2 m3 m0 m1 (by omega) (by omega) (by omega) (by omega) (.inr (by omega))]
      simp only [Option.bind_some]
      rw [if_pos h1, if_neg (by simp; omega), if_neg (by simp)]
      exact fits_end _ _ _ _ _ _ _ (fits_no (.inr (by omega))) 0
  · rw [fits_no (.inl (by omega)), sub_room m2 m3 m0 m1 (by omega) (by omega) (by omega) (by omega) (.inl (by omega))]
    simp only [Option.bind_some]
    rw [if_neg h1, if_neg (by simp), if_neg (by simp)]
    exact fits_end _ _ _ _ _ _ _ (fits_no (.inl (by omega))) 0

end Go.Proofs.Ytoijbokiechibaa.Pure
