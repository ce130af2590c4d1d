/- VecThree, over plain Lean functions: three are added up in whatever order, to the same, or are none in each; at every three whole numbers. -/
import Derived.Test.YtoijbokiechibaaPx5
import Derived.Test.YtoijbokiechibaaFacts
set_option linter.unusedVariables false
set_option linter.unusedSimpArgs false
namespace Go.Proofs.Ytoijbokiechibaa.Pure
open Go.RowKit Go.Proofs.Ytoijbokiechibaa.P Go.Proofs.Ytoijbokiechibaa.Facts Go.Proofs.Ytoijbokiechibaa.Base Go.Proofs.YtoijbokiechibaaW.PrintWords Go.Proofs.YtoijbokiechibaaW.PrintLast

theorem VecThree : joinerylaw1_VecThree.Pure := by
  intro a0 a1 a2 _ _ _
  obtain ⟨p, hp, p0, p1⟩ := edge_some a0
  obtain ⟨q, hq, q0, q1⟩ := edge_some a1
  obtain ⟨r, hr, r0, r1⟩ := edge_some a2
  unfold joinerylaw1_VecThree.f
  rw [known_yes]
  simp only [Option.bind_some, if_true]
  rw [hp, hq, hr]
  simp only [Option.bind_some]
  have hx : 0 ≤ mx p 0 ∧ mx p 0 ≤ 9223372036854775807 := by unfold mx; omega
  have hy : 0 ≤ mx q 0 ∧ mx q 0 ≤ 9223372036854775807 := by unfold mx; omega
  have hz : 0 ≤ mx r 0 ∧ mx r 0 ≤ 9223372036854775807 := by unfold mx; omega
  generalize mx p 0 = x at hx ⊢
  generalize mx q 0 = y at hy ⊢
  generalize mx r 0 = z at hz ⊢
  obtain ⟨x0, x1⟩ := hx
  obtain ⟨y0, y1⟩ := hy
  obtain ⟨z0, z1⟩ := hz
  by_cases h1 : x + y ≤ 9223372036854775807
  · rw [add_ok x0 (by omega) y0 (by omega) h1 (by omega)]
    simp only [Option.bind_some]
    by_cases h2 : y + z ≤ 9223372036854775807
    · rw [add_ok y0 (by omega) z0 (by omega) h2 (by omega)]
      simp only [Option.bind_some, if_true]
      by_cases h3 : x + y + z ≤ 9223372036854775807
      · rw [add_ok (by omega) (by omega) z0 (by omega) h3 (by omega), add_ok x0 (by omega) (by omega) (by omega) (by omega) (by omega)]
        simp only [Option.bind_some, if_true]
        rw [if_pos (by simp; omega)]
      · rw [add_room (by omega) (by omega) z0 (by omega) h1 (by omega) z1 (by omega) (.inl (by omega)), add_room x0 (by omega) (by omega) (by omega) x1 (by omega) h2 (by omega) (.inl (by omega))]
        rfl
    · rw [add_room y0 (by omega) z0 (by omega) y1 (by omega) z1 (by omega) (.inl (by omega))]
      simp only [Option.bind_some, if_true]
      by_cases h3 : x + y + z ≤ 9223372036854775807
      · exfalso; omega
      · rw [add_room (by omega) (by omega) z0 (by omega) h1 (by omega) z1 (by omega) (.inl (by omega)), add_ok x0 (by omega) (by omega) (by omega) (by omega) (by omega)]
        rfl
  · rw [add_room x0 (by omega) y0 (by omega) x1 (by omega) y1 (by omega) (.inl (by omega))]
    simp only [Option.bind_some]
    rw [add_ok (a := 0) (b := 0) (c := z) (d := 3) (by omega) (by omega) z0 (by omega) (by omega) (by omega)]
    by_cases h2 : y + z ≤ 9223372036854775807
    · rw [add_ok y0 (by omega) z0 (by omega) h2 (by omega)]
      simp only [Option.bind_some]
      by_cases h3 : x + (y + z) ≤ 9223372036854775807
      · exfalso; omega
      · rw [add_room x0 (by omega) (by omega) (by omega) x1 (by omega) h2 (by omega) (.inl (by omega))]
        rfl
    · rw [add_room y0 (by omega) z0 (by omega) y1 (by omega) z1 (by omega) (.inl (by omega))]
      simp only [Option.bind_some]
      rw [add_ok x0 (by omega) (by omega) (by omega) (by omega) (by omega)]
      rfl

end Go.Proofs.Ytoijbokiechibaa.Pure
