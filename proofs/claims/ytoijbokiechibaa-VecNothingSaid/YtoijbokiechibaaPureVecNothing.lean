/- VecNothing, over plain Lean functions: nothing added, or taken away, changes nothing; all taken away is nothing; nothing fits in anything right; at every two whole numbers. -/
import Derived.Test.YtoijbokiechibaaPx6
import Derived.Test.YtoijbokiechibaaFacts
set_option linter.unusedVariables false
set_option linter.unusedSimpArgs false
namespace Go.Proofs.Ytoijbokiechibaa.Pure
open Go.RowKit Go.Proofs.Ytoijbokiechibaa.P Go.Proofs.Ytoijbokiechibaa.Facts Go.Proofs.Ytoijbokiechibaa.Base Go.Proofs.YtoijbokiechibaaW.PrintWords Go.Proofs.YtoijbokiechibaaW.PrintLast

theorem VecNothing : joinerylaw1_VecNothing.Pure := by
  intro a0 a1 _ _
  obtain ⟨p, hp, p0, p1⟩ := edge_some a0
  obtain ⟨q, hq, q0, q1⟩ := edge_some a1
  unfold joinerylaw1_VecNothing.f
  rw [known_yes]
  simp only [Option.bind_some, if_true]
  rw [hp, hq]
  simp only [Option.bind_some]
  have hx : 0 ≤ mx p 0 ∧ mx p 0 ≤ 9223372036854775807 := by unfold mx; omega
  have hy : 0 ≤ mx q 0 ∧ mx q 0 ≤ 9223372036854775807 := by unfold mx; omega
  generalize mx p 0 = x at hx ⊢
  generalize mx q 0 = y at hy ⊢
  obtain ⟨x0, x1⟩ := hx
  obtain ⟨y0, y1⟩ := hy
  rw [add_ok x0 y0 (by omega) (by omega) (by omega) (by omega), sub_ok (by omega) (by omega) x0 y0 x1 y1, sub_ok x0 y0 (by omega) (by omega) x1 y1]
  simp only [Option.bind_some, if_true]
  rw [if_pos (by simp), if_pos (by simp), if_pos (by simp), fits_yes x0 y0, rightf_yes x0 y0]
  simp only [Option.bind_some, if_true]
  unfold joineryref1_Right.f
  rw [if_pos x0, decide_eq_true y0]
  rfl

end Go.Proofs.Ytoijbokiechibaa.Pure
