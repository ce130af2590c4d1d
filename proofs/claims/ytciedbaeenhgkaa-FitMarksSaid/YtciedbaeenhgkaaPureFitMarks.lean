/- FitMarks, over plain Lean functions: a pod may stand where all that it picks is marked, and all that taints is borne. -/
import Derived.Test.YtciedbaeenhgkaaPx3
import Derived.Test.YtciedbaeenhgkaaFactsP
set_option linter.unusedVariables false
set_option linter.unusedSimpArgs false
namespace Go.Proofs.Ytciedbaeenhgkaa.Pure
open Go.RowKit Go.Proofs.Ytciedbaeenhgkaa Go.Proofs.Ytciedbaeenhgkaa.Base Go.Proofs.Ytciedbaeenhgkaa.BaseM Go.Proofs.Ytciedbaeenhgkaa.BaseR Go.Proofs.Ytciedbaeenhgkaa.P Go.Proofs.Ytciedbaeenhgkaa.FactsP Go.Proofs.YtciedbaeenhgkaaW.PrintWords Go.Proofs.YtciedbaeenhgkaaW.PrintLast

theorem FitMarks : joinerylaw5_FitMarks.Pure := by
  intro a0 a1 a2 a3 _ _ _ _
  refine ⟨20, ?_⟩
  obtain ⟨p, hp, lp⟩ := set_some a0 20 (by omega)
  obtain ⟨b, hb, lb⟩ := set_some a1 20 (by omega)
  obtain ⟨m, hm, lm⟩ := set_some a2 20 (by omega)
  obtain ⟨t, ht, lt⟩ := set_some a3 20 (by omega)
  unfold joinerylaw5_FitMarks.f
  rw [known_ge (by omega)]
  simp only [Option.bind_some, if_true]
  rw [hp, hb, hm, ht]
  simp only [Option.bind_some]
  rw [all_eq p m (by omega) (by omega) 20 (by omega), all_eq t b (by omega) (by omega) 20 (by omega),
    why_eq _ _ _ _ _ _ _ _ _ _ _ _ _ _ _ _ _ (fits_small _ _ _ _ _ _ _ _ _ _ _ _ _ _ _ (by omega) (by omega) (by omega) (by omega) (by omega) (by omega)) (by simp) 20 (by simp)]
  simp only [Option.bind_some]
  cases allIn p m <;> cases allIn t b <;> rfl

end Go.Proofs.Ytciedbaeenhgkaa.Pure
