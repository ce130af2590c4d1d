/- FitNames, over plain Lean functions: names do not matter, nor where the pod is asked to go, nor what those beside need. -/
import Derived.Test.YtciedbaeenhgkaaNx7
import Derived.Test.YtciedbaeenhgkaaFactsN
set_option linter.unusedVariables false
set_option linter.unusedSimpArgs false
namespace Go.Proofs.Ytciedbaeenhgkaa.Pure
open Go.RowKit Go.Proofs.Ytciedbaeenhgkaa Go.Proofs.Ytciedbaeenhgkaa.Base Go.Proofs.Ytciedbaeenhgkaa.BaseM Go.Proofs.Ytciedbaeenhgkaa.BaseR Go.Proofs.Ytciedbaeenhgkaa.N Go.Proofs.Ytciedbaeenhgkaa.FactsN Go.Proofs.YtciedbaeenhgkaaW.PrintWords Go.Proofs.YtciedbaeenhgkaaW.PrintLast

theorem FitNames : joinerylaw5_FitNames.Pure := by
  intro a0 a1 a2 a3 a4 _ _ _ _ _
  refine ⟨30, ?_⟩
  obtain ⟨nm, s, a, b, P, B, al, hp, ⟨a0', a1'⟩, ⟨b0', b1'⟩, lP, lB⟩ := pod_some a0 30 (by omega)
  obtain ⟨sn, c, d, M, T, cl, hn, lM, lT⟩ := node_some a1 a2 30 (by omega)
  obtain ⟨o1, h1⟩ := name_some a3
  obtain ⟨o2, h2⟩ := name_some (wrap64 (Int.tdiv a3 8))
  have m4 := Int.emod_nonneg a4 (show (12 : Int) ≠ 0 by omega)
  have n4 := Int.emod_lt_of_pos a4 (show (0 : Int) < 12 by omega)
  unfold joinerylaw5_FitNames.f
  rw [known_ge (by omega)]
  simp only [Option.bind_some, if_true]
  rw [hp]
  simp only [Option.bind_some]
  rw [hn]
  simp only [Option.bind_some]
  rw [h1, h2, within5 a4 12 (by omega) (by omega)]
  simp only [Option.bind_some]
  generalize a4 % 12 = u at m4 n4
  have hw : ∀ n' s' m' ps, ps.length ≤ 4 → fit_Why.f 30 n' s' a b P B al m' c d M T cl u 0 ps = some (whyS cl (allIn P M) (allIn T B) (decide (u + a ≤ c) && decide (0 + b ≤ d)) al ps) := fun n' s' m' ps hps =>
    why_eq _ _ _ _ _ _ _ _ _ _ _ _ _ _ _ _ _ (fits_small _ _ _ _ _ _ _ _ _ _ _ _ _ _ _ m4 (by omega) a0' b0' (by omega) (by omega)) (by omega) 30 (by omega)
  have W0 : W 0 := by unfold W; omega
  obtain ⟨t, hf, hr⟩ := same nm s a b P B al sn c d M T cl u 0 [(⟨(⟨#[113]⟩ : ByteArray), (⟨#[110]⟩ : ByteArray), (⟨0, 0⟩ : S25), false⟩ : S41)] (by unfold W; omega) (by unfold W; omega) (by unfold W; omega) W0 30 lP lB lM lT (by simp) (by omega)
  rw [hr]
  have ht := hf
  rw [hw _ _ _ _ (by simp)] at ht
  rw [hw _ _ _ _ (by simp), hw _ _ _ _ (by simp), hw _ _ _ _ (by simp), hw _ _ _ _ (by simp)]
  simp only [Option.bind_some]
  rw [← Option.some.inj ht]
  rw [if_pos (by rfl)]
  simp

end Go.Proofs.Ytciedbaeenhgkaa.Pure
