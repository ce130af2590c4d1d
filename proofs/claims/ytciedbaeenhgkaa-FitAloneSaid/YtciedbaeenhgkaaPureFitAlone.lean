/- FitAlone, over plain Lean functions: one that must be alone stands beside none; none stands beside such a one. -/
import Derived.Test.YtciedbaeenhgkaaPx4
import Derived.Test.YtciedbaeenhgkaaFactsP
set_option linter.unusedVariables false
set_option linter.unusedSimpArgs false
namespace Go.Proofs.Ytciedbaeenhgkaa.Pure
open Go.RowKit Go.Proofs.Ytciedbaeenhgkaa Go.Proofs.Ytciedbaeenhgkaa.Base Go.Proofs.Ytciedbaeenhgkaa.BaseM Go.Proofs.Ytciedbaeenhgkaa.BaseR Go.Proofs.Ytciedbaeenhgkaa.P Go.Proofs.Ytciedbaeenhgkaa.FactsP Go.Proofs.YtciedbaeenhgkaaW.PrintWords Go.Proofs.YtciedbaeenhgkaaW.PrintLast

theorem alone_go (x1 : Bool) (ps : List S41) (hl : ps.length ≤ 4) (nm : ByteArray) (k : Nat) (hk : 10 ≤ k) : ∀ (m j : Nat) (is : Bool), j + m = ps.length → (is || someAlone (ps.drop j)) = someAlone ps →
    joinerylaw5_FitAlone.l0 (k + m + 1) x1 ps is (j : Int) nm 0 0 0 x1 = some true
  | 0, j, is, h, hs => by
    have hsa : is = someAlone ps := by rw [← hs, List.drop_of_length_le (by omega)]; simp [someAlone]
    have hw := why_eq nm 0 0 0 [] [] x1 (⟨#[110]⟩ : ByteArray) 0 0 [] [] false 0 0 ps _ (fits_small nm 0 0 0 [] [] x1 (⟨#[110]⟩ : ByteArray) 0 0 [] [] false 0 0 (by omega) (by omega) (by omega) (by omega) (by omega) (by omega)) (by omega) (k - 1) (by omega)
    obtain ⟨k, rfl⟩ : ∃ k', k = k' + 1 := ⟨k - 1, by omega⟩
    rw [Nat.add_sub_cancel] at hw
    rw [Nat.add_zero, joinerylaw5_FitAlone.l0, if_neg (by omega)]
    simp only [joinerylaw5_FitAlone.j1]
    rw [hw, hsa]
    simp only [Option.bind_some]
    unfold whyS
    generalize decide ((ps.length : Int) > 0) = dd
    generalize someAlone ps = q
    cases x1 <;> cases dd <;> cases q <;> rfl
  | m + 1, j, is, h, hs => by
    rw [joinerylaw5_FitAlone.l0, if_pos (by omega), w1 (by omega) (by omega), show k + (m + 1) = k + m + 1 by omega, show (j : Int) + 1 = ((j + 1 : Nat) : Int) by omega]
    rw [drop_go41 ps j (by omega)] at hs
    cases is with
    | true =>
      rw [if_pos rfl]
      exact alone_go x1 ps hl nm k hk m (j + 1) true (by omega) (by simpa using hs)
    | false =>
      rw [if_neg (by simp), if_pos (by omega)]
      refine alone_go x1 ps hl nm k hk m (j + 1) _ (by omega) ?_
      rw [← hs]
      simp [someAlone]
theorem FitAlone : joinerylaw5_FitAlone.Pure := by
  intro l0 a1 _ _ _
  refine ⟨30, ?_⟩
  obtain ⟨ps, hp, lp⟩ := beside_some l0 30 (by omega)
  unfold joinerylaw5_FitAlone.f
  rw [known_ge (by omega)]
  simp only [Option.bind_some, if_true]
  rw [hp]
  simp only [Option.bind_some]
  have := alone_go a1 ps lp (⟨#[112]⟩ : ByteArray) (29 - ps.length) (by omega) ps.length 0 false (by omega) (by simp)
  rw [show 29 - ps.length + ps.length + 1 = 30 by omega] at this
  exact this

end Go.Proofs.Ytciedbaeenhgkaa.Pure
