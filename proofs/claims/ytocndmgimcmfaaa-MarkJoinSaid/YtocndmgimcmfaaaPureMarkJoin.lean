/- MarkJoin, over plain Lean functions: two of the eight listed names, one behind the other, are a name as long as they are not too long together; at every two whole numbers. -/
import Derived.Test.YtocndmgimcmfaaaPx4
import Derived.Test.YtocndmgimcmfaaaFacts
set_option linter.unusedVariables false
set_option linter.unusedSimpArgs false
namespace Go.Proofs.Ytocndmgimcmfaaa.Pure
open Go.RowKit Go.Proofs.Ytocndmgimcmfaaa.P Go.Proofs.Ytocndmgimcmfaaa.Facts Go.Proofs.Ytocndmgimcmfaaa.Base Go.Proofs.Ytocndmgimcmfaaa.Plain Go.Proofs.YtocndmgimcmfaaaW.PrintWords Go.Proofs.YtocndmgimcmfaaaW.PrintLast

theorem name_mod (a : Int) : joinerylaw2_Name.f a = joinerylaw2_Name.f (a % 8) := by
  unfold joinerylaw2_Name.f
  rw [within_eq a 8 (by omega) (by omega), within_eq (a % 8) 8 (by omega) (by omega), Int.emod_emod_of_dvd a (Int.dvd_refl 8)]

theorem joins : ∀ i j : Fin 8, joinerylaw2_MarkJoin.f (i.val : Int) (j.val : Int) = some true := by decide +kernel

theorem MarkJoin : joinerylaw2_MarkJoin.Pure := by
  intro a0 a1 _ _
  have h0 := Int.emod_nonneg a0 (show (8 : Int) ≠ 0 by omega)
  have h1 := Int.emod_lt_of_pos a0 (show (0 : Int) < 8 by omega)
  have g0 := Int.emod_nonneg a1 (show (8 : Int) ≠ 0 by omega)
  have g1 := Int.emod_lt_of_pos a1 (show (0 : Int) < 8 by omega)
  have h := joins ⟨(a0 % 8).toNat, by omega⟩ ⟨(a1 % 8).toNat, by omega⟩
  simp only [Int.toNat_of_nonneg h0, Int.toNat_of_nonneg g0] at h
  unfold joinerylaw2_MarkJoin.f at h ⊢
  rw [name_mod a0, name_mod a1]
  exact h

end Go.Proofs.Ytocndmgimcmfaaa.Pure
