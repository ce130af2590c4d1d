/- MarkEach, over plain Lean functions: a rune by itself is a name just where it may be the first one, behind a letter just where it may stand; at every two whole numbers. -/
import Derived.Test.YtocndmgimcmfaaaPx4
import Derived.Test.YtocndmgimcmfaaaFacts
set_option linter.unusedVariables false
set_option linter.unusedSimpArgs false
namespace Go.Proofs.Ytocndmgimcmfaaa.Pure
open Go.RowKit Go.Proofs.Ytocndmgimcmfaaa.P Go.Proofs.Ytocndmgimcmfaaa.Facts Go.Proofs.Ytocndmgimcmfaaa.Base Go.Proofs.Ytocndmgimcmfaaa.Plain Go.Proofs.YtocndmgimcmfaaaW.PrintWords Go.Proofs.YtocndmgimcmfaaaW.PrintLast

def ends : List Int := ([944, 945, 969, 970, 96, 123, 48, 57, 128512, 65533] : List Int)
theorem at_ends : ∀ t : Fin 10, joinerylaw2_MarkEach.j0 5 (wrap32 (rd ends (t.val : Int))) = some true := by decide +kernel
theorem at_all : ∀ t : Fin 1280, joinerylaw2_MarkEach.j0 5 (t.val : Int) = some true := by decide +kernel

theorem MarkEach : joinerylaw2_MarkEach.Pure := by
  intro a0 a1 _ _
  refine ⟨5, ?_⟩
  unfold joinerylaw2_MarkEach.f
  rw [known_yes]
  simp only [Option.bind_some, if_true]
  rw [within_eq a0 1280 (by omega) (by omega), within_eq a1 3 (by omega) (by omega), within_eq a0 10 (by omega) (by omega)]
  simp only [Option.bind_some]
  have h0 := Int.emod_nonneg a0 (show (10 : Int) ≠ 0 by omega)
  have h1 := Int.emod_lt_of_pos a0 (show (0 : Int) < 10 by omega)
  have g0 := Int.emod_nonneg a0 (show (1280 : Int) ≠ 0 by omega)
  have g1 := Int.emod_lt_of_pos a0 (show (0 : Int) < 1280 by omega)
  by_cases hz : a1 % 3 = 0
  · rw [if_pos hz, if_pos h0]
    show (if a0 % 10 < (ends.length : Int) then joinerylaw2_MarkEach.j0 5 (wrap32 (rd ends (a0 % 10))) else none) = some true
    rw [if_pos (show a0 % 10 < (ends.length : Int) from h1)]
    have h := at_ends ⟨(a0 % 10).toNat, by omega⟩
    simp only [Int.toNat_of_nonneg h0] at h
    exact h
  · rw [if_neg hz]
    rw [show wrap32 (a0 % 1280) = a0 % 1280 by unfold wrap32; omega]
    have h := at_all ⟨(a0 % 1280).toNat, by omega⟩
    simp only [Int.toNat_of_nonneg g0] at h
    exact h

end Go.Proofs.Ytocndmgimcmfaaa.Pure
