/- FitFirst, over plain Lean functions: of several reasons the first one is told: as it goes, the next one is. -/
import Derived.Test.YtciedbaeenhgkaaPx5
import Derived.Test.YtciedbaeenhgkaaFactsP
set_option linter.unusedVariables false
set_option linter.unusedSimpArgs false
namespace Go.Proofs.Ytciedbaeenhgkaa.Pure
open Go.RowKit Go.Proofs.Ytciedbaeenhgkaa Go.Proofs.Ytciedbaeenhgkaa.Base Go.Proofs.Ytciedbaeenhgkaa.BaseM Go.Proofs.Ytciedbaeenhgkaa.BaseR Go.Proofs.Ytciedbaeenhgkaa.P Go.Proofs.Ytciedbaeenhgkaa.FactsP Go.Proofs.YtciedbaeenhgkaaW.PrintWords Go.Proofs.YtciedbaeenhgkaaW.PrintLast

def rest (t : Int) : Option Bool :=
  if t > 0 then (joinerylaw5_FitFirst.j0 20 [(⟨(⟨#[113]⟩ : ByteArray), (⟨#[110]⟩ : ByteArray), (⟨0, 0⟩ : S25), true⟩ : S41)] t (⟨#[112]⟩ : ByteArray) 0 3 0 [(⟨#[98, 105, 103]⟩ : ByteArray)] true (⟨#[110]⟩ : ByteArray) 2 0 [(⟨#[119, 101, 115, 116]⟩ : ByteArray)] false) else (joinerylaw5_FitFirst.j0 20 [(⟨(⟨#[113]⟩ : ByteArray), (⟨#[110]⟩ : ByteArray), (⟨0, 0⟩ : S25), true⟩ : S41)] t (⟨#[112]⟩ : ByteArray) 0 3 0 [(⟨#[98, 105, 103]⟩ : ByteArray)] true (⟨#[110]⟩ : ByteArray) 2 0 [(⟨#[119, 101, 115, 116]⟩ : ByteArray)] true)
theorem rest_all : ∀ t : Fin 7, rest (t.val : Int) = some true := by decide +kernel
theorem FitFirst : joinerylaw5_FitFirst.Pure := by
  intro a0 _
  refine ⟨20, ?_⟩
  have m0 := Int.emod_nonneg a0 (show (7 : Int) ≠ 0 by omega)
  have n0 := Int.emod_lt_of_pos a0 (show (0 : Int) < 7 by omega)
  unfold joinerylaw5_FitFirst.f
  rw [known_ge (by omega)]
  simp only [Option.bind_some, if_true]
  rw [within5 a0 7 (by omega) (by omega)]
  simp only [Option.bind_some]
  generalize a0 % 7 = t at m0 n0
  have h := rest_all ⟨t.toNat, by omega⟩
  rw [show ((⟨t.toNat, by omega⟩ : Fin 7).val : Int) = t by simp; omega] at h
  exact h

end Go.Proofs.Ytciedbaeenhgkaa.Pure
