/- MarkKnown, over plain Lean functions: of the 24 listed texts just the first seven are names; at every whole number. -/
import Derived.Test.YtocndmgimcmfaaaPx3
import Derived.Test.YtocndmgimcmfaaaFacts
namespace Go.Proofs.Ytocndmgimcmfaaa.Pure
open Go.RowKit Go.Proofs.Ytocndmgimcmfaaa.P Go.Proofs.Ytocndmgimcmfaaa.Facts Go.Proofs.Ytocndmgimcmfaaa.Base Go.Proofs.YtocndmgimcmfaaaW.PrintWords Go.Proofs.YtocndmgimcmfaaaW.PrintLast

def list24 : List ByteArray := ([(⟨#[97]⟩ : ByteArray), (⟨#[122, 57]⟩ : ByteArray), (⟨#[206, 177, 206, 178, 206, 179, 206, 180, 206, 181, 206, 182, 206, 183, 206, 184]⟩ : ByteArray), (⟨#[97, 98, 99, 100, 101, 102, 103, 104]⟩ : ByteArray), (⟨#[97, 48, 98, 49, 99, 50, 100, 51]⟩ : ByteArray), (⟨#[207, 137]⟩ : ByteArray), (⟨#[207, 130]⟩ : ByteArray), (⟨#[206, 177, 206, 178, 206, 179, 206, 180, 206, 181, 206, 182, 206, 183, 206, 184, 206, 185]⟩ : ByteArray), (⟨#[97, 98, 99, 100, 101, 102, 103, 104, 105]⟩ : ByteArray), (⟨#[57, 97]⟩ : ByteArray), (⟨#[48]⟩ : ByteArray), (⟨#[65]⟩ : ByteArray), (⟨#[206, 145]⟩ : ByteArray), (⟨#[206, 172]⟩ : ByteArray), (⟨#[207, 138]⟩ : ByteArray), (⟨#[97, 32, 98]⟩ : ByteArray), (⟨#[97, 45, 98]⟩ : ByteArray), (⟨#[206]⟩ : ByteArray), (⟨#[97, 177]⟩ : ByteArray), (⟨#[97, 239, 191, 189]⟩ : ByteArray), (⟨#[]⟩ : ByteArray), (⟨#[195, 169]⟩ : ByteArray), (⟨#[206, 176]⟩ : ByteArray), (⟨#[207, 144]⟩ : ByteArray)] : List ByteArray)

theorem each24 : ∀ t : Fin 24, ((mark_Name.f (rdOf ByteArray.empty list24 (t.val : Int))).bind fun t134 => (some (t134 == (decide ((t.val : Int) < 7))))) = some true := by decide +kernel

theorem MarkKnown : joinerylaw2_MarkKnown.Pure := by
  intro a0 _
  unfold joinerylaw2_MarkKnown.f
  rw [known_yes]
  simp only [Option.bind_some, if_true]
  show ((joinerylaw2_within.f a0 (list24.length : Int)).bind fun t132 => (if 0 ≤ t132 then (if t132 < (list24.length : Int) then ((mark_Name.f (rdOf ByteArray.empty list24 t132)).bind fun t134 => (some (t134 == (decide (t132 < 7))))) else (none)) else (none))) = some true
  have hl : (list24.length : Int) = 24 := rfl
  rw [hl, within_eq a0 24 (by omega) (by omega), Option.bind_some]
  have h0 := Int.emod_nonneg a0 (show (24 : Int) ≠ 0 by omega)
  have h1 := Int.emod_lt_of_pos a0 (show (0 : Int) < 24 by omega)
  rw [if_pos h0, if_pos h1]
  have h := each24 ⟨(a0 % 24).toNat, by omega⟩
  simp only [Int.toNat_of_nonneg h0] at h
  exact h

end Go.Proofs.Ytocndmgimcmfaaa.Pure
