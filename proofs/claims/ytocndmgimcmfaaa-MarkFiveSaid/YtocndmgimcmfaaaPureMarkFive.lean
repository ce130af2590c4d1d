/- MarkFive, over plain Lean functions: four marks may be, five may not, however they stand; at all whole numbers: what is answered depends on the numbers' rests alone, and these are gone through. -/
import Derived.Test.YtocndmgimcmfaaaFx1
set_option linter.unusedVariables false
set_option linter.unusedSimpArgs false
namespace Go.Proofs.Ytocndmgimcmfaaa.Pure
open Go.RowKit Go.Proofs.Ytocndmgimcmfaaa.Base Go.Proofs.Ytocndmgimcmfaaa.F Go.Proofs.YtocndmgimcmfaaaW.PrintWords Go.Proofs.YtocndmgimcmfaaaW.PrintLast

namespace MF
theorem within_eq (a n : Int) (hn : 0 < n) (hm : n ≤ 4611686018427387904) : joinerylaw2_within.f a n = some (a % n) := by
  unfold joinerylaw2_within.f
  rw [if_neg (by omega)]
  have h0 := Int.emod_nonneg a (show n ≠ 0 by omega)
  have h1 := Int.emod_lt_of_pos a hn
  by_cases ha : 0 ≤ a
  · have e : Int.tmod a n = a % n := Int.tmod_eq_emod_of_nonneg ha
    rw [e, if_neg (by omega)]
  · have e := Int.tmod_eq_emod (a := a) (b := n)
    by_cases hd : n ∣ a
    · have z : a % n = 0 := Int.emod_eq_zero_of_dvd hd
      have e2 : Int.tmod a n = 0 := Int.tmod_eq_zero_of_dvd hd
      rw [e2, z]
      simp
    · have e2 : Int.tmod a n = a % n - n := by
        rw [e, if_neg (by intro h; rcases h with h | h; exact ha h; exact hd h)]
        simp only [Int.natAbs_of_nonneg (show 0 ≤ n by omega)]
      rw [e2, if_pos (by omega)]
      congr 1
      unfold wrap64
      omega
theorem count (t : Int) (h0 : 0 ≤ t) (h1 : t < 8) : wrap64 (wrap64 (((0 + 1 + 1 + 1 + 1 + 1 + 1 + 1 + 1 : Nat) : Int) - t) + 1) = 9 - t := by
  unfold wrap64
  omega
theorem f_eq (a0 a1 : Int) : joinerylaw2_MarkFive.f a0 a1 = joinerylaw2_MarkFive.f (a0 % 8) (a1 % (9 - a0 % 8)) := by
  have m0 := Int.emod_nonneg a0 (show (8 : Int) ≠ 0 by omega)
  have n0 := Int.emod_lt_of_pos a0 (show (0 : Int) < 8 by omega)
  unfold joinerylaw2_MarkFive.f
  simp only [Option.bind_some, within_eq a0 8 (by omega) (by omega), within_eq (a0 % 8) 8 (by omega) (by omega), Int.emod_emod_of_dvd a0 (by omega : (8 : Int) ∣ 8), List.length_cons, List.length_nil]
  rw [count _ m0 n0, within_eq a1 _ (by omega) (by omega), within_eq (a1 % (9 - a0 % 8)) _ (by omega) (by omega), Int.emod_emod_of_dvd a1 (Int.dvd_refl (9 - a0 % 8))]
theorem all_cases : ∀ t : Fin 8, ∀ u : Fin 9, (u.val : Int) < 9 - (t.val : Int) → joinerylaw2_MarkFive.f (t.val : Int) (u.val : Int) = some true := by decide +kernel
end MF
open MF in
theorem MarkFive : joinerylaw2_MarkFive.Pure := by
  intro a0 a1 _ _
  have m0 := Int.emod_nonneg a0 (show (8 : Int) ≠ 0 by omega)
  have n0 := Int.emod_lt_of_pos a0 (show (0 : Int) < 8 by omega)
  have m1 := Int.emod_nonneg a1 (show (9 - a0 % 8 : Int) ≠ 0 by omega)
  have n1 := Int.emod_lt_of_pos a1 (show (0 : Int) < 9 - a0 % 8 by omega)
  rw [f_eq]
  generalize a0 % 8 = t at m0 n0 m1 n1
  generalize a1 % (9 - t) = u at m1 n1
  have h := all_cases ⟨t.toNat, by omega⟩ ⟨u.toNat, by omega⟩
  rw [show ((⟨t.toNat, by omega⟩ : Fin 8).val : Int) = t by simp; omega, show ((⟨u.toNat, by omega⟩ : Fin 9).val : Int) = u by simp; omega] at h
  exact h n1
end Go.Proofs.Ytocndmgimcmfaaa.Pure
