/- FitKnown, over plain Lean functions: these may not stand there for just these reasons, the first one counts; at all whole numbers: what is answered depends on the number's rest by 12 alone, and these are gone through. -/
import Derived.Test.YtciedbaeenhgkaaK3
set_option linter.unusedVariables false
set_option linter.unusedSimpArgs false
namespace Go.Proofs.Ytciedbaeenhgkaa.Pure
open Go.RowKit Go.Proofs.Ytciedbaeenhgkaa Go.Proofs.Ytciedbaeenhgkaa.Base Go.Proofs.Ytciedbaeenhgkaa.BaseM Go.Proofs.Ytciedbaeenhgkaa.BaseR Go.Proofs.Ytciedbaeenhgkaa.Q Go.Proofs.Ytciedbaeenhgkaa.M Go.Proofs.YtciedbaeenhgkaaW.PrintWords Go.Proofs.YtciedbaeenhgkaaW.PrintLast

namespace FK
theorem within_eq (a n : Int) (hn : 0 < n) (hm : n ≤ 4611686018427387904) : joinerylaw5_within.f a n = some (a % n) := by
  unfold joinerylaw5_within.f
  rw [if_neg (by omega)]
  have h0 := Int.emod_nonneg a (show n ≠ 0 by omega)
  have h1 := Int.emod_lt_of_pos a hn
  by_cases ha : 0 ≤ a
  · have e : Int.tmod a n = a % n := Int.tmod_eq_emod_of_nonneg ha
    rw [e, if_neg (by omega)]
  · have e := Int.tmod_eq_emod (a := a) (b := n)
    by_cases hd : n ∣ a
    · have z : a % n = 0 := Int.emod_eq_zero_of_dvd hd
      have e2 : Int.tmod a n = 0 := Int.tmod_eq_zero_of_dvd hd
      rw [e2, z]
      simp
    · have e2 : Int.tmod a n = a % n - n := by
        rw [e, if_neg (by intro h; rcases h with h | h; exact ha h; exact hd h)]
        simp only [Int.natAbs_of_nonneg (show 0 ≤ n by omega)]
      rw [e2, if_pos (by omega)]
      congr 1
      unfold wrap64
      omega
theorem f_eq (k : Nat) (a0 : Int) : joinerylaw5_FitKnown.f k a0 = joinerylaw5_FitKnown.f k (a0 % 12) := by
  unfold joinerylaw5_FitKnown.f
  simp only [Option.bind_some, List.length_cons, List.length_nil]
  have e : ∀ n : Int, n = 12 → joinerylaw5_within.f a0 n = joinerylaw5_within.f (a0 % 12) n := by
    rintro n rfl
    rw [within_eq a0 12 (by omega) (by omega), within_eq (a0 % 12) 12 (by omega) (by omega), Int.emod_emod_of_dvd a0 (by omega : (12 : Int) ∣ 12)]
  rw [e _ (by omega)]
theorem all_cases : ∀ t : Fin 12, joinerylaw5_FitKnown.f 20 (t.val : Int) = some true := by decide +kernel
end FK
open FK in
theorem FitKnown : joinerylaw5_FitKnown.Pure := by
  intro a0 _
  refine ⟨20, ?_⟩
  have m0 := Int.emod_nonneg a0 (show (12 : Int) ≠ 0 by omega)
  have n0 := Int.emod_lt_of_pos a0 (show (0 : Int) < 12 by omega)
  rw [f_eq]
  generalize a0 % 12 = t at m0 n0
  have h := all_cases ⟨t.toNat, by omega⟩
  rw [show ((⟨t.toNat, by omega⟩ : Fin 12).val : Int) = t by simp; omega] at h
  exact h
end Go.Proofs.Ytciedbaeenhgkaa.Pure
