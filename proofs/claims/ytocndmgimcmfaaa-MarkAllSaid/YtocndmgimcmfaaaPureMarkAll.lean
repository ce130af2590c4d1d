/- MarkAll, over plain Lean functions: all of none are among any; none but none are among none; with one more there are as many, at least; at all whole numbers: what is answered depends on the numbers' rests by 16 and by 8 alone, and these are gone through. -/
import Derived.Test.YtocndmgimcmfaaaRx1
set_option linter.unusedVariables false
set_option linter.unusedSimpArgs false
namespace Go.Proofs.Ytocndmgimcmfaaa.Pure
open Go.RowKit Go.Proofs.Ytocndmgimcmfaaa.Base Go.Proofs.Ytocndmgimcmfaaa.R Go.Proofs.YtocndmgimcmfaaaW.PrintWords Go.Proofs.YtocndmgimcmfaaaW.PrintLast

namespace MA
theorem within_eq (a n : Int) (hn : 0 < n) (hm : n ≤ 4611686018427387904) : joinerylaw2_within.f a n = some (a % n) := by
  unfold joinerylaw2_within.f
  rw [if_neg (by omega)]
  have h0 := Int.emod_nonneg a (show n ≠ 0 by omega)
  have h1 := Int.emod_lt_of_pos a hn
  by_cases ha : 0 ≤ a
  · have e : Int.tmod a n = a % n := Int.tmod_eq_emod_of_nonneg ha
    rw [e, if_neg (by omega)]
  · have e := Int.tmod_eq_emod (a := a) (b := n)
    by_cases hd : n ∣ a
    · have z : a % n = 0 := Int.emod_eq_zero_of_dvd hd
      have e2 : Int.tmod a n = 0 := Int.tmod_eq_zero_of_dvd hd
      rw [e2, z]
      simp
    · have e2 : Int.tmod a n = a % n - n := by
        rw [e, if_neg (by intro h; rcases h with h | h; exact ha h; exact hd h)]
        simp only [Int.natAbs_of_nonneg (show 0 ≤ n by omega)]
      rw [e2, if_pos (by omega)]
      congr 1
      unfold wrap64
      omega
theorem bit_eq (a : Int) (i : Int) (h0 : 0 ≤ i) (h1 : i < 4) (w1 : -9223372036854775808 ≤ a) (w2 : a ≤ 9223372036854775807) :
    joinerylaw2_within.f (shr .i64 a (IntKind.u64.wrap i)) 2 = joinerylaw2_within.f (shr .i64 (a % 16) (IntKind.u64.wrap i)) 2 := by
  rw [within_eq _ _ (by omega) (by omega), within_eq _ _ (by omega) (by omega)]
  congr 1
  have : i = 0 ∨ i = 1 ∨ i = 2 ∨ i = 3 := by omega
  rcases this with rfl | rfl | rfl | rfl
  · unfold shr; rw [show min (IntKind.u64.wrap 0).toNat IntKind.i64.bits = 0 by decide]; omega
  · unfold shr; rw [show min (IntKind.u64.wrap 1).toNat IntKind.i64.bits = 1 by decide]; omega
  · unfold shr; rw [show min (IntKind.u64.wrap 2).toNat IntKind.i64.bits = 2 by decide]; omega
  · unfold shr; rw [show min (IntKind.u64.wrap 3).toNat IntKind.i64.bits = 3 by decide]; omega
theorem set_go (a : Int) (names : List ByteArray) (w1 : -9223372036854775808 ≤ a) (w2 : a ≤ 9223372036854775807) : ∀ (k : Nat) (x4 : List ByteArray) (i : Int), 0 ≤ i → joinerylaw2_Set.l0 k a names x4 i = joinerylaw2_Set.l0 k (a % 16) names x4 i
  | 0, x4, i, h0 => by simp only [joinerylaw2_Set.l0]
  | k + 1, x4, i, h0 => by
    rw [joinerylaw2_Set.l0, joinerylaw2_Set.l0]
    by_cases h : i < 4
    · rw [if_pos h, if_pos h, bit_eq a i h0 h w1 w2]
      have e : wrap64 (i + 1) = i + 1 := by unfold wrap64; omega
      rw [e, set_go a names w1 w2 k x4 (i + 1) (by omega), set_go a names w1 w2 k (x4 ++ [rdOf ByteArray.empty names i]) (i + 1) (by omega)]
    · rw [if_neg h, if_neg h]
theorem set_eq (a : Int) (w1 : -9223372036854775808 ≤ a) (w2 : a ≤ 9223372036854775807) (k : Nat) : joinerylaw2_Set.f k a = joinerylaw2_Set.f k (a % 16) := set_go a _ w1 w2 k _ 0 (by omega)
theorem name_eq (a : Int) : joinerylaw2_Name.f a = joinerylaw2_Name.f (a % 8) := by
  unfold joinerylaw2_Name.f
  rw [within_eq a 8 (by omega) (by omega), within_eq (a % 8) 8 (by omega) (by omega), Int.emod_emod_of_dvd a (by omega : (8 : Int) ∣ 8)]
theorem all_cases : ∀ t u : Fin 16, ∀ x : Fin 8, joinerylaw2_MarkAll.f 6 (t.val : Int) (u.val : Int) (x.val : Int) = some true := by decide +kernel
theorem wf_W {a : Int} (h : (Lit.int .i64 a).wf = true) : -9223372036854775808 ≤ a ∧ a ≤ 9223372036854775807 := by
  have e := Bool.and_eq_true_iff.mp h
  exact ⟨of_decide_eq_true e.1, of_decide_eq_true e.2⟩
end MA
open MA in
theorem MarkAll : joinerylaw2_MarkAll.Pure := by
  intro a0 a1 a2 w0 w1 _
  refine ⟨6, ?_⟩
  have m0 := Int.emod_nonneg a0 (show (16 : Int) ≠ 0 by omega)
  have n0 := Int.emod_lt_of_pos a0 (show (0 : Int) < 16 by omega)
  have m1 := Int.emod_nonneg a1 (show (16 : Int) ≠ 0 by omega)
  have n1 := Int.emod_lt_of_pos a1 (show (0 : Int) < 16 by omega)
  have m2 := Int.emod_nonneg a2 (show (8 : Int) ≠ 0 by omega)
  have n2 := Int.emod_lt_of_pos a2 (show (0 : Int) < 8 by omega)
  have h := all_cases ⟨(a0 % 16).toNat, by omega⟩ ⟨(a1 % 16).toNat, by omega⟩ ⟨(a2 % 8).toNat, by omega⟩
  rw [show ((⟨(a0 % 16).toNat, by omega⟩ : Fin 16).val : Int) = a0 % 16 by simp; omega, show ((⟨(a1 % 16).toNat, by omega⟩ : Fin 16).val : Int) = a1 % 16 by simp; omega, show ((⟨(a2 % 8).toNat, by omega⟩ : Fin 8).val : Int) = a2 % 8 by simp; omega] at h
  rw [← h]
  unfold joinerylaw2_MarkAll.f
  rw [set_eq a0 (wf_W w0).1 (wf_W w0).2, set_eq a1 (wf_W w1).1 (wf_W w1).2, name_eq a2]
  simp only [within_eq a0 16 (by omega) (by omega), within_eq a1 16 (by omega) (by omega), within_eq (a0 % 16) 16 (by omega) (by omega), within_eq (a1 % 16) 16 (by omega) (by omega), Int.emod_emod_of_dvd a0 (by omega : (16 : Int) ∣ 16), Int.emod_emod_of_dvd a1 (by omega : (16 : Int) ∣ 16)]
end Go.Proofs.Ytocndmgimcmfaaa.Pure
