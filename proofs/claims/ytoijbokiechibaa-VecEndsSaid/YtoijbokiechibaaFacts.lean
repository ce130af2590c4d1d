/- Plain facts that the laws on pairs share: what 'known', 'within' and 'Edge' come to; sums, differences, fits by cases. -/
import Derived.Test.YtoijbokiechibaaPx2
set_option linter.unusedVariables false
set_option linter.unusedSimpArgs false
namespace Go.Proofs.Ytoijbokiechibaa.Facts
open Go.RowKit Go.Proofs.Ytoijbokiechibaa.Base Go.Proofs.Ytoijbokiechibaa.P Go.Proofs.YtoijbokiechibaaW.PrintWords Go.Proofs.YtoijbokiechibaaW.PrintLast

theorem known_yes : joinerylaw1_known.f = some true := by decide +kernel

theorem within_eq (a n : Int) (hn : 0 < n) (hm : n ≤ 4611686018427387904) : joinerylaw1_within.f a n = some (a % n) := by
  unfold joinerylaw1_within.f
  rw [if_neg (by omega)]
  have h0 := Int.emod_nonneg a (show n ≠ 0 by omega)
  have h1 := Int.emod_lt_of_pos a hn
  by_cases ha : 0 ≤ a
  · have e : Int.tmod a n = a % n := Int.tmod_eq_emod_of_nonneg ha
    rw [e, if_neg (by omega)]
  · have e := Int.tmod_eq_emod (a := a) (b := n)
    by_cases hd : n ∣ a
    · have z : a % n = 0 := Int.emod_eq_zero_of_dvd hd
      have e2 : Int.tmod a n = 0 := Int.tmod_eq_zero_of_dvd hd
      rw [e2, z]
      simp
    · have e2 : Int.tmod a n = a % n - n := by
        rw [e, if_neg (by intro h; rcases h with h | h; exact ha h; exact hd h)]
        simp only [Int.natAbs_of_nonneg (show 0 ≤ n by omega)]
      rw [e2, if_pos (by omega)]
      congr 1
      unfold wrap64
      omega

theorem words_yes {a b c d : Int} (h1 : a ≤ 9223372036854775807) (h2 : b ≤ 9223372036854775807) (h3 : c ≤ 9223372036854775807) (h4 : d ≤ 9223372036854775807) : words4 a b c d = true := by
  unfold words4 word
  rw [decide_eq_true h1, decide_eq_true h2, decide_eq_true h3, decide_eq_true h4]
  rfl
theorem right_yes {a b : Int} (h1 : 0 ≤ a) (h2 : 0 ≤ b) : rightB a b = true := by
  unfold rightB
  rw [decide_eq_true h1, decide_eq_true h2]
  rfl
theorem right_no {a b : Int} (h : a < 0 ∨ b < 0) : rightB a b = false := by
  unfold rightB
  rcases h with h | h
  · rw [decide_eq_false (by omega)]; rfl
  · rw [decide_eq_false (show ¬ 0 ≤ b by omega), Bool.and_false]

theorem add_ok {a b c d : Int} (a0 : 0 ≤ a) (b0 : 0 ≤ b) (c0 : 0 ≤ c) (d0 : 0 ≤ d) (h1 : a + c ≤ 9223372036854775807) (h2 : b + d ≤ 9223372036854775807) : vec_Add.f a b c d = some (a + c, b + d, 0) := by
  unfold vec_Add.f
  rw [if_pos (words_yes (by omega) (by omega) (by omega) (by omega)), right_yes a0 b0, right_yes c0 d0]
  have e1 : addOK a c = true := decide_eq_true h1
  have e2 : addOK b d = true := decide_eq_true h2
  have v1 : addV a c = a + c := by unfold addV; rw [e1]; rfl
  have v2 : addV b d = b + d := by unfold addV; rw [e2]; rfl
  rw [e1, e2, v1, v2]
  rfl
theorem add_room {a b c d : Int} (a0 : 0 ≤ a) (b0 : 0 ≤ b) (c0 : 0 ≤ c) (d0 : 0 ≤ d) (a1 : a ≤ 9223372036854775807) (b1 : b ≤ 9223372036854775807) (c1 : c ≤ 9223372036854775807) (d1 : d ≤ 9223372036854775807) (h : 9223372036854775807 < a + c ∨ 9223372036854775807 < b + d) : vec_Add.f a b c d = some (0, 0, 6) := by
  unfold vec_Add.f
  rw [if_pos (words_yes a1 b1 c1 d1), right_yes a0 b0, right_yes c0 d0]
  have e : (addOK a c && addOK b d) = false := by
    unfold addOK
    rcases h with h | h
    · rw [decide_eq_false (by omega)]; rfl
    · rw [decide_eq_false (show ¬ b + d ≤ _ by omega), Bool.and_false]
  unfold outV
  rw [e]
  rfl
theorem add_arg {a b c d : Int} (a1 : a ≤ 9223372036854775807) (b1 : b ≤ 9223372036854775807) (c1 : c ≤ 9223372036854775807) (d1 : d ≤ 9223372036854775807) (h : (a < 0 ∨ b < 0) ∨ (c < 0 ∨ d < 0)) : vec_Add.f a b c d = some (0, 0, 2) := by
  unfold vec_Add.f
  rw [if_pos (words_yes a1 b1 c1 d1)]
  have e : (rightB a b && rightB c d) = false := by
    rcases h with h | h
    · rw [right_no h]; rfl
    · rw [right_no h, Bool.and_false]
  rw [e]
  rfl
theorem sub_ok {a b c d : Int} (c0 : 0 ≤ c) (d0 : 0 ≤ d) (h1 : c ≤ a) (h2 : d ≤ b) (a1 : a ≤ 9223372036854775807) (b1 : b ≤ 9223372036854775807) : vec_Sub.f a b c d = some (a - c, b - d, 0) := by
  unfold vec_Sub.f
  rw [if_pos (words_yes (by omega) (by omega) (by omega) (by omega)), right_yes (by omega) (by omega), right_yes c0 d0]
  have e1 : subOK a c = true := decide_eq_true h1
  have e2 : subOK b d = true := decide_eq_true h2
  rw [e1, e2]
  rfl
theorem sub_room {a b c d : Int} (a0 : 0 ≤ a) (b0 : 0 ≤ b) (c0 : 0 ≤ c) (d0 : 0 ≤ d) (a1 : a ≤ 9223372036854775807) (b1 : b ≤ 9223372036854775807) (c1 : c ≤ 9223372036854775807) (d1 : d ≤ 9223372036854775807) (h : a < c ∨ b < d) : vec_Sub.f a b c d = some (0, 0, 6) := by
  unfold vec_Sub.f
  rw [if_pos (words_yes a1 b1 c1 d1), right_yes a0 b0, right_yes c0 d0]
  have e : (subOK a c && subOK b d) = false := by
    unfold subOK
    rcases h with h | h
    · rw [decide_eq_false (by omega)]; rfl
    · rw [decide_eq_false (show ¬ d ≤ b by omega), Bool.and_false]
  unfold outV
  rw [e]
  rfl
theorem sub_arg {a b c d : Int} (a1 : a ≤ 9223372036854775807) (b1 : b ≤ 9223372036854775807) (c1 : c ≤ 9223372036854775807) (d1 : d ≤ 9223372036854775807) (h : (a < 0 ∨ b < 0) ∨ (c < 0 ∨ d < 0)) : vec_Sub.f a b c d = some (0, 0, 2) := by
  unfold vec_Sub.f
  rw [if_pos (words_yes a1 b1 c1 d1)]
  have e : (rightB a b && rightB c d) = false := by
    rcases h with h | h
    · rw [right_no h]; rfl
    · rw [right_no h, Bool.and_false]
  rw [e]
  rfl
theorem fits_yes {a b c d : Int} (h1 : a ≤ c) (h2 : b ≤ d) : vec_Fits.f a b c d = some true := by
  unfold vec_Fits.f
  rw [decide_eq_true h1, decide_eq_true h2]
  rfl
theorem fits_no {a b c d : Int} (h : c < a ∨ d < b) : vec_Fits.f a b c d = some false := by
  unfold vec_Fits.f
  rcases h with h | h
  · rw [decide_eq_false (by omega)]; rfl
  · rw [decide_eq_false (show ¬ b ≤ d by omega), Bool.and_false]
theorem rightf_yes {a b : Int} (h1 : 0 ≤ a) (h2 : 0 ≤ b) : vec_Right.f a b = some true := by
  unfold vec_Right.f
  have e1 : mx a 0 = a := by unfold mx; omega
  have e2 : mx b 0 = b := by unfold mx; omega
  rw [e1, e2]
  simp
theorem rightf_no {a b : Int} (h : a < 0 ∨ b < 0) : vec_Right.f a b = some false := by
  unfold vec_Right.f
  congr 1
  rw [Bool.and_eq_false_iff]
  rcases h with h | h
  · left; rw [beq_eq_false_iff_ne]; unfold mx; omega
  · right; rw [beq_eq_false_iff_ne]; unfold mx; omega
theorem edge_some (a : Int) : ∃ e, joinerylaw1_Edge.f a = some e ∧ -9223372036854775808 ≤ e ∧ e ≤ 9223372036854775807 := by
  unfold joinerylaw1_Edge.f
  have t0 := Int.emod_nonneg (wrap64 (Int.tdiv a 8)) (show (1000 : Int) ≠ 0 by omega)
  have t1 := Int.emod_lt_of_pos (wrap64 (Int.tdiv a 8)) (show (0 : Int) < 1000 by omega)
  have k0 := Int.emod_nonneg a (show (8 : Int) ≠ 0 by omega)
  have k1 := Int.emod_lt_of_pos a (show (0 : Int) < 8 by omega)
  rw [within_eq _ 1000 (by omega) (by omega), Option.bind_some, Option.bind_some, within_eq a 8 (by omega) (by omega), Option.bind_some, if_pos k0]
  generalize wrap64 (Int.tdiv a 8) % 1000 = t at t0 t1
  generalize a % 8 = k at k0 k1
  rw [if_pos (by simpa using k1)]
  refine ⟨_, rfl, ?_⟩
  have h : k = 0 ∨ k = 1 ∨ k = 2 ∨ k = 3 ∨ k = 4 ∨ k = 5 ∨ k = 6 ∨ k = 7 := by omega
  rcases h with rfl | rfl | rfl | rfl | rfl | rfl | rfl | rfl <;> simp [rd, wrap64] <;> omega
end Go.Proofs.Ytoijbokiechibaa.Facts
