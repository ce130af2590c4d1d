/- MarkOrder, over plain Lean functions: a set stands in rising order of bytes, none twice: turned about, or with one twice, it is none; at all whole numbers: what is answered depends on the numbers' rests by 16 and by 12 alone, and these are gone through. -/
import Derived.Test.YtocndmgimcmfaaaOx2
set_option linter.unusedVariables false
set_option linter.unusedSimpArgs false
namespace Go.Proofs.Ytocndmgimcmfaaa.Pure
open Go.RowKit Go.Proofs.Ytocndmgimcmfaaa.Base Go.Proofs.Ytocndmgimcmfaaa.O Go.Proofs.YtocndmgimcmfaaaW.PrintWords Go.Proofs.YtocndmgimcmfaaaW.PrintLast

namespace MO
theorem within_eq (a n : Int) (hn : 0 < n) (hm : n ≤ 4611686018427387904) : joinerylaw2_within.f a n = some (a % n) := by
  unfold joinerylaw2_within.f
  rw [if_neg (by omega)]
  have h0 := Int.emod_nonneg a (show n ≠ 0 by omega)
  have h1 := Int.emod_lt_of_pos a hn
  by_cases ha : 0 ≤ a
  · have e : Int.tmod a n = a % n := Int.tmod_eq_emod_of_nonneg ha
    rw [e, if_neg (by omega)]
  · have e := Int.tmod_eq_emod (a := a) (b := n)
    by_cases hd : n ∣ a
    · have z : a % n = 0 := Int.emod_eq_zero_of_dvd hd
      have e2 : Int.tmod a n = 0 := Int.tmod_eq_zero_of_dvd hd
      rw [e2, z]
      simp
    · have e2 : Int.tmod a n = a % n - n := by
        rw [e, if_neg (by intro h; rcases h with h | h; exact ha h; exact hd h)]
        simp only [Int.natAbs_of_nonneg (show 0 ≤ n by omega)]
      rw [e2, if_pos (by omega)]
      congr 1
      unfold wrap64
      omega
theorem bit_eq (a : Int) (i : Int) (h0 : 0 ≤ i) (h1 : i < 4) (w1 : -9223372036854775808 ≤ a) (w2 : a ≤ 9223372036854775807) :
    joinerylaw2_within.f (shr .i64 a (IntKind.u64.wrap i)) 2 = joinerylaw2_within.f (shr .i64 (a % 16) (IntKind.u64.wrap i)) 2 := by
  rw [within_eq _ _ (by omega) (by omega), within_eq _ _ (by omega) (by omega)]
  congr 1
  have : i = 0 ∨ i = 1 ∨ i = 2 ∨ i = 3 := by omega
  rcases this with rfl | rfl | rfl | rfl
  · unfold shr; rw [show min (IntKind.u64.wrap 0).toNat IntKind.i64.bits = 0 by decide]; omega
  · unfold shr; rw [show min (IntKind.u64.wrap 1).toNat IntKind.i64.bits = 1 by decide]; omega
  · unfold shr; rw [show min (IntKind.u64.wrap 2).toNat IntKind.i64.bits = 2 by decide]; omega
  · unfold shr; rw [show min (IntKind.u64.wrap 3).toNat IntKind.i64.bits = 3 by decide]; omega
theorem set_go (a : Int) (names : List ByteArray) (w1 : -9223372036854775808 ≤ a) (w2 : a ≤ 9223372036854775807) : ∀ (k : Nat) (x4 : List ByteArray) (i : Int), 0 ≤ i → joinerylaw2_Set.l0 k a names x4 i = joinerylaw2_Set.l0 k (a % 16) names x4 i
  | 0, x4, i, h0 => by simp only [joinerylaw2_Set.l0]
  | k + 1, x4, i, h0 => by
    rw [joinerylaw2_Set.l0, joinerylaw2_Set.l0]
    by_cases h : i < 4
    · rw [if_pos h, if_pos h, bit_eq a i h0 h w1 w2]
      have e : wrap64 (i + 1) = i + 1 := by unfold wrap64; omega
      rw [e, set_go a names w1 w2 k x4 (i + 1) (by omega), set_go a names w1 w2 k (x4 ++ [rdOf ByteArray.empty names i]) (i + 1) (by omega)]
    · rw [if_neg h, if_neg h]
theorem set_eq (a : Int) (w1 : -9223372036854775808 ≤ a) (w2 : a ≤ 9223372036854775807) (k : Nat) : joinerylaw2_Set.f k a = joinerylaw2_Set.f k (a % 16) := set_go a _ w1 w2 k _ 0 (by omega)
def setOk (t : Nat) : Bool := match joinerylaw2_Set.f 6 (t : Int) with
  | some s => decide (s.length ≤ 4)
  | none => false
theorem sets : ∀ t : Fin 16, setOk t.val = true := by decide +kernel
theorem set_some (t : Int) (h0 : 0 ≤ t) (h1 : t < 16) : ∃ s, joinerylaw2_Set.f 6 t = some s ∧ s.length ≤ 4 := by
  have h := sets ⟨t.toNat, by omega⟩
  unfold setOk at h
  rw [show (((⟨t.toNat, by omega⟩ : Fin 16).val : Nat) : Int) = t by simp; omega] at h
  cases e : joinerylaw2_Set.f 6 t with
  | none => rw [e] at h; simp at h
  | some s => rw [e] at h; exact ⟨s, rfl, of_decide_eq_true h⟩
theorem within_12 (a n : Int) (h0 : 0 < n) (h1 : n ≤ 4) : joinerylaw2_within.f a n = joinerylaw2_within.f (a % 12) n := by
  rw [within_eq a n h0 (by omega), within_eq (a % 12) n h0 (by omega)]
  have h : n = 1 ∨ n = 2 ∨ n = 3 ∨ n = 4 := by omega
  rcases h with rfl | rfl | rfl | rfl <;> congr 1 <;> omega
theorem f_eq (a0 a1 : Int) (w1 : -9223372036854775808 ≤ a0) (w2 : a0 ≤ 9223372036854775807) : joinerylaw2_MarkOrder.f 6 a0 a1 = joinerylaw2_MarkOrder.f 6 (a0 % 16) (a1 % 12) := by
  have m0 := Int.emod_nonneg a0 (show (16 : Int) ≠ 0 by omega)
  have n0 := Int.emod_lt_of_pos a0 (show (0 : Int) < 16 by omega)
  obtain ⟨s, hs, hl⟩ := set_some (a0 % 16) m0 n0
  unfold joinerylaw2_MarkOrder.f
  rw [set_eq a0 w1 w2, hs]
  simp only [Option.bind_some]
  by_cases e : (s.length : Int) = 0
  · simp only [if_pos e]
  · rw [within_12 a1 (s.length : Int) (by omega) (by omega)]
theorem all_cases : ∀ t : Fin 16, ∀ u : Fin 12, joinerylaw2_MarkOrder.f 6 (t.val : Int) (u.val : Int) = some true := by decide +kernel
theorem wf_W {a : Int} (h : (Lit.int .i64 a).wf = true) : -9223372036854775808 ≤ a ∧ a ≤ 9223372036854775807 := by
  have e := Bool.and_eq_true_iff.mp h
  exact ⟨of_decide_eq_true e.1, of_decide_eq_true e.2⟩
end MO
open MO in
theorem MarkOrder : joinerylaw2_MarkOrder.Pure := by
  intro a0 a1 w0 _
  refine ⟨6, ?_⟩
  have m0 := Int.emod_nonneg a0 (show (16 : Int) ≠ 0 by omega)
  have n0 := Int.emod_lt_of_pos a0 (show (0 : Int) < 16 by omega)
  have m1 := Int.emod_nonneg a1 (show (12 : Int) ≠ 0 by omega)
  have n1 := Int.emod_lt_of_pos a1 (show (0 : Int) < 12 by omega)
  have h := all_cases ⟨(a0 % 16).toNat, by omega⟩ ⟨(a1 % 12).toNat, by omega⟩
  rw [show ((⟨(a0 % 16).toNat, by omega⟩ : Fin 16).val : Int) = a0 % 16 by simp; omega, show ((⟨(a1 % 12).toNat, by omega⟩ : Fin 12).val : Int) = a1 % 12 by simp; omega] at h
  rw [f_eq a0 a1 (wf_W w0).1 (wf_W w0).2]
  exact h
end Go.Proofs.Ytocndmgimcmfaaa.Pure
