/- VecAll, over plain Lean functions: of any two what is right, their sum, what is left, whether one fits, are the document's. -/
import Derived.Test.YtoijbokiechibaaAx3
set_option linter.unusedVariables false
set_option linter.unusedSimpArgs false
namespace Go.Proofs.Ytoijbokiechibaa.Pure
open Go.RowKit Go.Proofs.Ytoijbokiechibaa.A Go.Proofs.Ytoijbokiechibaa.Base Go.Proofs.YtoijbokiechibaaW.PrintWords Go.Proofs.YtoijbokiechibaaW.PrintLast

namespace VA
def W (a : Int) : Prop := -9223372036854775808 ≤ a ∧ a ≤ 9223372036854775807
theorem wf_W {a : Int} (h : (Lit.int .i64 a).wf = true) : W a := by
  have e := Bool.and_eq_true_iff.mp h
  exact ⟨of_decide_eq_true e.1, of_decide_eq_true e.2⟩
theorem known_yes : joinerylaw1_known.f = some true := by decide +kernel
theorem within_eq (a n : Int) (hn : 0 < n) (hm : n ≤ 4611686018427387904) : joinerylaw1_within.f a n = some (a % n) := by
  unfold joinerylaw1_within.f
  rw [if_neg (by omega)]
  have h0 := Int.emod_nonneg a (show n ≠ 0 by omega)
  have h1 := Int.emod_lt_of_pos a hn
  by_cases ha : 0 ≤ a
  · have e : Int.tmod a n = a % n := Int.tmod_eq_emod_of_nonneg ha
    rw [e, if_neg (by omega)]
  · have e := Int.tmod_eq_emod (a := a) (b := n)
    by_cases hd : n ∣ a
    · have z : a % n = 0 := Int.emod_eq_zero_of_dvd hd
      have e2 : Int.tmod a n = 0 := Int.tmod_eq_zero_of_dvd hd
      rw [e2, z]
      simp
    · have e2 : Int.tmod a n = a % n - n := by
        rw [e, if_neg (by intro h; rcases h with h | h; exact ha h; exact hd h)]
        simp only [Int.natAbs_of_nonneg (show 0 ≤ n by omega)]
      rw [e2, if_pos (by omega)]
      congr 1
      unfold wrap64
      omega
theorem edge_some (a : Int) : ∃ e, joinerylaw1_Edge.f a = some e ∧ W e := by
  unfold joinerylaw1_Edge.f W
  have t0 := Int.emod_nonneg (wrap64 (Int.tdiv a 8)) (show (1000 : Int) ≠ 0 by omega)
  have t1 := Int.emod_lt_of_pos (wrap64 (Int.tdiv a 8)) (show (0 : Int) < 1000 by omega)
  have k0 := Int.emod_nonneg a (show (8 : Int) ≠ 0 by omega)
  have k1 := Int.emod_lt_of_pos a (show (0 : Int) < 8 by omega)
  rw [within_eq _ 1000 (by omega) (by omega), Option.bind_some, Option.bind_some, within_eq a 8 (by omega) (by omega), Option.bind_some, if_pos k0]
  generalize wrap64 (Int.tdiv a 8) % 1000 = t at t0 t1
  generalize a % 8 = k at k0 k1
  rw [if_pos (by simpa using k1)]
  refine ⟨_, rfl, ?_⟩
  have h : k = 0 ∨ k = 1 ∨ k = 2 ∨ k = 3 ∨ k = 4 ∨ k = 5 ∨ k = 6 ∨ k = 7 := by omega
  rcases h with rfl | rfl | rfl | rfl | rfl | rfl | rfl | rfl <;> simp [rd, wrap64] <;> omega
theorem right_eq (a b : Int) : vec_Right.f a b = some (rightB a b) ∧ joineryref1_Right.f a b = some (rightB a b) := by
  unfold vec_Right.f joineryref1_Right.f rightB mx
  by_cases h1 : 0 ≤ a
  · by_cases h2 : 0 ≤ b
    · simp [h1, h2]; try omega
    · simp [h1, h2]; try omega
  · by_cases h2 : 0 ≤ b
    · simp [h1, h2]; try omega
    · simp [h1, h2]; try omega
theorem fits_eq (a b c d : Int) : vec_Fits.f a b c d = joineryref1_Fits.f a b c d := by
  unfold vec_Fits.f joineryref1_Fits.f
  by_cases h1 : a ≤ c <;> simp [h1]
theorem words_yes {a b c d : Int} (h1 : W a) (h2 : W b) (h3 : W c) (h4 : W d) : words4 a b c d = true := by
  unfold words4 word
  rw [decide_eq_true h1.2, decide_eq_true h2.2, decide_eq_true h3.2, decide_eq_true h4.2]
  rfl
theorem right_cases (a b : Int) : (rightB a b = true ∧ 0 ≤ a ∧ 0 ≤ b) ∨ (rightB a b = false ∧ (a < 0 ∨ b < 0)) := by
  unfold rightB
  by_cases h1 : 0 ≤ a
  · by_cases h2 : 0 ≤ b
    · left; simp [h1, h2]
    · right; simp [h1, h2]; omega
  · right; simp [h1]; omega
theorem add_eq {a b c d : Int} (ha : W a) (hb : W b) (hc : W c) (hd : W d) (k : Nat) : joineryref1_Add.f (k + 1) a b c d = vec_Add.f a b c d := by
  unfold joineryref1_Add.f vec_Add.f
  rw [if_pos (words_yes ha hb hc hd), (right_eq a b).2, (right_eq c d).2]
  simp only [Option.bind_some]
  unfold outV
  unfold W at ha hb hc hd
  rcases right_cases a b with ⟨h1, h1a, h1b⟩ | ⟨h1, _⟩
  · rcases right_cases c d with ⟨h2, h2a, h2b⟩ | ⟨h2, _⟩
    · rw [h1, h2, if_pos rfl]
      simp only [Bool.not_true, Bool.and_self, if_true, joineryref1_Add.j0]
      rw [if_neg (by simp)]
      have e1 : wrap64 (9223372036854775807 - c) = 9223372036854775807 - c := by unfold wrap64; omega
      have e2 : wrap64 (9223372036854775807 - d) = 9223372036854775807 - d := by unfold wrap64; omega
      rw [e1, e2]
      by_cases g1 : a + c ≤ 9223372036854775807
      · rw [if_neg (by omega)]
        by_cases g2 : b + d ≤ 9223372036854775807
        · rw [if_neg (by omega)]
          have f1 : addOK a c = true := decide_eq_true g1
          have f2 : addOK b d = true := decide_eq_true g2
          rw [f1, f2, if_pos (by rfl)]
          unfold addV
          rw [f1, f2, if_pos rfl, if_pos rfl]
          have w1 : wrap64 (a + c) = a + c := by unfold wrap64; omega
          have w2 : wrap64 (b + d) = b + d := by unfold wrap64; omega
          rw [w1, w2]
        · rw [if_pos (by omega)]
          have f2 : addOK b d = false := decide_eq_false g2
          rw [f2, Bool.and_false, if_neg (by simp)]
      · rw [if_pos (by omega)]
        have f1 : addOK a c = false := decide_eq_false g1
        rw [f1, Bool.false_and, if_neg (by simp)]
    · rw [h1, h2, if_pos rfl]
      simp [joineryref1_Add.j0]
  · rw [h1, if_neg (by simp), Bool.false_and, if_neg (by simp)]
    simp [joineryref1_Add.j0]
theorem sub_eq {a b c d : Int} (ha : W a) (hb : W b) (hc : W c) (hd : W d) (k : Nat) : joineryref1_Sub.f (k + 1) a b c d = vec_Sub.f a b c d := by
  unfold joineryref1_Sub.f vec_Sub.f
  rw [if_pos (words_yes ha hb hc hd), (right_eq a b).2, (right_eq c d).2]
  simp only [Option.bind_some]
  unfold outV
  unfold W at ha hb hc hd
  rcases right_cases a b with ⟨h1, h1a, h1b⟩ | ⟨h1, _⟩
  · rcases right_cases c d with ⟨h2, h2a, h2b⟩ | ⟨h2, _⟩
    · rw [h1, h2, if_pos rfl]
      simp only [Bool.not_true, Bool.and_self, if_true, joineryref1_Sub.j0]
      rw [if_neg (by simp)]
      unfold joineryref1_Fits.f
      by_cases g1 : c ≤ a
      · rw [if_pos g1, Option.bind_some]
        by_cases g2 : d ≤ b
        · rw [decide_eq_true g2, if_pos rfl]
          have f1 : subOK a c = true := decide_eq_true g1
          have f2 : subOK b d = true := decide_eq_true g2
          rw [f1, f2, if_pos (by rfl)]
          unfold subV
          have w1 : wrap64 (a - c) = a - c := by unfold wrap64; omega
          have w2 : wrap64 (b - d) = b - d := by unfold wrap64; omega
          rw [w1, w2]
        · rw [decide_eq_false g2, if_neg (by simp)]
          have f2 : subOK b d = false := decide_eq_false g2
          rw [f2, Bool.and_false, if_neg (by simp)]
      · rw [if_neg g1, Option.bind_some, if_neg (by simp)]
        have f1 : subOK a c = false := decide_eq_false g1
        rw [f1, Bool.false_and, if_neg (by simp)]
    · rw [h1, h2, if_pos rfl]
      simp [joineryref1_Sub.j0]
  · rw [h1, if_neg (by simp), Bool.false_and, if_neg (by simp)]
    simp [joineryref1_Sub.j0]
theorem pair_step {a b c d : Int} (ha : W a) (hb : W b) (hc : W c) (hd : W d) (k : Nat) (X : Option Bool) :
    ((vec_Add.f a b c d).bind fun bt140 => ((joineryref1_Add.f (k + 1) a b c d).bind fun bt146 => ((vec_Sub.f a b c d).bind fun bt152 => ((joineryref1_Sub.f (k + 1) a b c d).bind fun bt158 => (if (!(bt140.1 == bt146.1) || (!(bt140.2.1 == bt146.2.1))) = true then (some false) else (if bt140.2.2 = bt146.2.2 then (if (!(bt152.1 == bt158.1) || (!(bt152.2.1 == bt158.2.1))) = true then (some false) else (if bt152.2.2 = bt158.2.2 then ((vec_Fits.f a b c d).bind fun t164 => ((joineryref1_Fits.f a b c d).bind fun t167 => (if (t164 != t167) = true then (some false) else ((vec_Right.f a b).bind fun t169 => ((joineryref1_Right.f a b).bind fun t171 => (if (t169 != t171) = true then (some false) else X)))))) else (some false))) else (some false))))))) = X := by
  rw [add_eq ha hb hc hd, sub_eq ha hb hc hd, fits_eq, (right_eq a b).1, (right_eq a b).2]
  have e1 : ∃ v, vec_Add.f a b c d = some v := ⟨_, by unfold vec_Add.f; rw [if_pos (words_yes ha hb hc hd)]⟩
  have e2 : ∃ v, vec_Sub.f a b c d = some v := ⟨_, by unfold vec_Sub.f; rw [if_pos (words_yes ha hb hc hd)]⟩
  have e3 : ∃ v, joineryref1_Fits.f a b c d = some v := by unfold joineryref1_Fits.f; split <;> exact ⟨_, rfl⟩
  obtain ⟨v1, h1⟩ := e1
  obtain ⟨v2, h2⟩ := e2
  obtain ⟨v3, h3⟩ := e3
  rw [h1, h2, h3]
  simp only [Option.bind_some]
  simp
theorem l1_step (xs : List S25) (h : ∀ i, W (rd_T25 xs i).f0 ∧ W (rd_T25 xs i).f1) (k : Nat) (i j : Int) (hi : 0 ≤ i) (hi2 : i < xs.length) (hj : 0 ≤ j) (hj2 : j < xs.length) (hl : xs.length = 5) :
    joinerylaw1_VecAll.l1 (k + 2) xs i j = joinerylaw1_VecAll.l1 (k + 1) xs i (j + 1) := by
  rw [joinerylaw1_VecAll.l1]
  rw [if_pos hj2, if_pos hi, if_pos hi2, if_pos hj, pair_step (h i).1 (h i).2 (h j).1 (h j).2]
  rw [show wrap64 (j + 1) = j + 1 by unfold wrap64; omega]
theorem inner (xs : List S25) (h : ∀ i, W (rd_T25 xs i).f0 ∧ W (rd_T25 xs i).f1) (hl : xs.length = 5) (i : Int) (hi : 0 ≤ i) (hi2 : i < xs.length) (k : Nat) :
    ∀ (m : Nat) (j : Int), 0 ≤ j → j + m = 5 → joinerylaw1_VecAll.l1 (k + 1 + m) xs i j = joinerylaw1_VecAll.l0 k xs (i + 1)
  | 0, j, h0, hm => by
    rw [Nat.add_zero, joinerylaw1_VecAll.l1, if_neg (by omega)]
    rw [show wrap64 (i + 1) = i + 1 by unfold wrap64; omega]
  | m + 1, j, h0, hm => by
    rw [show k + 1 + (m + 1) = (k + m) + 2 by omega, l1_step xs h (k + m) i j hi hi2 h0 (by omega) hl]
    rw [show k + m + 1 = k + 1 + m by omega]
    exact inner xs h hl i hi hi2 k m (j + 1) (by omega) (by omega)
theorem outer (xs : List S25) (h : ∀ i, W (rd_T25 xs i).f0 ∧ W (rd_T25 xs i).f1) (hl : xs.length = 5) :
    ∀ (m : Nat) (i : Int), 0 ≤ i → i + m = 5 → joinerylaw1_VecAll.l0 (1 + 7 * m) xs i = some true
  | 0, i, h0, hm => by
    rw [show 1 + 7 * 0 = 0 + 1 by omega, joinerylaw1_VecAll.l0, if_neg (by omega)]
  | m + 1, i, h0, hm => by
    rw [show 1 + 7 * (m + 1) = (1 + 7 * m + 1 + 5) + 1 by omega, joinerylaw1_VecAll.l0, if_pos (by omega)]
    rw [inner xs h hl i h0 (by omega) (1 + 7 * m) 5 0 (by omega) (by omega)]
    exact outer xs h hl m (i + 1) (by omega) (by omega)
end VA
open VA in
theorem VecAll : joinerylaw1_VecAll.Pure := by
  intro a0 a1 a2 a3 w0 w1 w2 w3
  refine ⟨36, ?_⟩
  have b0 : W a0 := wf_W w0
  have b1 : W a1 := wf_W w1
  have b2 : W a2 := wf_W w2
  have b3 : W a3 := wf_W w3
  obtain ⟨e0, h0, v0⟩ := edge_some a0
  obtain ⟨e1, h1, v1⟩ := edge_some a1
  obtain ⟨e2, h2, v2⟩ := edge_some a2
  obtain ⟨e3, h3, v3⟩ := edge_some a3
  unfold joinerylaw1_VecAll.f
  rw [known_yes]
  simp only [Option.bind_some, if_true]
  rw [h0, h1, h2, h3]
  simp only [Option.bind_some]
  refine outer _ ?_ rfl 5 0 (by omega) (by omega)
  intro i
  unfold rd_T25
  have W5 : W 5 := by unfold W; omega
  have W0 : W 0 := by unfold W; omega
  match i.toNat with
  | 0 => exact ⟨b0, b1⟩
  | 1 => exact ⟨b2, b3⟩
  | 2 => exact ⟨v0, v1⟩
  | 3 => exact ⟨v2, v3⟩
  | 4 => exact ⟨v0, W5⟩
  | n + 5 => exact ⟨W0, W0⟩
end Go.Proofs.Ytoijbokiechibaa.Pure
