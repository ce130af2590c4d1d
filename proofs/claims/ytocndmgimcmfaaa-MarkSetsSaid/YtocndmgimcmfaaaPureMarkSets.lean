/- MarkSets, over plain Lean functions: whether any row is a set of marks, whether all of one are among another one, are the document's; at any numbers, at any text of at most 100 bytes. -/
import Derived.Test.YtocndmgimcmfaaaSx4
set_option linter.unusedVariables false
set_option linter.unusedSimpArgs false
namespace Go.Proofs.Ytocndmgimcmfaaa.Pure
open Go.RowKit Go.Proofs.Ytocndmgimcmfaaa.Base Go.Proofs.Ytocndmgimcmfaaa.S Go.Proofs.Ytocndmgimcmfaaa.Plain Go.Proofs.YtocndmgimcmfaaaW.PrintWords Go.Proofs.YtocndmgimcmfaaaW.PrintLast

namespace MS
theorem within_eq (a n : Int) (hn : 0 < n) (hm : n ≤ 4611686018427387904) : joinerylaw2_within.f a n = some (a % n) := by
  unfold joinerylaw2_within.f
  rw [if_neg (by omega)]
  have h0 := Int.emod_nonneg a (show n ≠ 0 by omega)
  have h1 := Int.emod_lt_of_pos a hn
  by_cases ha : 0 ≤ a
  · have e : Int.tmod a n = a % n := Int.tmod_eq_emod_of_nonneg ha
    rw [e, if_neg (by omega)]
  · have e := Int.tmod_eq_emod (a := a) (b := n)
    by_cases hd : n ∣ a
    · have z : a % n = 0 := Int.emod_eq_zero_of_dvd hd
      have e2 : Int.tmod a n = 0 := Int.tmod_eq_zero_of_dvd hd
      rw [e2, z]
      simp
    · have e2 : Int.tmod a n = a % n - n := by
        rw [e, if_neg (by intro h; rcases h with h | h; exact ha h; exact hd h)]
        simp only [Int.natAbs_of_nonneg (show 0 ≤ n by omega)]
      rw [e2, if_pos (by omega)]
      congr 1
      unfold wrap64
      omega
theorem known_yes : joinerylaw2_known.f = some true := by decide +kernel
theorem w1 {i : Int} (h : 0 ≤ i) (h2 : i < 4611686018427387904) : wrap64 (i + 1) = i + 1 := by unfold wrap64; omega
theorem drop_go (l : List ByteArray) (k : Nat) (h : k < l.length) : l.drop k = rdOf ByteArray.empty l (k : Int) :: l.drop (k + 1) := by
  rw [List.drop_eq_getElem_cons h]
  simp [rdOf, List.getD_eq_getElem?_getD, List.getElem?_eq_getElem h]
theorem in_go (l : List ByteArray) (s : ByteArray) (hl : l.length ≤ 1000) (k : Nat) : ∀ (m j : Nat), j + m = l.length → joineryref2_In.l0 (k + m + 1) l s (j : Int) = some (isIn (l.drop j) s)
  | 0, j, h => by rw [Nat.add_zero, joineryref2_In.l0, if_neg (by omega), List.drop_of_length_le (by omega)]; rfl
  | m + 1, j, h => by
    rw [joineryref2_In.l0, if_pos (by omega), if_pos (by omega), w1 (by omega) (by omega), drop_go l j (by omega)]
    by_cases he : (rdOf ByteArray.empty l (j : Int)).toList = s.toList
    · rw [if_pos he]
      simp [isIn, he]
    · rw [if_neg he, show k + (m + 1) = k + m + 1 by omega, show (j : Int) + 1 = ((j + 1 : Nat) : Int) by omega, in_go l s hl k m (j + 1) (by omega)]
      have : (s.toList == (rdOf ByteArray.empty l (j : Int)).toList) = false := by
        rw [beq_eq_false_iff_ne]; exact fun h => he h.symm
      simp [isIn, this]
theorem in_eq (l : List ByteArray) (s : ByteArray) (hl : l.length ≤ 1000) (k : Nat) (hk : l.length + 1 ≤ k) : joineryref2_In.f k l s = some (isIn l s) := by
  have := in_go l s hl (k - l.length - 1) l.length 0 (by omega)
  rw [show k - l.length - 1 + l.length + 1 = k by omega] at this
  exact this
theorem all_go (l l1 : List ByteArray) (hl : l.length ≤ 1000) (hl1 : l1.length ≤ 1000) (k : Nat) (hk : l1.length + 1 ≤ k) : ∀ (m j : Nat), j + m = l.length → joineryref2_All.l0 (k + m + 1) l l1 (j : Int) = some (allIn (l.drop j) l1)
  | 0, j, h => by rw [Nat.add_zero, joineryref2_All.l0, if_neg (by omega), List.drop_of_length_le (by omega)]; rfl
  | m + 1, j, h => by
    rw [joineryref2_All.l0, if_pos (by omega), if_pos (by omega), w1 (by omega) (by omega), drop_go l j (by omega), in_eq l1 _ hl1 _ (by omega), Option.bind_some]
    cases hi : isIn l1 (rdOf ByteArray.empty l (j : Int)) with
    | false => simp [allIn, hi]
    | true =>
      rw [if_pos rfl, show k + (m + 1) = k + m + 1 by omega, show (j : Int) + 1 = ((j + 1 : Nat) : Int) by omega, all_go l l1 hl hl1 k hk m (j + 1) (by omega)]
      simp [allIn, hi]
theorem all_eq (l l1 : List ByteArray) (hl : l.length ≤ 1000) (hl1 : l1.length ≤ 1000) (k : Nat) (hk : l.length + l1.length + 2 ≤ k) : joineryref2_All.f k l l1 = some (allIn l l1) := by
  have := all_go l l1 hl hl1 (k - l.length - 1) (by omega) l.length 0 (by omega)
  rw [show k - l.length - 1 + l.length + 1 = k by omega] at this
  exact this
theorem refset_go (l : List ByteArray) (hs : small l = true) (hl : l.length ≤ 4) (k : Nat) : ∀ (m j : Nat), j + m = l.length → joineryref2_Set.l0 (k + m + 1) l (j : Int) = some (okFrom l j)
  | 0, j, h => by rw [Nat.add_zero, joineryref2_Set.l0, if_neg (by omega), okFrom_end l j (by omega)]
  | m + 1, j, h => by
    have hn : joineryref2_Name.f (rdOf ByteArray.empty l (j : Int)) = some (nameB (at_ l (j : Int))) := if_pos (small_at l hs (j : Int) (by omega) (by omega))
    rw [joineryref2_Set.l0, if_pos (by omega), if_pos (by omega), hn, Option.bind_some, okFrom_go l j (by omega)]
    unfold okAt
    have hstep : joineryref2_Set.l0 (k + (m + 1)) l (wrap64 ((j : Int) + 1)) = some (okFrom l (j + 1)) := by
      rw [w1 (by omega) (by omega), show k + (m + 1) = k + m + 1 by omega, show (j : Int) + 1 = ((j + 1 : Nat) : Int) by omega]
      exact refset_go l hs hl k m (j + 1) (by omega)
    cases hb : nameB (at_ l (j : Int)) with
    | false => rw [if_neg (by simp)]; rfl
    | true =>
      rw [if_pos rfl]
      by_cases h0 : (j : Int) > 0
      · have e1 : wrap64 ((j : Int) - 1) = (j : Int) - 1 := by unfold wrap64; omega
        rw [if_pos h0, e1, if_pos (by omega), if_pos (by omega), decide_eq_false (show ¬ (j : Int) ≤ 0 by omega)]
        cases hc : Op.bytesLess (at_ l ((j : Int) - 1)).toList (at_ l (j : Int)).toList with
        | true => rw [if_pos (show Op.bytesLess (rdOf ByteArray.empty l ((j : Int) - 1)).toList (rdOf ByteArray.empty l (j : Int)).toList = true from hc), hstep]; rfl
        | false => rw [if_neg (show ¬ Op.bytesLess (rdOf ByteArray.empty l ((j : Int) - 1)).toList (rdOf ByteArray.empty l (j : Int)).toList = true from by intro hx; exact absurd (hx.symm.trans hc) (by simp))]; rfl
      · rw [if_neg h0, decide_eq_true (show (j : Int) ≤ 0 by omega), hstep]
        rfl
theorem refset_eq (l : List ByteArray) (hs : small l = true) (k : Nat) (hk : 5 ≤ k) : joineryref2_Set.f k l = some (setB l) := by
  unfold joineryref2_Set.f setB
  by_cases hl : (l.length : Int) > 4
  · rw [if_pos hl, decide_eq_false (by omega), Bool.and_false]
  · rw [if_neg hl, decide_eq_true (by omega), Bool.and_true]
    have := refset_go l hs (by omega) (k - l.length - 1) l.length 0 (by omega)
    rw [show k - l.length - 1 + l.length + 1 = k by omega] at this
    exact this
theorem set_eq (l : List ByteArray) (hs : small l = true) : mark_Set.f l = some (setB l) := if_pos hs
def P (l : List ByteArray) : Prop := small l = true ∧ l.length ≤ 6
theorem small_of {l : List ByteArray} (h : ∀ x ∈ l, x.size ≤ B62) : small l = true := List.all_eq_true.2 fun x hx => decide_eq_true (h x hx)
theorem of_small {l : List ByteArray} (h : small l = true) : ∀ x ∈ l, x.size ≤ B62 := fun x hx => of_decide_eq_true (List.all_eq_true.1 h x hx)
theorem row_at (rows : List (List ByteArray)) (j : Nat) (h : j < rows.length) : rd_L1 rows (j : Int) ∈ rows := by
  unfold rd_L1
  rw [List.getD_eq_getElem?_getD, List.getElem?_eq_getElem (show ((j : Int)).toNat < rows.length by omega)]
  exact List.getElem_mem _
theorem rows_go (a b : List ByteArray) (ha : P a) (hb : P b) (rows : List (List ByteArray)) (hr : ∀ r ∈ rows, P r) (hl : rows.length ≤ 100) (k : Nat) (hk : 20 ≤ k) : ∀ (m j : Nat), j + m = rows.length → joinerylaw2_MarkSets.l2 (k + m + 1) a b rows (j : Int) = some true
  | 0, j, h => by rw [Nat.add_zero, joinerylaw2_MarkSets.l2, if_neg (by omega)]
  | m + 1, j, h => by
    obtain ⟨hs, hn⟩ := hr _ (row_at rows j (by omega))
    rw [joinerylaw2_MarkSets.l2, if_pos (by omega), if_pos (by omega), set_eq _ hs, Option.bind_some, refset_eq _ hs _ (by omega), Option.bind_some, if_neg (by simp)]
    have ha' := ha.2
    have hb' := hb.2
    rw [all_eq (rd_L1 rows (j : Int)) a (by omega) (by omega) _ (by omega), all_eq b (rd_L1 rows (j : Int)) (by omega) (by omega) _ (by omega)]
    unfold mark_All.f
    simp only [Option.bind_some]
    rw [if_neg (by simp), if_neg (by simp), w1 (by omega) (by omega), show k + (m + 1) = k + m + 1 by omega, show (j : Int) + 1 = ((j + 1 : Nat) : Int) by omega]
    exact rows_go a b ha hb rows hr hl k hk m (j + 1) (by omega)
theorem sets_go (a : Int) (names : List ByteArray) (hn : small names = true) (h4 : names.length = 4) (k : Nat) : ∀ (m i : Nat) (x4 : List ByteArray), i + m = 4 → small x4 = true → x4.length ≤ i → ∃ s, joinerylaw2_Set.l0 (k + m + 1) a names x4 (i : Int) = some s ∧ small s = true ∧ s.length ≤ 4
  | 0, i, x4, h, hs, hl => ⟨x4, by rw [Nat.add_zero, joinerylaw2_Set.l0, if_neg (by omega)], hs, by omega⟩
  | m + 1, i, x4, h, hs, hl => by
    have hu : 0 ≤ IntKind.u64.wrap (i : Int) := by
      have : i = 0 ∨ i = 1 ∨ i = 2 ∨ i = 3 := by omega
      rcases this with rfl | rfl | rfl | rfl <;> decide
    rw [joinerylaw2_Set.l0, if_pos (by omega), if_pos hu, within_eq _ 2 (by omega) (by omega), Option.bind_some, w1 (by omega) (by omega), show k + (m + 1) = k + m + 1 by omega, show (i : Int) + 1 = ((i + 1 : Nat) : Int) by omega]
    split
    · rw [if_pos (by omega), if_pos (by omega), if_pos (by omega)]
      refine sets_go a names hn h4 k m (i + 1) _ (by omega) (small_of ?_) (by simp; omega)
      intro x hx
      rw [List.mem_append, List.mem_singleton] at hx
      rcases hx with hx | rfl
      · exact of_small hs x hx
      · exact small_at names hn (i : Int) (by omega) (by omega)
    · exact sets_go a names hn h4 k m (i + 1) x4 (by omega) hs (by omega)
theorem sets_some (a : Int) (k : Nat) (hk : 5 ≤ k) : ∃ s, joinerylaw2_Set.f k a = some s ∧ small s = true ∧ s.length ≤ 4 := by
  have := sets_go a [(⟨#[98, 105, 103]⟩ : ByteArray), (⟨#[115, 115, 100]⟩ : ByteArray), (⟨#[119, 101, 115, 116]⟩ : ByteArray), (⟨#[206, 179]⟩ : ByteArray)] (by decide +kernel) rfl (k - 5) 4 0 [] (by omega) rfl (by simp)
  rw [show k - 5 + 4 + 1 = k by omega] at this
  exact this
theorem name_some (a : Int) : ∃ s, joinerylaw2_Name.f a = some s ∧ s.size ≤ B62 := by
  unfold joinerylaw2_Name.f
  have k0 := Int.emod_nonneg a (show (8 : Int) ≠ 0 by omega)
  have k1 := Int.emod_lt_of_pos a (show (0 : Int) < 8 by omega)
  rw [Option.bind_some, within_eq a 8 (by omega) (by omega), Option.bind_some, if_pos k0, if_pos (by simpa using k1)]
  generalize a % 8 = t at k0 k1
  have h : t = 0 ∨ t = 1 ∨ t = 2 ∨ t = 3 ∨ t = 4 ∨ t = 5 ∨ t = 6 ∨ t = 7 := by omega
  rcases h with rfl | rfl | rfl | rfl | rfl | rfl | rfl | rfl <;> exact ⟨_, rfl, by decide +kernel⟩
theorem j4_ok (x3 : Int) (x9 x10 x13 : List ByteArray) (h9 : P x9) (h10 : P x10) (h13 : P x13) : ∀ k, 40 ≤ k → joinerylaw2_MarkSets.j4 k x3 x9 x10 x13 = some true
  | 0, h => absurd h (by omega)
  | k + 1, h => by
    obtain ⟨s, hs, h1, h2⟩ := sets_some x3 k (by omega)
    rw [joinerylaw2_MarkSets.j4, hs, Option.bind_some]
    have := rows_go x9 x10 h9 h10 [x9, x10, x13, [], s, [(⟨#[97]⟩ : ByteArray), (⟨#[98]⟩ : ByteArray), (⟨#[99]⟩ : ByteArray), (⟨#[100]⟩ : ByteArray), (⟨#[101]⟩ : ByteArray)], [(⟨#[97]⟩ : ByteArray), (⟨#[98]⟩ : ByteArray), (⟨#[99]⟩ : ByteArray), (⟨#[100]⟩ : ByteArray)]] (by
      intro r hr
      simp only [List.mem_cons, List.not_mem_nil, or_false] at hr
      rcases hr with rfl | rfl | rfl | rfl | rfl | rfl | rfl
      · exact h9
      · exact h10
      · exact h13
      · exact ⟨rfl, by simp⟩
      · exact ⟨h1, by omega⟩
      · exact ⟨by decide +kernel, by simp⟩
      · exact ⟨by decide +kernel, by simp⟩) (by simp) (k - 8) (by omega) 7 0 (by simp)
    rw [show k - 8 + 7 + 1 = k by omega] at this
    exact this
theorem j3_ok (x2 : ByteArray) (hx : x2.size ≤ B62) (x3 : Int) (x9 x10 : List ByteArray) (h9 : P x9) (h10 : P x10) : ∀ k, 41 ≤ k → joinerylaw2_MarkSets.j3 k x2 x3 x9 x10 = some true
  | 0, h => absurd h (by omega)
  | k + 1, h => by
    have l9 := h9.2
    rw [joinerylaw2_MarkSets.j3]
    simp only [Option.bind_some, List.nil_append, List.length_nil, Nat.zero_add]
    rw [if_pos (by omega)]
    by_cases hl : (x9.length : Int) > 0
    · have t0 := Int.emod_nonneg x3 (show (x9.length : Int) ≠ 0 by omega)
      have t1 := Int.emod_lt_of_pos x3 (show 0 < (x9.length : Int) by omega)
      rw [if_pos hl, within_eq x3 _ (by omega) (by omega), Option.bind_some, if_pos t0, if_pos t1]
      refine j4_ok x3 x9 x10 _ h9 h10 ⟨small_of fun x hm => ?_, by rw [List.length_set]; exact l9⟩ k (by omega)
      rcases List.mem_or_eq_of_mem_set hm with hm | rfl
      · exact of_small h9.1 x hm
      · exact hx
    · rw [if_neg hl]
      exact j4_ok x3 x9 x10 x9 h9 h10 h9 k (by omega)
theorem snoc {l : List ByteArray} {s : ByteArray} (h : small l = true) (hs : s.size ≤ B62) : small (l ++ [s]) = true := by
  refine small_of fun x hx => ?_
  rw [List.mem_append, List.mem_singleton] at hx
  rcases hx with hx | rfl
  · exact of_small h x hx
  · exact hs
theorem l1_go (x1 : List Int) (x2 : ByteArray) (hx : x2.size ≤ B62) (x3 : Int) (x9 : List ByteArray) (h9 : P x9) (k : Nat) (hk : 41 ≤ k) : ∀ (m i : Nat) (x10 : List ByteArray), i + m = 6 → small x10 = true → x10.length ≤ i → joinerylaw2_MarkSets.l1 (k + m + 1) x1 x2 x3 x9 x10 (i : Int) = some true
  | 0, i, x10, h, hs, hl => by
    rw [Nat.add_zero, joinerylaw2_MarkSets.l1]
    split
    · rw [if_neg (by omega)]
      exact j3_ok x2 hx x3 x9 x10 h9 ⟨hs, by omega⟩ k hk
    · exact j3_ok x2 hx x3 x9 x10 h9 ⟨hs, by omega⟩ k hk
  | m + 1, i, x10, h, hs, hl => by
    rw [joinerylaw2_MarkSets.l1]
    by_cases c : (i : Int) < (x1.length : Int)
    · obtain ⟨s, e, hz⟩ := name_some (rd x1 (i : Int))
      rw [if_pos c, if_pos (by omega), if_pos (by omega), e, Option.bind_some, if_pos (by omega), w1 (by omega) (by omega), show k + (m + 1) = k + m + 1 by omega, show (i : Int) + 1 = ((i + 1 : Nat) : Int) by omega]
      exact l1_go x1 x2 hx x3 x9 h9 k hk m (i + 1) _ (by omega) (snoc hs hz) (by simp; omega)
    · rw [if_neg c]
      exact j3_ok x2 hx x3 x9 x10 h9 ⟨hs, by omega⟩ _ (by omega)
theorem j1_ok (x1 : List Int) (x2 : ByteArray) (hx : x2.size ≤ B62) (x3 : Int) (x9 : List ByteArray) (h9 : P x9) : ∀ k, 60 ≤ k → joinerylaw2_MarkSets.j1 k x1 x2 x3 x9 [] = some true
  | 0, h => absurd h (by omega)
  | k + 1, h => by
    rw [joinerylaw2_MarkSets.j1]
    have := l1_go x1 x2 hx x3 x9 h9 (k - 7) (by omega) 6 0 [] (by omega) rfl (by simp)
    rw [show k - 7 + 6 + 1 = k by omega] at this
    exact this
theorem l0_go (x0 x1 : List Int) (x2 : ByteArray) (hx : x2.size ≤ B62) (x3 : Int) (k : Nat) (hk : 60 ≤ k) : ∀ (m i : Nat) (x9 : List ByteArray), i + m = 6 → small x9 = true → x9.length ≤ i → joinerylaw2_MarkSets.l0 (k + m + 1) x0 x1 x2 x3 x9 (i : Int) = some true
  | 0, i, x9, h, hs, hl => by
    rw [Nat.add_zero, joinerylaw2_MarkSets.l0]
    split
    · rw [if_neg (by omega)]
      exact j1_ok x1 x2 hx x3 x9 ⟨hs, by omega⟩ k hk
    · exact j1_ok x1 x2 hx x3 x9 ⟨hs, by omega⟩ k hk
  | m + 1, i, x9, h, hs, hl => by
    rw [joinerylaw2_MarkSets.l0]
    by_cases c : (i : Int) < (x0.length : Int)
    · obtain ⟨s, e, hz⟩ := name_some (rd x0 (i : Int))
      rw [if_pos c, if_pos (by omega), if_pos (by omega), e, Option.bind_some, if_pos (by omega), w1 (by omega) (by omega), show k + (m + 1) = k + m + 1 by omega, show (i : Int) + 1 = ((i + 1 : Nat) : Int) by omega]
      exact l0_go x0 x1 x2 hx x3 k hk m (i + 1) _ (by omega) (snoc hs hz) (by simp; omega)
    · rw [if_neg c]
      exact j1_ok x1 x2 hx x3 x9 ⟨hs, by omega⟩ _ (by omega)
end MS
open MS in
theorem MarkSets : joinerylaw2_MarkSets.Pure := by
  intro l0 l1 a2 a3 _ _ _ _ _ _ _ _
  refine ⟨100, ?_⟩
  unfold joinerylaw2_MarkSets.f
  rw [known_yes, Option.bind_some, if_pos rfl]
  by_cases h : (a2.size : Int) > 100
  · rw [if_pos h]
  · rw [if_neg h]
    exact l0_go l0 l1 a2 (by unfold B62; omega) a3 93 (by omega) 6 0 [] (by omega) rfl (by simp)
end Go.Proofs.Ytocndmgimcmfaaa.Pure
