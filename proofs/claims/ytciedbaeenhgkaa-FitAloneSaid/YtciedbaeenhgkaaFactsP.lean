/- Plain facts that the laws on fit share: what 'known', 'within', 'Set', 'beside', the document's All and fit.Why come to. -/
import Derived.Test.YtciedbaeenhgkaaPx3
import Derived.Test.YtciedbaeenhgkaaPx4
set_option linter.unusedVariables false
set_option linter.unusedSimpArgs false
namespace Go.Proofs.Ytciedbaeenhgkaa.FactsP
open Go.RowKit Go.Proofs.Ytciedbaeenhgkaa Go.Proofs.Ytciedbaeenhgkaa.Base Go.Proofs.Ytciedbaeenhgkaa.BaseM Go.Proofs.Ytciedbaeenhgkaa.BaseR Go.Proofs.Ytciedbaeenhgkaa.P Go.Proofs.YtciedbaeenhgkaaW.PrintWords Go.Proofs.YtciedbaeenhgkaaW.PrintLast

theorem known_yes : joinerylaw5_known.f 20 = some true := by decide +kernel
theorem known_any (k : Nat) : joinerylaw5_known.f (20 + k) = some true := by
  induction k with
  | zero => exact known_yes
  | succ k ih => exact joinerylaw5_known.mono (20 + k) true ih
theorem known_ge {k : Nat} (h : 20 ≤ k) : joinerylaw5_known.f k = some true := by
  have := known_any (k - 20); rwa [show 20 + (k - 20) = k by omega] at this

def win (a0 a1 : Int) : Option Int := if a1 = 0 then (none) else (if (Int.tmod a0 a1) < 0 then (some (wrap64 ((Int.tmod a0 a1) + a1))) else (some (Int.tmod a0 a1)))
theorem win_eq (a n : Int) (hn : 0 < n) (hm : n ≤ 4611686018427387904) : win a n = some (a % n) := by
  unfold win
  rw [if_neg (by omega)]
  have h0 := Int.emod_nonneg a (show n ≠ 0 by omega)
  have h1 := Int.emod_lt_of_pos a hn
  by_cases ha : 0 ≤ a
  · have e : Int.tmod a n = a % n := Int.tmod_eq_emod_of_nonneg ha
    rw [e, if_neg (by omega)]
  · have e := Int.tmod_eq_emod (a := a) (b := n)
    by_cases hd : n ∣ a
    · have z : a % n = 0 := Int.emod_eq_zero_of_dvd hd
      have e2 : Int.tmod a n = 0 := Int.tmod_eq_zero_of_dvd hd
      rw [e2, z]
      simp
    · have e2 : Int.tmod a n = a % n - n := by
        rw [e, if_neg (by intro h; rcases h with h | h; exact ha h; exact hd h)]
        simp only [Int.natAbs_of_nonneg (show 0 ≤ n by omega)]
      rw [e2, if_pos (by omega)]
      congr 1
      unfold wrap64
      omega
theorem within5 (a n : Int) (hn : 0 < n) (hm : n ≤ 4611686018427387904) : joinerylaw5_within.f a n = some (a % n) := win_eq a n hn hm
theorem within2 (a n : Int) (hn : 0 < n) (hm : n ≤ 4611686018427387904) : joinerylaw2_within.f a n = some (a % n) := win_eq a n hn hm

theorem w1 {i : Int} (h : 0 ≤ i) (h2 : i < 4611686018427387904) : wrap64 (i + 1) = i + 1 := by unfold wrap64; omega

theorem set_go (a : Int) (names : List ByteArray) (hn : names.length = 4) (k : Nat) : ∀ (m : Nat) (x4 : List ByteArray) (i : Int), i + m = 4 → 0 ≤ i → x4.length ≤ i.toNat → ∃ l, joinerylaw2_Set.l0 (k + m + 1) a names x4 i = some l ∧ l.length ≤ 4
  | 0, x4, i, h, h0, hl => ⟨x4, by rw [Nat.add_zero, joinerylaw2_Set.l0, if_neg (by omega)], by omega⟩
  | m + 1, x4, i, h, h0, hl => by
    rw [joinerylaw2_Set.l0, if_pos (by omega)]
    have hw : 0 ≤ IntKind.u64.wrap i := by
      have : i = 0 ∨ i = 1 ∨ i = 2 ∨ i = 3 := by omega
      rcases this with rfl | rfl | rfl | rfl <;> decide
    rw [if_pos hw, within2 _ _ (by omega) (by omega), Option.bind_some, w1 h0 (by omega)]
    have e : k + (m + 1) = k + m + 1 := by omega
    rw [e]
    split
    · rw [if_pos (by omega), if_pos (by omega)]
      exact set_go a names hn k m _ (i + 1) (by omega) (by omega) (by simp; omega)
    · exact set_go a names hn k m _ (i + 1) (by omega) (by omega) (by omega)
theorem set_some (a : Int) (k : Nat) (hk : 5 ≤ k) : ∃ l, joinerylaw2_Set.f k a = some l ∧ l.length ≤ 4 := by
  have := set_go a [(⟨#[98, 105, 103]⟩ : ByteArray), (⟨#[115, 115, 100]⟩ : ByteArray), (⟨#[119, 101, 115, 116]⟩ : ByteArray), (⟨#[206, 179]⟩ : ByteArray)] rfl (k - 5) 4 [] 0 (by omega) (by omega) (by simp)
  rw [show k - 5 + 4 + 1 = k by omega] at this
  exact this

theorem in_go (l : List ByteArray) (s : ByteArray) (hl : l.length ≤ 1000) (k : Nat) : ∀ (m j : Nat), j + m = l.length → BaseR.joineryref2_In.l0 (k + m + 1) l s (j : Int) = some (isIn (l.drop j) s)
  | 0, j, h => by rw [Nat.add_zero, BaseR.joineryref2_In.l0, if_neg (by omega), List.drop_of_length_le (by omega)]; rfl
  | m + 1, j, h => by
    rw [BaseR.joineryref2_In.l0, if_pos (by omega), if_pos (by omega), w1 (by omega) (by omega), drop_go l j (by omega)]
    by_cases he : (rdOf ByteArray.empty l (j : Int)).toList = s.toList
    · rw [if_pos he]
      simp [isIn, he]
    · rw [if_neg he, show k + (m + 1) = k + m + 1 by omega, show (j : Int) + 1 = ((j + 1 : Nat) : Int) by omega, in_go l s hl k m (j + 1) (by omega)]
      have : (s.toList == (rdOf ByteArray.empty l (j : Int)).toList) = false := by
        rw [beq_eq_false_iff_ne]; exact fun h => he h.symm
      simp [isIn, this]
theorem in_eq (l : List ByteArray) (s : ByteArray) (hl : l.length ≤ 1000) (k : Nat) (hk : l.length + 1 ≤ k) : BaseR.joineryref2_In.f k l s = some (isIn l s) := by
  have := in_go l s hl (k - l.length - 1) l.length 0 (by omega)
  rw [show k - l.length - 1 + l.length + 1 = k by omega] at this
  exact this
theorem all_go (l l1 : List ByteArray) (hl : l.length ≤ 1000) (hl1 : l1.length ≤ 1000) (k : Nat) (hk : l1.length + 1 ≤ k) : ∀ (m j : Nat), j + m = l.length → joineryref2_All.l0 (k + m + 1) l l1 (j : Int) = some (allIn (l.drop j) l1)
  | 0, j, h => by rw [Nat.add_zero, joineryref2_All.l0, if_neg (by omega), List.drop_of_length_le (by omega)]; rfl
  | m + 1, j, h => by
    rw [joineryref2_All.l0, if_pos (by omega), if_pos (by omega), w1 (by omega) (by omega), drop_go l j (by omega), in_eq l1 _ hl1 _ (by omega), Option.bind_some]
    cases hi : isIn l1 (rdOf ByteArray.empty l (j : Int)) with
    | false => simp [allIn, hi]
    | true =>
      rw [if_pos rfl, show k + (m + 1) = k + m + 1 by omega, show (j : Int) + 1 = ((j + 1 : Nat) : Int) by omega, all_go l l1 hl hl1 k hk m (j + 1) (by omega)]
      simp [allIn, hi]
theorem all_eq (l l1 : List ByteArray) (hl : l.length ≤ 1000) (hl1 : l1.length ≤ 1000) (k : Nat) (hk : l.length + l1.length + 2 ≤ k) : joineryref2_All.f k l l1 = some (allIn l l1) := by
  have := all_go l l1 hl hl1 (k - l.length - 1) (by omega) l.length 0 (by omega)
  rw [show k - l.length - 1 + l.length + 1 = k by omega] at this
  exact this

theorem drop_go41 (l : List S41) (k : Nat) (h : k < l.length) : l.drop k = rd_T41 l (k : Int) :: l.drop (k + 1) := by
  rw [List.drop_eq_getElem_cons h]
  simp [rd_T41, List.getD_eq_getElem?_getD, List.getElem?_eq_getElem h]
def someAlone (ps : List S41) : Bool := ps.any fun x => x.f3
theorem near_go (ps : List S41) (hl : ps.length ≤ 1000) (k : Nat) : ∀ (m j : Nat), j + m = ps.length → fit_Why.l0 (k + m + 1) 6 ps (ps.length : Int) (j : Int) = some (if someAlone (ps.drop j) then 6 else 0)
  | 0, j, h => by rw [Nat.add_zero, fit_Why.l0, if_neg (by omega), List.drop_of_length_le (by omega)]; rfl
  | m + 1, j, h => by
    rw [fit_Why.l0, if_pos (by omega), if_pos (by omega), if_pos (by omega), w1 (by omega) (by omega), drop_go41 ps j (by omega)]
    cases hf : (rd_T41 ps (j : Int)).f3 with
    | true => simp [someAlone, hf]
    | false =>
      rw [if_neg (by simp), show k + (m + 1) = k + m + 1 by omega, show (j : Int) + 1 = ((j + 1 : Nat) : Int) by omega, near_go ps hl k m (j + 1) (by omega)]
      simp [someAlone, hf]
def whyS (closed picks taints fits al : Bool) (ps : List S41) : Int :=
  if closed then 1 else if picks then (if taints then (if fits then (if al && decide ((ps.length : Int) > 0) then 5 else if someAlone ps then 6 else 0) else 4) else 3) else 2
theorem why_eq (n : ByteArray) (s a b : Int) (P B : List ByteArray) (al : Bool) (m : ByteArray) (c d : Int) (M T : List ByteArray) (cl : Bool) (u v : Int) (ps : List S41) (F : Bool) (hF : fit_fits.f n s a b P B al m c d M T cl u v = some F)
    (hl : ps.length ≤ 1000) (k : Nat) (hk : ps.length + 2 ≤ k) : fit_Why.f k n s a b P B al m c d M T cl u v ps = some (whyS cl (allIn P M) (allIn T B) F al ps) := by
  unfold fit_Why.f whyS
  cases cl with
  | true => rfl
  | false =>
    rw [if_neg (by simp)]
    unfold mark_All.f
    rw [Option.bind_some]
    cases allIn P M with
    | false => rfl
    | true =>
      rw [if_pos rfl, Option.bind_some]
      cases allIn T B with
      | false => rfl
      | true =>
        rw [if_pos rfl, hF, Option.bind_some]
        cases F with
        | false => rfl
        | true =>
          rw [if_pos rfl]
          obtain ⟨k, rfl⟩ : ∃ k', k = k' + 1 := ⟨k - 1, by omega⟩
          have hn := near_go ps hl (k - ps.length - 1) ps.length 0 (by omega)
          rw [show k - ps.length - 1 + ps.length + 1 = k by omega] at hn
          cases al with
          | true =>
            rw [if_pos rfl, fit_Why.j0]
            cases hd : decide ((ps.length : Int) > 0) with
            | true => rfl
            | false => rw [if_neg (by simp)]; simpa using hn
          | false => rw [if_neg (by simp), fit_Why.j0, if_neg (by simp)]; simpa using hn
theorem words_yes {a b c d : Int} (h1 : a ≤ 9223372036854775807) (h2 : b ≤ 9223372036854775807) (h3 : c ≤ 9223372036854775807) (h4 : d ≤ 9223372036854775807) : words4 a b c d = true := by
  unfold words4 word
  rw [decide_eq_true h1, decide_eq_true h2, decide_eq_true h3, decide_eq_true h4]
  rfl
theorem fits_some (n : ByteArray) (s a b : Int) (P B : List ByteArray) (al : Bool) (m : ByteArray) (c d : Int) (M T : List ByteArray) (cl : Bool) (u v : Int) (h1 : u ≤ 9223372036854775807) (h2 : v ≤ 9223372036854775807) (h3 : a ≤ 9223372036854775807) (h4 : b ≤ 9223372036854775807) :
    ∃ F, fit_fits.f n s a b P B al m c d M T cl u v = some F := by
  unfold fit_fits.f vec_Add.f
  rw [if_pos (words_yes h1 h2 h3 h4), Option.bind_some]
  split
  · exact ⟨_, rfl⟩
  · exact ⟨_, rfl⟩
theorem fits_small (n : ByteArray) (s a b : Int) (P B : List ByteArray) (al : Bool) (m : ByteArray) (c d : Int) (M T : List ByteArray) (cl : Bool) (u v : Int) (h1 : 0 ≤ u) (h2 : 0 ≤ v) (h3 : 0 ≤ a) (h4 : 0 ≤ b) (g1 : u + a ≤ 9223372036854775807) (g2 : v + b ≤ 9223372036854775807) :
    fit_fits.f n s a b P B al m c d M T cl u v = some (decide (u + a ≤ c) && decide (v + b ≤ d)) := by
  unfold fit_fits.f vec_Add.f
  rw [if_pos (words_yes (by omega) (by omega) (by omega) (by omega)), Option.bind_some]
  have r1 : rightB u v = true := by unfold rightB; rw [decide_eq_true h1, decide_eq_true h2]; rfl
  have r2 : rightB a b = true := by unfold rightB; rw [decide_eq_true h3, decide_eq_true h4]; rfl
  have e1 : addOK u a = true := decide_eq_true g1
  have e2 : addOK v b = true := decide_eq_true g2
  have v1 : addV u a = u + a := by unfold addV; rw [e1]; rfl
  have v2 : addV v b = v + b := by unfold addV; rw [e2]; rfl
  rw [r1, r2, e1, e2, v1, v2]
  rfl
theorem beside_go (xs : List Int) (k : Nat) : ∀ (m : Nat) (i : Int) (ps : List S41), i + m = 4 → 0 ≤ i → ps.length ≤ i.toNat → ∃ qs, joinerylaw5_beside.l0 (k + m + 1) xs ps i = some qs ∧ qs.length ≤ 4
  | 0, i, ps, h, h0, hl => by
    refine ⟨ps, ?_, by omega⟩
    rw [Nat.add_zero, joinerylaw5_beside.l0]
    split
    · rw [if_neg (by omega)]
    · rfl
  | m + 1, i, ps, h, h0, hl => by
    rw [joinerylaw5_beside.l0]
    split
    · rw [if_pos (by omega), Option.bind_some, within5 _ _ (by omega) (by omega)]
      have hs : 1 + (strOfNums [(wrap64 (97 + i)) % 256]).size ≤ 9223372036854775807 := by
        have : i = 0 ∨ i = 1 ∨ i = 2 ∨ i = 3 := by omega
        rcases this with rfl | rfl | rfl | rfl <;> decide
      rw [if_pos hs, Option.bind_some, if_pos (by omega), w1 h0 (by omega), show k + (m + 1) = k + m + 1 by omega]
      exact beside_go xs k m (i + 1) _ (by omega) (by omega) (by simp; omega)
    · exact ⟨ps, rfl, by omega⟩
theorem beside_some (xs : List Int) (k : Nat) (hk : 5 ≤ k) : ∃ qs, joinerylaw5_beside.f k xs = some qs ∧ qs.length ≤ 4 := by
  have := beside_go xs (k - 5) 4 0 [] (by omega) (by omega) (by simp)
  rw [show k - 5 + 4 + 1 = k by omega] at this
  exact this
end Go.Proofs.Ytciedbaeenhgkaa.FactsP
