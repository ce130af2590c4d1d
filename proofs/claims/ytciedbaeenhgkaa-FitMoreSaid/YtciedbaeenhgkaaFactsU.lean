import Derived.Test.YtciedbaeenhgkaaQx4
import Derived.Test.YtciedbaeenhgkaaQx5
set_option linter.unusedVariables false
set_option linter.unusedSimpArgs false
namespace Go.Proofs.Ytciedbaeenhgkaa.FactsU
open Go.RowKit Go.Proofs.Ytciedbaeenhgkaa Go.Proofs.Ytciedbaeenhgkaa.Base Go.Proofs.Ytciedbaeenhgkaa.BaseM Go.Proofs.Ytciedbaeenhgkaa.BaseR Go.Proofs.Ytciedbaeenhgkaa.Q Go.Proofs.YtciedbaeenhgkaaW.PrintWords Go.Proofs.YtciedbaeenhgkaaW.PrintLast

theorem known_yes : joinerylaw5_known.f 20 = some true := by decide +kernel
theorem known_any (k : Nat) : joinerylaw5_known.f (20 + k) = some true := by
 induction k with
 | zero => exact known_yes
 | succ k ih => exact joinerylaw5_known.mono (20 + k) true ih
theorem known_ge {k : Nat} (h : 20 ≤ k) : joinerylaw5_known.f k = some true := by
 have := known_any (k - 20); rwa [show 20 + (k - 20) = k by omega] at this

def win (a0 a1 : Int) : Option Int := if a1 = 0 then (none) else (if (Int.tmod a0 a1) < 0 then (some (wrap64 ((Int.tmod a0 a1) + a1))) else (some (Int.tmod a0 a1)))
theorem win_eq (a n : Int) (hn : 0 < n) (hm : n ≤ 4611686018427387904) : win a n = some (a % n) := by
 unfold win
 rw [if_neg (by omega)]
 have h0 := Int.emod_nonneg a (show n ≠ 0 by omega)
 have h1 := Int.emod_lt_of_pos a hn
 by_cases ha : 0 ≤ a
 ·have e : Int.tmod a n = a % n := Int.tmod_eq_emod_of_nonneg ha
  rw [e, if_neg (by omega)]
 ·have e := Int.tmod_eq_emod (a := a) (b := n)
  by_cases hd : n ∣ a
  ·have z : a % n = 0 := Int.emod_eq_zero_of_dvd hd
   have e2 : Int.tmod a n = 0 := Int.tmod_eq_zero_of_dvd hd
   rw [e2, z]
   simp
  ·have e2 : Int.tmod a n = a % n - n := by
    rw [e, if_neg (by intro h; rcases h with h | h; exact ha h; exact hd h)]
    simp only [Int.natAbs_of_nonneg (show 0 ≤ n by omega)]
   rw [e2, if_pos (by omega)]
   congr 1
   unfold wrap64
   omega
theorem within5 (a n : Int) (hn : 0 < n) (hm : n ≤ 4611686018427387904) : joinerylaw5_within.f a n = some (a % n) := win_eq a n hn hm
theorem within2 (a n : Int) (hn : 0 < n) (hm : n ≤ 4611686018427387904) : joinerylaw2_within.f a n = some (a % n) := win_eq a n hn hm
theorem within3 (a n : Int) (hn : 0 < n) (hm : n ≤ 4611686018427387904) : joinerylaw3_within.f a n = some (a % n) := win_eq a n hn hm
def W (a : Int) : Prop := -9223372036854775808 ≤ a ∧ a ≤ 9223372036854775807
theorem name_some (a : Int) : ∃ s, joinerylaw2_Name.f a = some s := by
 unfold joinerylaw2_Name.f
 have k0 := Int.emod_nonneg a (show (8 : Int) ≠ 0 by omega)
 have k1 := Int.emod_lt_of_pos a (show (0 : Int) < 8 by omega)
 rw [Option.bind_some]
 have e : joinerylaw2_within.f a 8 = some (a % 8) := win_eq a 8 (by omega) (by omega)
 rw [e, Option.bind_some, if_pos k0, if_pos (by simpa using k1)]
 exact ⟨_, rfl⟩

theorem w1 {i : Int} (h : 0 ≤ i) (h2 : i < 4611686018427387904) : wrap64 (i + 1) = i + 1 := by unfold wrap64; omega

theorem set_go (a : Int) (names : List ByteArray) (hn : names.length = 4) (k : Nat) : ∀ (m : Nat) (x4 : List ByteArray) (i : Int), i + m = 4 → 0 ≤ i → x4.length ≤ i.toNat → ∃ l, joinerylaw2_Set.l0 (k + m + 1) a names x4 i = some l ∧ l.length ≤ 4
 | 0, x4, i, h, h0, hl => ⟨x4, by rw [Nat.add_zero, joinerylaw2_Set.l0, if_neg (by omega)], by omega⟩
 | m + 1, x4, i, h, h0, hl => by
  rw [joinerylaw2_Set.l0, if_pos (by omega)]
  have hw : 0 ≤ IntKind.u64.wrap i := by
   have : i = 0 ∨ i = 1 ∨ i = 2 ∨ i = 3 := by omega
   rcases this with rfl | rfl | rfl | rfl <;> decide
  rw [if_pos hw, within2 _ _ (by omega) (by omega), Option.bind_some, w1 h0 (by omega)]
  have e : k + (m + 1) = k + m + 1 := by omega
  rw [e]
  split
  ·rw [if_pos (by omega), if_pos (by omega)]
   exact set_go a names hn k m _ (i + 1) (by omega) (by omega) (by simp; omega)
  ·exact set_go a names hn k m _ (i + 1) (by omega) (by omega) (by omega)
theorem set_some (a : Int) (k : Nat) (hk : 5 ≤ k) : ∃ l, joinerylaw2_Set.f k a = some l ∧ l.length ≤ 4 := by
 have := set_go a [(⟨#[98, 105, 103]⟩ : ByteArray), (⟨#[115, 115, 100]⟩ : ByteArray), (⟨#[119, 101, 115, 116]⟩ : ByteArray), (⟨#[206, 179]⟩ : ByteArray)] rfl (k - 5) 4 [] 0 (by omega) (by omega) (by simp)
 rw [show k - 5 + 4 + 1 = k by omega] at this
 exact this

theorem drop_go41 (l : List S41) (k : Nat) (h : k < l.length) : l.drop k = rd_T41 l (k : Int) :: l.drop (k + 1) := by
 rw [List.drop_eq_getElem_cons h]
 simp [rd_T41, List.getD_eq_getElem?_getD, List.getElem?_eq_getElem h]
def someAlone (ps : List S41) : Bool := ps.any fun x => x.f3
theorem near_go (ps : List S41) (hl : ps.length ≤ 1000) (k : Nat) : ∀ (m j : Nat), j + m = ps.length → fit_Why.l0 (k + m + 1) 6 ps (ps.length : Int) (j : Int) = some (if someAlone (ps.drop j) then 6 else 0)
 | 0, j, h => by rw [Nat.add_zero, fit_Why.l0, if_neg (by omega), List.drop_of_length_le (by omega)]; rfl
 | m + 1, j, h => by
  rw [fit_Why.l0, if_pos (by omega), if_pos (by omega), if_pos (by omega), w1 (by omega) (by omega), drop_go41 ps j (by omega)]
  cases hf : (rd_T41 ps (j : Int)).f3 with
  | true => simp [someAlone, hf]
  | false =>
   rw [if_neg (by simp), show k + (m + 1) = k + m + 1 by omega, show (j : Int) + 1 = ((j + 1 : Nat) : Int) by omega, near_go ps hl k m (j + 1) (by omega)]
   simp [someAlone, hf]
def whyS (closed picks taints fits al : Bool) (ps : List S41) : Int :=
 if closed then 1 else if picks then (if taints then (if fits then (if al && decide ((ps.length : Int) > 0) then 5 else if someAlone ps then 6 else 0) else 4) else 3) else 2
theorem why_eq (n : ByteArray) (s a b : Int) (P B : List ByteArray) (al : Bool) (m : ByteArray) (c d : Int) (M T : List ByteArray) (cl : Bool) (u v : Int) (ps : List S41) (F : Bool) (hF : fit_fits.f n s a b P B al m c d M T cl u v = some F)
  (hl : ps.length ≤ 1000) (k : Nat) (hk : ps.length + 2 ≤ k) : fit_Why.f k n s a b P B al m c d M T cl u v ps = some (whyS cl (allIn P M) (allIn T B) F al ps) := by
 unfold fit_Why.f whyS
 cases cl with
 | true => rfl
 | false =>
  rw [if_neg (by simp)]
  unfold mark_All.f
  rw [Option.bind_some]
  cases allIn P M with
  | false => rfl
  | true =>
   rw [if_pos rfl, Option.bind_some]
   cases allIn T B with
   | false => rfl
   | true =>
    rw [if_pos rfl, hF, Option.bind_some]
    cases F with
    | false => rfl
    | true =>
     rw [if_pos rfl]
     obtain ⟨k, rfl⟩ : ∃ k', k = k' + 1 := ⟨k - 1, by omega⟩
     have hn := near_go ps hl (k - ps.length - 1) ps.length 0 (by omega)
     rw [show k - ps.length - 1 + ps.length + 1 = k by omega] at hn
     cases al with
     | true =>
      rw [if_pos rfl, fit_Why.j0]
      cases hd : decide ((ps.length : Int) > 0) with
      | true => rfl
      | false => rw [if_neg (by simp)]; simpa using hn
     | false => rw [if_neg (by simp), fit_Why.j0, if_neg (by simp)]; simpa using hn
theorem words_yes {a b c d : Int} (h1 : a ≤ 9223372036854775807) (h2 : b ≤ 9223372036854775807) (h3 : c ≤ 9223372036854775807) (h4 : d ≤ 9223372036854775807) : words4 a b c d = true := by
 unfold words4 word
 rw [decide_eq_true h1, decide_eq_true h2, decide_eq_true h3, decide_eq_true h4]
 rfl
theorem beside_go (xs : List Int) (k : Nat) : ∀ (m : Nat) (i : Int) (ps : List S41), i + m = 4 → 0 ≤ i → ps.length ≤ i.toNat → ∃ qs, joinerylaw5_beside.l0 (k + m + 1) xs ps i = some qs ∧ qs.length ≤ 4
 | 0, i, ps, h, h0, hl => by
  refine ⟨ps, ?_, by omega⟩
  rw [Nat.add_zero, joinerylaw5_beside.l0]
  split
  ·rw [if_neg (by omega)]
  ·rfl
 | m + 1, i, ps, h, h0, hl => by
  rw [joinerylaw5_beside.l0]
  split
  ·rw [if_pos (by omega), Option.bind_some, within5 _ _ (by omega) (by omega)]
   have hs : 1 + (strOfNums [(wrap64 (97 + i)) % 256]).size ≤ 9223372036854775807 := by
    have : i = 0 ∨ i = 1 ∨ i = 2 ∨ i = 3 := by omega
    rcases this with rfl | rfl | rfl | rfl <;> decide
   rw [if_pos hs, Option.bind_some, if_pos (by omega), w1 h0 (by omega), show k + (m + 1) = k + m + 1 by omega]
   exact beside_go xs k m (i + 1) _ (by omega) (by omega) (by simp; omega)
  ·exact ⟨ps, rfl, by omega⟩
theorem beside_some (xs : List Int) (k : Nat) (hk : 5 ≤ k) : ∃ qs, joinerylaw5_beside.f k xs = some qs ∧ qs.length ≤ 4 := by
 have := beside_go xs (k - 5) 4 0 [] (by omega) (by omega) (by simp)
 rw [show k - 5 + 4 + 1 = k by omega] at this
 exact this

theorem pod_some (n : Int) (k : Nat) (hk : 7 ≤ k) : ∃ nm s a b P B al, joinerylaw3_Pod.f k 0 n 4 = some (nm, s, a, b, P, B, al) ∧ (0 ≤ a ∧ a < 5) ∧ (0 ≤ b ∧ b < 5) ∧ P.length ≤ 4 ∧ B.length ≤ 4 := by
 unfold joinerylaw3_Pod.f
 rw [Option.bind_some, if_pos (by decide), within3 _ 4 (by omega) (by omega), Option.bind_some, within3 _ 5 (by omega) (by omega), Option.bind_some, within3 _ 5 (by omega) (by omega), Option.bind_some, within3 _ 5 (by omega) (by omega), Option.bind_some]
 have a0 := Int.emod_nonneg (wrap64 (Int.tdiv n 4)) (show (5 : Int) ≠ 0 by omega)
 have a1 := Int.emod_lt_of_pos (wrap64 (Int.tdiv n 4)) (show (0 : Int) < 5 by omega)
 have b0 := Int.emod_nonneg (wrap64 (Int.tdiv n 20)) (show (5 : Int) ≠ 0 by omega)
 have b1 := Int.emod_lt_of_pos (wrap64 (Int.tdiv n 20)) (show (0 : Int) < 5 by omega)
 generalize wrap64 (Int.tdiv n 4) % 5 = a at a0 a1
 generalize wrap64 (Int.tdiv n 20) % 5 = b at b0 b1
 have hj : ∀ nm s P, P.length ≤ 4 → ∃ nm' s' a' b' P' B al, joinerylaw3_Pod.j0 k n nm s a b P false = some (nm', s', a', b', P', B, al) ∧ (0 ≤ a' ∧ a' < 5) ∧ (0 ≤ b' ∧ b' < 5) ∧ P'.length ≤ 4 ∧ B.length ≤ 4 := by
  intro nm s P hP
  obtain ⟨k, rfl⟩ : ∃ k', k = k' + 1 := ⟨k - 1, by omega⟩
  rw [joinerylaw3_Pod.j0, within3 _ 3 (by omega) (by omega), Option.bind_some]
  obtain ⟨B, hB, lB⟩ := set_some (wrap64 (Int.tdiv n 11)) k (by omega)
  split
  ·rw [hB, Option.bind_some, within3 _ 6 (by omega) (by omega), Option.bind_some]
   exact ⟨_, _, _, _, _, _, _, rfl, ⟨a0, a1⟩, ⟨b0, b1⟩, hP, lB⟩
  ·rw [within3 _ 6 (by omega) (by omega), Option.bind_some]
   exact ⟨_, _, _, _, _, _, _, rfl, ⟨a0, a1⟩, ⟨b0, b1⟩, hP, by simp⟩
 obtain ⟨P, hP, lP⟩ := set_some (wrap64 (Int.tdiv n 500)) k (by omega)
 split
 ·rw [hP, Option.bind_some]
  exact hj _ _ _ lP
 ·exact hj _ _ _ (by simp)
end Go.Proofs.Ytciedbaeenhgkaa.FactsU
