import Derived.Test.YtciedbaeenhgkaaNx4
import Derived.Test.YtciedbaeenhgkaaNx5
import Derived.Test.YtciedbaeenhgkaaNx6
set_option linter.unusedVariables false
set_option linter.unusedSimpArgs false
namespace Go.Proofs.Ytciedbaeenhgkaa.FactsN
open Go.RowKit Go.Proofs.Ytciedbaeenhgkaa Go.Proofs.Ytciedbaeenhgkaa.Base Go.Proofs.Ytciedbaeenhgkaa.BaseM Go.Proofs.Ytciedbaeenhgkaa.BaseR Go.Proofs.Ytciedbaeenhgkaa.N Go.Proofs.YtciedbaeenhgkaaW.PrintWords Go.Proofs.YtciedbaeenhgkaaW.PrintLast

theorem known_yes : joinerylaw5_known.f 20 = some true := by decide +kernel
theorem known_any (k : Nat) : joinerylaw5_known.f (20 + k) = some true := by
 induction k with
 | zero => exact known_yes
 | succ k ih => exact joinerylaw5_known.mono (20 + k) true ih
theorem known_ge {k : Nat} (h : 20 ≤ k) : joinerylaw5_known.f k = some true := by
 have := known_any (k - 20); rwa [show 20 + (k - 20) = k by omega] at this

def win (a0 a1 : Int) : Option Int := if a1 = 0 then (none) else (if (Int.tmod a0 a1) < 0 then (some (wrap64 ((Int.tmod a0 a1) + a1))) else (some (Int.tmod a0 a1)))
theorem win_eq (a n : Int) (hn : 0 < n) (hm : n ≤ 4611686018427387904) : win a n = some (a % n) := by
 unfold win
 rw [if_neg (by omega)]
 have h0 := Int.emod_nonneg a (show n ≠ 0 by omega)
 have h1 := Int.emod_lt_of_pos a hn
 by_cases ha : 0 ≤ a
 ·have e : Int.tmod a n = a % n := Int.tmod_eq_emod_of_nonneg ha
  rw [e, if_neg (by omega)]
 ·have e := Int.tmod_eq_emod (a := a) (b := n)
  by_cases hd : n ∣ a
  ·have z : a % n = 0 := Int.emod_eq_zero_of_dvd hd
   have e2 : Int.tmod a n = 0 := Int.tmod_eq_zero_of_dvd hd
   rw [e2, z]
   simp
  ·have e2 : Int.tmod a n = a % n - n := by
    rw [e, if_neg (by intro h; rcases h with h | h; exact ha h; exact hd h)]
    simp only [Int.natAbs_of_nonneg (show 0 ≤ n by omega)]
   rw [e2, if_pos (by omega)]
   congr 1
   unfold wrap64
   omega
theorem within5 (a n : Int) (hn : 0 < n) (hm : n ≤ 4611686018427387904) : joinerylaw5_within.f a n = some (a % n) := win_eq a n hn hm
theorem within2 (a n : Int) (hn : 0 < n) (hm : n ≤ 4611686018427387904) : joinerylaw2_within.f a n = some (a % n) := win_eq a n hn hm
theorem within3 (a n : Int) (hn : 0 < n) (hm : n ≤ 4611686018427387904) : joinerylaw3_within.f a n = some (a % n) := win_eq a n hn hm
def W (a : Int) : Prop := -9223372036854775808 ≤ a ∧ a ≤ 9223372036854775807
theorem name_some (a : Int) : ∃ s, joinerylaw2_Name.f a = some s := by
 unfold joinerylaw2_Name.f
 have k0 := Int.emod_nonneg a (show (8 : Int) ≠ 0 by omega)
 have k1 := Int.emod_lt_of_pos a (show (0 : Int) < 8 by omega)
 rw [Option.bind_some]
 have e : joinerylaw2_within.f a 8 = some (a % 8) := win_eq a 8 (by omega) (by omega)
 rw [e, Option.bind_some, if_pos k0, if_pos (by simpa using k1)]
 exact ⟨_, rfl⟩

theorem w1 {i : Int} (h : 0 ≤ i) (h2 : i < 4611686018427387904) : wrap64 (i + 1) = i + 1 := by unfold wrap64; omega

theorem set_go (a : Int) (names : List ByteArray) (hn : names.length = 4) (k : Nat) : ∀ (m : Nat) (x4 : List ByteArray) (i : Int), i + m = 4 → 0 ≤ i → x4.length ≤ i.toNat → ∃ l, joinerylaw2_Set.l0 (k + m + 1) a names x4 i = some l ∧ l.length ≤ 4
 | 0, x4, i, h, h0, hl => ⟨x4, by rw [Nat.add_zero, joinerylaw2_Set.l0, if_neg (by omega)], by omega⟩
 | m + 1, x4, i, h, h0, hl => by
  rw [joinerylaw2_Set.l0, if_pos (by omega)]
  have hw : 0 ≤ IntKind.u64.wrap i := by
   have : i = 0 ∨ i = 1 ∨ i = 2 ∨ i = 3 := by omega
   rcases this with rfl | rfl | rfl | rfl <;> decide
  rw [if_pos hw, within2 _ _ (by omega) (by omega), Option.bind_some, w1 h0 (by omega)]
  have e : k + (m + 1) = k + m + 1 := by omega
  rw [e]
  split
  ·rw [if_pos (by omega), if_pos (by omega)]
   exact set_go a names hn k m _ (i + 1) (by omega) (by omega) (by simp; omega)
  ·exact set_go a names hn k m _ (i + 1) (by omega) (by omega) (by omega)
theorem set_some (a : Int) (k : Nat) (hk : 5 ≤ k) : ∃ l, joinerylaw2_Set.f k a = some l ∧ l.length ≤ 4 := by
 have := set_go a [(⟨#[98, 105, 103]⟩ : ByteArray), (⟨#[115, 115, 100]⟩ : ByteArray), (⟨#[119, 101, 115, 116]⟩ : ByteArray), (⟨#[206, 179]⟩ : ByteArray)] rfl (k - 5) 4 [] 0 (by omega) (by omega) (by simp)
 rw [show k - 5 + 4 + 1 = k by omega] at this
 exact this

theorem in_go (l : List ByteArray) (s : ByteArray) (hl : l.length ≤ 1000) (k : Nat) : ∀ (m j : Nat), j + m = l.length → BaseR.joineryref2_In.l0 (k + m + 1) l s (j : Int) = some (isIn (l.drop j) s)
 | 0, j, h => by rw [Nat.add_zero, BaseR.joineryref2_In.l0, if_neg (by omega), List.drop_of_length_le (by omega)]; rfl
 | m + 1, j, h => by
  rw [BaseR.joineryref2_In.l0, if_pos (by omega), if_pos (by omega), w1 (by omega) (by omega), drop_go l j (by omega)]
  by_cases he : (rdOf ByteArray.empty l (j : Int)).toList = s.toList
  ·rw [if_pos he]
   simp [isIn, he]
  ·rw [if_neg he, show k + (m + 1) = k + m + 1 by omega, show (j : Int) + 1 = ((j + 1 : Nat) : Int) by omega, in_go l s hl k m (j + 1) (by omega)]
   have : (s.toList == (rdOf ByteArray.empty l (j : Int)).toList) = false := by
    rw [beq_eq_false_iff_ne]; exact fun h => he h.symm
   simp [isIn, this]
theorem in_eq (l : List ByteArray) (s : ByteArray) (hl : l.length ≤ 1000) (k : Nat) (hk : l.length + 1 ≤ k) : BaseR.joineryref2_In.f k l s = some (isIn l s) := by
 have := in_go l s hl (k - l.length - 1) l.length 0 (by omega)
 rw [show k - l.length - 1 + l.length + 1 = k by omega] at this
 exact this
theorem all_go (l l1 : List ByteArray) (hl : l.length ≤ 1000) (hl1 : l1.length ≤ 1000) (k : Nat) (hk : l1.length + 1 ≤ k) : ∀ (m j : Nat), j + m = l.length → joineryref2_All.l0 (k + m + 1) l l1 (j : Int) = some (allIn (l.drop j) l1)
 | 0, j, h => by rw [Nat.add_zero, joineryref2_All.l0, if_neg (by omega), List.drop_of_length_le (by omega)]; rfl
 | m + 1, j, h => by
  rw [joineryref2_All.l0, if_pos (by omega), if_pos (by omega), w1 (by omega) (by omega), drop_go l j (by omega), in_eq l1 _ hl1 _ (by omega), Option.bind_some]
  cases hi : isIn l1 (rdOf ByteArray.empty l (j : Int)) with
  | false => simp [allIn, hi]
  | true =>
   rw [if_pos rfl, show k + (m + 1) = k + m + 1 by omega, show (j : Int) + 1 = ((j + 1 : Nat) : Int) by omega, all_go l l1 hl hl1 k hk m (j + 1) (by omega)]
   simp [allIn, hi]
theorem all_eq (l l1 : List ByteArray) (hl : l.length ≤ 1000) (hl1 : l1.length ≤ 1000) (k : Nat) (hk : l.length + l1.length + 2 ≤ k) : joineryref2_All.f k l l1 = some (allIn l l1) := by
 have := all_go l l1 hl hl1 (k - l.length - 1) (by omega) l.length 0 (by omega)
 rw [show k - l.length - 1 + l.length + 1 = k by omega] at this
 exact this

theorem drop_go41 (l : List S41) (k : Nat) (h : k < l.length) : l.drop k = rd_T41 l (k : Int) :: l.drop (k + 1) := by
 rw [List.drop_eq_getElem_cons h]
 simp [rd_T41, List.getD_eq_getElem?_getD, List.getElem?_eq_getElem h]
def someAlone (ps : List S41) : Bool := ps.any fun x => x.f3
theorem near_go (ps : List S41) (hl : ps.length ≤ 1000) (k : Nat) : ∀ (m j : Nat), j + m = ps.length → fit_Why.l0 (k + m + 1) 6 ps (ps.length : Int) (j : Int) = some (if someAlone (ps.drop j) then 6 else 0)
 | 0, j, h => by rw [Nat.add_zero, fit_Why.l0, if_neg (by omega), List.drop_of_length_le (by omega)]; rfl
 | m + 1, j, h => by
  rw [fit_Why.l0, if_pos (by omega), if_pos (by omega), if_pos (by omega), w1 (by omega) (by omega), drop_go41 ps j (by omega)]
  cases hf : (rd_T41 ps (j : Int)).f3 with
  | true => simp [someAlone, hf]
  | false =>
   rw [if_neg (by simp), show k + (m + 1) = k + m + 1 by omega, show (j : Int) + 1 = ((j + 1 : Nat) : Int) by omega, near_go ps hl k m (j + 1) (by omega)]
   simp [someAlone, hf]
def whyS (closed picks taints fits al : Bool) (ps : List S41) : Int :=
 if closed then 1 else if picks then (if taints then (if fits then (if al && decide ((ps.length : Int) > 0) then 5 else if someAlone ps then 6 else 0) else 4) else 3) else 2
theorem why_eq (n : ByteArray) (s a b : Int) (P B : List ByteArray) (al : Bool) (m : ByteArray) (c d : Int) (M T : List ByteArray) (cl : Bool) (u v : Int) (ps : List S41) (F : Bool) (hF : fit_fits.f n s a b P B al m c d M T cl u v = some F)
  (hl : ps.length ≤ 1000) (k : Nat) (hk : ps.length + 2 ≤ k) : fit_Why.f k n s a b P B al m c d M T cl u v ps = some (whyS cl (allIn P M) (allIn T B) F al ps) := by
 unfold fit_Why.f whyS
 cases cl with
 | true => rfl
 | false =>
  rw [if_neg (by simp)]
  unfold mark_All.f
  rw [Option.bind_some]
  cases allIn P M with
  | false => rfl
  | true =>
   rw [if_pos rfl, Option.bind_some]
   cases allIn T B with
   | false => rfl
   | true =>
    rw [if_pos rfl, hF, Option.bind_some]
    cases F with
    | false => rfl
    | true =>
     rw [if_pos rfl]
     obtain ⟨k, rfl⟩ : ∃ k', k = k' + 1 := ⟨k - 1, by omega⟩
     have hn := near_go ps hl (k - ps.length - 1) ps.length 0 (by omega)
     rw [show k - ps.length - 1 + ps.length + 1 = k by omega] at hn
     cases al with
     | true =>
      rw [if_pos rfl, fit_Why.j0]
      cases hd : decide ((ps.length : Int) > 0) with
      | true => rfl
      | false => rw [if_neg (by simp)]; simpa using hn
     | false => rw [if_neg (by simp), fit_Why.j0, if_neg (by simp)]; simpa using hn
theorem words_yes {a b c d : Int} (h1 : a ≤ 9223372036854775807) (h2 : b ≤ 9223372036854775807) (h3 : c ≤ 9223372036854775807) (h4 : d ≤ 9223372036854775807) : words4 a b c d = true := by
 unfold words4 word
 rw [decide_eq_true h1, decide_eq_true h2, decide_eq_true h3, decide_eq_true h4]
 rfl
theorem fits_small (n : ByteArray) (s a b : Int) (P B : List ByteArray) (al : Bool) (m : ByteArray) (c d : Int) (M T : List ByteArray) (cl : Bool) (u v : Int) (h1 : 0 ≤ u) (h2 : 0 ≤ v) (h3 : 0 ≤ a) (h4 : 0 ≤ b) (g1 : u + a ≤ 9223372036854775807) (g2 : v + b ≤ 9223372036854775807) :
    fit_fits.f n s a b P B al m c d M T cl u v = some (decide (u + a ≤ c) && decide (v + b ≤ d)) := by
  unfold fit_fits.f vec_Add.f
  rw [if_pos (words_yes (by omega) (by omega) (by omega) (by omega)), Option.bind_some]
  have r1 : rightB u v = true := by unfold rightB; rw [decide_eq_true h1, decide_eq_true h2]; rfl
  have r2 : rightB a b = true := by unfold rightB; rw [decide_eq_true h3, decide_eq_true h4]; rfl
  have e1 : addOK u a = true := decide_eq_true g1
  have e2 : addOK v b = true := decide_eq_true g2
  have v1 : addV u a = u + a := by unfold addV; rw [e1]; rfl
  have v2 : addV v b = v + b := by unfold addV; rw [e2]; rfl
  rw [r1, r2, e1, e2, v1, v2]
  rfl
theorem pod_some (n : Int) (k : Nat) (hk : 7 ≤ k) : ∃ nm s a b P B al, joinerylaw3_Pod.f k 0 n 4 = some (nm, s, a, b, P, B, al) ∧ (0 ≤ a ∧ a < 5) ∧ (0 ≤ b ∧ b < 5) ∧ P.length ≤ 4 ∧ B.length ≤ 4 := by
 unfold joinerylaw3_Pod.f
 rw [Option.bind_some, if_pos (by decide), within3 _ 4 (by omega) (by omega), Option.bind_some, within3 _ 5 (by omega) (by omega), Option.bind_some, within3 _ 5 (by omega) (by omega), Option.bind_some, within3 _ 5 (by omega) (by omega), Option.bind_some]
 have a0 := Int.emod_nonneg (wrap64 (Int.tdiv n 4)) (show (5 : Int) ≠ 0 by omega)
 have a1 := Int.emod_lt_of_pos (wrap64 (Int.tdiv n 4)) (show (0 : Int) < 5 by omega)
 have b0 := Int.emod_nonneg (wrap64 (Int.tdiv n 20)) (show (5 : Int) ≠ 0 by omega)
 have b1 := Int.emod_lt_of_pos (wrap64 (Int.tdiv n 20)) (show (0 : Int) < 5 by omega)
 generalize wrap64 (Int.tdiv n 4) % 5 = a at a0 a1
 generalize wrap64 (Int.tdiv n 20) % 5 = b at b0 b1
 have hj : ∀ nm s P, P.length ≤ 4 → ∃ nm' s' a' b' P' B al, joinerylaw3_Pod.j0 k n nm s a b P false = some (nm', s', a', b', P', B, al) ∧ (0 ≤ a' ∧ a' < 5) ∧ (0 ≤ b' ∧ b' < 5) ∧ P'.length ≤ 4 ∧ B.length ≤ 4 := by
  intro nm s P hP
  obtain ⟨k, rfl⟩ : ∃ k', k = k' + 1 := ⟨k - 1, by omega⟩
  rw [joinerylaw3_Pod.j0, within3 _ 3 (by omega) (by omega), Option.bind_some]
  obtain ⟨B, hB, lB⟩ := set_some (wrap64 (Int.tdiv n 11)) k (by omega)
  split
  ·rw [hB, Option.bind_some, within3 _ 6 (by omega) (by omega), Option.bind_some]
   exact ⟨_, _, _, _, _, _, _, rfl, ⟨a0, a1⟩, ⟨b0, b1⟩, hP, lB⟩
  ·rw [within3 _ 6 (by omega) (by omega), Option.bind_some]
   exact ⟨_, _, _, _, _, _, _, rfl, ⟨a0, a1⟩, ⟨b0, b1⟩, hP, by simp⟩
 obtain ⟨P, hP, lP⟩ := set_some (wrap64 (Int.tdiv n 500)) k (by omega)
 split
 ·rw [hP, Option.bind_some]
  exact hj _ _ _ lP
 ·exact hj _ _ _ (by simp)
theorem node_some (nm n : Int) (k : Nat) (hk : 7 ≤ k) : ∃ s c d M T cl, joinerylaw3_Node.f k nm n = some (s, c, d, M, T, cl) ∧ M.length ≤ 4 ∧ T.length ≤ 4 := by
 unfold joinerylaw3_Node.f
 obtain ⟨s, hs⟩ := name_some nm
 obtain ⟨M, hM, lM⟩ := set_some (wrap64 (Int.tdiv n 144)) k (by omega)
 obtain ⟨T, hT, lT⟩ := set_some (wrap64 (Int.tdiv n 31)) k (by omega)
 rw [hs, Option.bind_some, within3 _ 12 (by omega) (by omega), Option.bind_some, within3 _ 12 (by omega) (by omega), Option.bind_some, hM, Option.bind_some, within3 _ 9 (by omega) (by omega), Option.bind_some, within3 _ 3 (by omega) (by omega), Option.bind_some]
 split
 ·rw [hT, Option.bind_some]
  exact ⟨_, _, _, _, _, _, rfl, lM, lT⟩
 ·exact ⟨_, _, _, _, _, _, rfl, lM, by simp⟩
theorem right_cases (a b : Int) : (rightB a b = true ∧ 0 ≤ a ∧ 0 ≤ b) ∨ (rightB a b = false ∧ (a < 0 ∨ b < 0)) := by
 unfold rightB
 by_cases h1 : 0 ≤ a
 ·by_cases h2 : 0 ≤ b
  ·left; simp [h1, h2]
  ·right; simp [h1, h2]; omega
 ·right; simp [h1]; omega
theorem right_eq (a b : Int) : joineryref1_Right.f a b = some (rightB a b) := by
 unfold joineryref1_Right.f rightB
 by_cases h1 : 0 ≤ a
 ·by_cases h2 : 0 ≤ b
  ·simp [h1, h2]; try omega
  ·simp [h1, h2]; try omega
 ·by_cases h2 : 0 ≤ b
  ·simp [h1, h2]; try omega
  ·simp [h1, h2]; try omega
theorem add_eq {a b c d : Int} (ha : W a) (hb : W b) (hc : W c) (hd : W d) (k : Nat) : joineryref1_Add.f (k + 1) a b c d = vec_Add.f a b c d := by
 unfold joineryref1_Add.f vec_Add.f
 rw [if_pos (words_yes ha.2 hb.2 hc.2 hd.2), right_eq a b, right_eq c d]
 simp only [Option.bind_some]
 unfold outV
 unfold W at ha hb hc hd
 rcases right_cases a b with ⟨h1, h1a, h1b⟩ | ⟨h1, _⟩
 ·rcases right_cases c d with ⟨h2, h2a, h2b⟩ | ⟨h2, _⟩
  ·rw [h1, h2, if_pos rfl]
   simp only [Bool.not_true, Bool.and_self, if_true, joineryref1_Add.j0]
   rw [if_neg (by simp)]
   have e1 : wrap64 (9223372036854775807 - c) = 9223372036854775807 - c := by unfold wrap64; omega
   have e2 : wrap64 (9223372036854775807 - d) = 9223372036854775807 - d := by unfold wrap64; omega
   rw [e1, e2]
   by_cases g1 : a + c ≤ 9223372036854775807
   ·rw [if_neg (by omega)]
    by_cases g2 : b + d ≤ 9223372036854775807
    ·rw [if_neg (by omega)]
     have f1 : addOK a c = true := decide_eq_true g1
     have f2 : addOK b d = true := decide_eq_true g2
     rw [f1, f2, if_pos (by rfl)]
     unfold addV
     rw [f1, f2, if_pos rfl, if_pos rfl]
     have w1 : wrap64 (a + c) = a + c := by unfold wrap64; omega
     have w2 : wrap64 (b + d) = b + d := by unfold wrap64; omega
     rw [w1, w2]
    ·rw [if_pos (by omega)]
     have f2 : addOK b d = false := decide_eq_false g2
     rw [f2, Bool.and_false, if_neg (by simp)]
   ·rw [if_pos (by omega)]
    have f1 : addOK a c = false := decide_eq_false g1
    rw [f1, Bool.false_and, if_neg (by simp)]
  ·rw [h1, h2, if_pos rfl]
   simp [joineryref1_Add.j0]
 ·rw [h1, if_neg (by simp), Bool.false_and, if_neg (by simp)]
  simp [joineryref1_Add.j0]
theorem refnear_go (ps : List S41) (hl : ps.length ≤ 1000) (k : Nat) : ∀ (m j : Nat), j + m = ps.length → joineryref5_Why.l0 (k + m + 1) ps (j : Int) = some (if someAlone (ps.drop j) then 6 else 0)
 | 0, j, h => by rw [Nat.add_zero, joineryref5_Why.l0, if_neg (by omega), List.drop_of_length_le (by omega)]; rfl
 | m + 1, j, h => by
  rw [joineryref5_Why.l0, if_pos (by omega), if_pos (by omega), w1 (by omega) (by omega), drop_go41 ps j (by omega)]
  cases hf : (rd_T41 ps (j : Int)).f3 with
  | true => simp [someAlone, hf]
  | false =>
   rw [if_neg (by simp), show k + (m + 1) = k + m + 1 by omega, show (j : Int) + 1 = ((j + 1 : Nat) : Int) by omega, refnear_go ps hl k m (j + 1) (by omega)]
   simp [someAlone, hf]
def fitsB (x y e c d : Int) : Bool := if e = 0 then (decide (x ≤ c) && decide (y ≤ d)) else false
theorem refwhy_eq (n : ByteArray) (s a b : Int) (P B : List ByteArray) (al : Bool) (m : ByteArray) (c d : Int) (M T : List ByteArray) (cl : Bool) (u v : Int) (ps : List S41) (x y e : Int) (k : Nat) (hF : joineryref1_Add.f k u v a b = some (x, y, e))
  (lP : P.length ≤ 4) (lB : B.length ≤ 4) (lM : M.length ≤ 4) (lT : T.length ≤ 4) (hl : ps.length ≤ 4) (hk : 20 ≤ k) : joineryref5_Why.f k n s a b P B al m c d M T cl u v ps = some (whyS cl (allIn P M) (allIn T B) (fitsB x y e c d) al ps) := by
 unfold joineryref5_Why.f whyS
 cases cl with
 | true => rfl
 | false =>
  rw [if_neg (by simp), all_eq P M (by omega) (by omega) k (by omega), Option.bind_some]
  cases allIn P M with
  | false => rfl
  | true =>
   rw [if_pos rfl, all_eq T B (by omega) (by omega) k (by omega), Option.bind_some]
   cases allIn T B with
   | false => rfl
   | true =>
    rw [if_pos rfl, hF, Option.bind_some]
    have hj : ∀ q : Bool, joineryref5_Why.j0 k ps (!q) n s a b P B al = some (if q then (if al && decide ((ps.length : Int) > 0) then 5 else if someAlone ps then 6 else 0) else 4) := by
     intro q
     obtain ⟨k, rfl⟩ : ∃ k', k = k' + 2 := ⟨k - 2, by omega⟩
     have hn := refnear_go ps (by omega) (k - ps.length - 1) ps.length 0 (by omega)
     rw [show k - ps.length - 1 + ps.length + 1 = k by omega] at hn
     rw [joineryref5_Why.j0]
     cases q with
     | false => rfl
     | true =>
      rw [if_neg (by simp)]
      cases al with
      | true =>
       rw [if_pos rfl, joineryref5_Why.j1]
       cases hd : decide ((ps.length : Int) > 0) with
       | true => rfl
       | false => rw [if_neg (by simp)]; simpa using hn
      | false => rw [if_neg (by simp), joineryref5_Why.j1, if_neg (by simp)]; simpa using hn
    unfold fitsB
    by_cases he : e = 0
    ·rw [if_pos he, if_pos he]
     have hf : joineryref1_Fits.f x y c d = some (decide (x ≤ c) && decide (y ≤ d)) := by
      unfold joineryref1_Fits.f
      by_cases h1 : x ≤ c <;> simp [h1]
     rw [hf, Option.bind_some, hj]
     rfl
    ·rw [if_neg he, if_neg he]
     exact hj false
theorem same (n : ByteArray) (s a b : Int) (P B : List ByteArray) (al : Bool) (m : ByteArray) (c d : Int) (M T : List ByteArray) (cl : Bool) (u v : Int) (ps : List S41) (ha : W a) (hb : W b) (hu : W u) (hv : W v) (k : Nat)
  (lP : P.length ≤ 4) (lB : B.length ≤ 4) (lM : M.length ≤ 4) (lT : T.length ≤ 4) (hl : ps.length ≤ 4) (hk : 20 ≤ k) : ∃ t, fit_Why.f k n s a b P B al m c d M T cl u v ps = some t ∧ joineryref5_Why.f k n s a b P B al m c d M T cl u v ps = some t := by
 have e1 : ∃ x y e, vec_Add.f u v a b = some (x, y, e) := by
  unfold vec_Add.f
  rw [if_pos (words_yes hu.2 hv.2 ha.2 hb.2)]
  exact ⟨_, _, _, rfl⟩
 obtain ⟨x, y, e, he⟩ := e1
 have hr : joineryref1_Add.f k u v a b = some (x, y, e) := by
  rw [show k = (k - 1) + 1 by omega, add_eq hu hv ha hb, he]
 have hf : fit_fits.f n s a b P B al m c d M T cl u v = some (fitsB x y e c d) := by
  unfold fit_fits.f fitsB
  rw [he, Option.bind_some]
  split
  ·rfl
  ·rfl
 exact ⟨_, why_eq n s a b P B al m c d M T cl u v ps _ hf (by omega) k (by omega), refwhy_eq n s a b P B al m c d M T cl u v ps x y e k hr lP lB lM lT hl hk⟩
end Go.Proofs.Ytciedbaeenhgkaa.FactsN
