/- FitMore, over plain Lean functions: on a node with more, or where less is used, a pod that may stand may stand; with one more mark to have it may not more often; at all whole numbers. -/
import Derived.Test.YtciedbaeenhgkaaU4
import Derived.Test.YtciedbaeenhgkaaFactsU
set_option linter.unusedVariables false
set_option linter.unusedSimpArgs false
namespace Go.Proofs.Ytciedbaeenhgkaa.Pure
open Go.RowKit Go.Proofs.Ytciedbaeenhgkaa Go.Proofs.Ytciedbaeenhgkaa.Base Go.Proofs.Ytciedbaeenhgkaa.BaseM Go.Proofs.Ytciedbaeenhgkaa.BaseR Go.Proofs.Ytciedbaeenhgkaa.Q Go.Proofs.Ytciedbaeenhgkaa.M Go.Proofs.Ytciedbaeenhgkaa.FactsU Go.Proofs.YtciedbaeenhgkaaW.PrintWords Go.Proofs.YtciedbaeenhgkaaW.PrintLast Go.Proofs.YtciedbaeenhgkaaW.PrintMore

namespace FM
def noneT : ByteArray := ⟨#[110, 111, 110, 101]⟩
theorem sets_go (a : Int) (names : List ByteArray) (hn : isIn names noneT = false) (h4 : names.length = 4) (k : Nat) : ∀ (m : Nat) (x4 : List ByteArray) (i : Int), i + m = 4 → 0 ≤ i → x4.length ≤ i.toNat → isIn x4 noneT = false → ∃ l, joinerylaw2_Set.l0 (k + m + 1) a names x4 i = some l ∧ l.length ≤ 4 ∧ isIn l noneT = false
  | 0, x4, i, h, h0, hl, hf => ⟨x4, by rw [Nat.add_zero, joinerylaw2_Set.l0, if_neg (by omega)], by omega, hf⟩
  | m + 1, x4, i, h, h0, hl, hf => by
    rw [joinerylaw2_Set.l0, if_pos (by omega)]
    have hw : 0 ≤ IntKind.u64.wrap i := by
      have : i = 0 ∨ i = 1 ∨ i = 2 ∨ i = 3 := by omega
      rcases this with rfl | rfl | rfl | rfl <;> decide
    rw [if_pos hw, within2 _ _ (by omega) (by omega), Option.bind_some, w1 h0 (by omega)]
    have e : k + (m + 1) = k + m + 1 := by omega
    rw [e]
    split
    · rw [if_pos (by omega), if_pos (by omega)]
      refine sets_go a names hn h4 k m _ (i + 1) (by omega) (by omega) (by simp; omega) ?_
      have hm : rdOf ByteArray.empty names i ∈ names := by
        unfold rdOf
        rw [List.getD_eq_getElem?_getD, List.getElem?_eq_getElem (show i.toNat < names.length by omega)]
        exact List.getElem_mem _
      unfold isIn at hf hn ⊢
      rw [List.any_append, hf, Bool.false_or, List.any_cons, List.any_nil, Bool.or_false]
      exact List.any_eq_false.1 hn _ hm |> Bool.eq_false_iff.2
    · exact sets_go a names hn h4 k m _ (i + 1) (by omega) (by omega) (by omega) hf
theorem sets_some (a : Int) (k : Nat) (hk : 5 ≤ k) : ∃ l, joinerylaw2_Set.f k a = some l ∧ l.length ≤ 4 ∧ isIn l noneT = false := by
  have := sets_go a [(⟨#[98, 105, 103]⟩ : ByteArray), (⟨#[115, 115, 100]⟩ : ByteArray), (⟨#[119, 101, 115, 116]⟩ : ByteArray), (⟨#[206, 179]⟩ : ByteArray)] (by decide +kernel) rfl (k - 5) 4 [] 0 (by omega) (by omega) (by simp) rfl
  rw [show k - 5 + 4 + 1 = k by omega] at this
  exact this
theorem node_some (nm n : Int) (k : Nat) (hk : 7 ≤ k) : ∃ s c d M T cl, joinerylaw3_Node.f k nm n = some (s, c, d, M, T, cl) ∧ (0 ≤ c ∧ c < 12) ∧ (0 ≤ d ∧ d < 12) ∧ M.length ≤ 4 ∧ T.length ≤ 4 ∧ isIn M noneT = false := by
  unfold joinerylaw3_Node.f
  obtain ⟨s, hs⟩ := name_some nm
  obtain ⟨M, hM, lM, fM⟩ := sets_some (wrap64 (Int.tdiv n 144)) k (by omega)
  obtain ⟨T, hT, lT, fT⟩ := sets_some (wrap64 (Int.tdiv n 31)) k (by omega)
  rw [hs, Option.bind_some, within3 _ 12 (by omega) (by omega), Option.bind_some, within3 _ 12 (by omega) (by omega), Option.bind_some, hM, Option.bind_some, within3 _ 9 (by omega) (by omega), Option.bind_some, within3 _ 3 (by omega) (by omega), Option.bind_some]
  have c0 := Int.emod_nonneg n (show (12 : Int) ≠ 0 by omega)
  have c1 := Int.emod_lt_of_pos n (show (0 : Int) < 12 by omega)
  have d0 := Int.emod_nonneg (wrap64 (Int.tdiv n 12)) (show (12 : Int) ≠ 0 by omega)
  have d1 := Int.emod_lt_of_pos (wrap64 (Int.tdiv n 12)) (show (0 : Int) < 12 by omega)
  split
  · rw [hT, Option.bind_some]
    exact ⟨_, _, _, _, _, _, rfl, ⟨c0, c1⟩, ⟨d0, d1⟩, lM, lT, fM⟩
  · exact ⟨_, _, _, _, _, _, rfl, ⟨c0, c1⟩, ⟨d0, d1⟩, lM, by simp, fM⟩
theorem whyS_zero {cl p t F al : Bool} {ps : List S41} (h : whyS cl p t F al ps = 0) : cl = false ∧ p = true ∧ t = true ∧ F = true := by
  unfold whyS at h
  cases cl <;> cases p <;> cases t <;> cases F <;> simp at h ⊢
theorem whyS_nil {al : Bool} : whyS false true true true al [] = 0 := by
  unfold whyS someAlone
  cases al <;> rfl
theorem fits_some (n : ByteArray) (s a b : Int) (P B : List ByteArray) (al : Bool) (m : ByteArray) (c d : Int) (M T : List ByteArray) (cl : Bool) (u v : Int) (h1 : 0 ≤ u) (h2 : 0 ≤ v) (h3 : 0 ≤ a) (h4 : 0 ≤ b) (g1 : u + a ≤ 9223372036854775807) (g2 : v + b ≤ 9223372036854775807) :
    fit_fits.f n s a b P B al m c d M T cl u v = some (decide (u + a ≤ c) && decide (v + b ≤ d)) := by
  unfold fit_fits.f vec_Add.f
  rw [if_pos (words_yes (by omega) (by omega) (by omega) (by omega)), Option.bind_some]
  have r1 : rightB u v = true := by unfold rightB; rw [decide_eq_true h1, decide_eq_true h2]; rfl
  have r2 : rightB a b = true := by unfold rightB; rw [decide_eq_true h3, decide_eq_true h4]; rfl
  have e1 : addOK u a = true := decide_eq_true g1
  have e2 : addOK v b = true := decide_eq_true g2
  have v1 : addV u a = u + a := by unfold addV; rw [e1]; rfl
  have v2 : addV v b = v + b := by unfold addV; rw [e2]; rfl
  rw [r1, r2, e1, e2, v1, v2]
  rfl
theorem why_some (n : ByteArray) (s a b : Int) (P B : List ByteArray) (al : Bool) (m : ByteArray) (c d : Int) (M T : List ByteArray) (cl : Bool) (u v : Int) (ps : List S41) (a0 : 0 ≤ a) (a1 : a < 5) (b0 : 0 ≤ b) (b1 : b < 5) (u0 : 0 ≤ u) (u1 : u < 12) (v0 : 0 ≤ v) (v1 : v < 12) (hp : ps.length ≤ 4) (k : Nat) (hk : 10 ≤ k) :
    fit_Why.f k n s a b P B al m c d M T cl u v ps = some (whyS cl (allIn P M) (allIn T B) (decide (u + a ≤ c) && decide (v + b ≤ d)) al ps) :=
  why_eq _ _ _ _ _ _ _ _ _ _ _ _ _ _ _ _ _ (fits_some _ _ _ _ _ _ _ _ _ _ _ _ _ _ _ u0 v0 a0 b0 (by omega) (by omega)) (by omega) k (by omega)
theorem last (n : ByteArray) (s a b : Int) (P B : List ByteArray) (al : Bool) (m : ByteArray) (c d : Int) (M T : List ByteArray) (cl : Bool) (u v : Int) (l6 : List Int) (a0 : 0 ≤ a) (a1 : a < 5) (b0 : 0 ≤ b) (b1 : b < 5) (u0 : 0 ≤ u) (u1 : u < 12) (v0 : 0 ≤ v) (v1 : v < 12) (hM : isIn M noneT = false) :
    joinerylaw5_FitMore.j0 30 l6 false n s a b P B al m c d M T cl u v = some true := by
  obtain ⟨qs, hq, lq⟩ := beside_some l6 29 (by omega)
  rw [joinerylaw5_FitMore.j0, if_neg (by simp), hq, Option.bind_some, why_some n s a b _ B al m c d M T cl u v qs a0 a1 b0 b1 u0 u1 v0 v1 lq 29 (by omega), Option.bind_some]
  have e : allIn [(⟨#[110, 111, 110, 101]⟩ : ByteArray)] M = false := by
    unfold allIn
    rw [List.all_cons]
    show (isIn M noneT && _) = false
    rw [hM]
    rfl
  rw [e]
  cases cl <;> rfl
theorem mx_le {x y : Int} (hx : 0 ≤ x) (hx1 : x < 12) (hy : 0 ≤ y) (hy1 : y < 5) : 0 ≤ mx 0 (wrap64 (x - y)) ∧ mx 0 (wrap64 (x - y)) ≤ x := by
  have e : wrap64 (x - y) = x - y := by unfold wrap64; omega
  rw [e]
  unfold mx
  split <;> omega
end FM
open FM in
theorem FitMore : joinerylaw5_FitMore.Pure := by
  intro a0 a1 a2 a3 a4 a5 l6 _ _ _ _ _ _ _ _ _
  refine ⟨30, ?_⟩
  obtain ⟨nm, s, a, b, P, B, al, hp, ⟨a0', a1'⟩, ⟨b0', b1'⟩, lP, lB⟩ := pod_some a0 30 (by omega)
  obtain ⟨sn, c, d, M, T, cl, hn, ⟨c0, c1⟩, ⟨d0, d1⟩, lM, lT, fM⟩ := FM.node_some a1 a2 30 (by omega)
  obtain ⟨qs, hq, lq⟩ := beside_some l6 30 (by omega)
  have u0 := Int.emod_nonneg a3 (show (12 : Int) ≠ 0 by omega)
  have u1 := Int.emod_lt_of_pos a3 (show (0 : Int) < 12 by omega)
  have v0 := Int.emod_nonneg a4 (show (12 : Int) ≠ 0 by omega)
  have v1 := Int.emod_lt_of_pos a4 (show (0 : Int) < 12 by omega)
  have x0 := Int.emod_nonneg a5 (show (5 : Int) ≠ 0 by omega)
  have x1 := Int.emod_lt_of_pos a5 (show (0 : Int) < 5 by omega)
  have y0 := Int.emod_nonneg (wrap64 (Int.tdiv a5 5)) (show (5 : Int) ≠ 0 by omega)
  have y1 := Int.emod_lt_of_pos (wrap64 (Int.tdiv a5 5)) (show (0 : Int) < 5 by omega)
  unfold joinerylaw5_FitMore.f
  rw [known_ge (by omega)]
  simp only [Option.bind_some, if_true]
  rw [hp]
  simp only [Option.bind_some]
  rw [hn]
  simp only [Option.bind_some]
  rw [within5 a3 12 (by omega) (by omega), within5 a4 12 (by omega) (by omega), hq, within5 a5 5 (by omega) (by omega), within5 (wrap64 (Int.tdiv a5 5)) 5 (by omega) (by omega)]
  simp only [Option.bind_some]
  generalize a3 % 12 = u at u0 u1
  generalize a4 % 12 = v at v0 v1
  generalize a5 % 5 = x at x0 x1
  generalize wrap64 (Int.tdiv a5 5) % 5 = y at y0 y1
  have ec : wrap64 (c + x) = c + x := by unfold wrap64; omega
  have ed : wrap64 (d + y) = d + y := by unfold wrap64; omega
  obtain ⟨p0, p1⟩ := mx_le u0 u1 x0 x1
  obtain ⟨q0, q1⟩ := mx_le v0 v1 y0 y1
  rw [ec, ed, why_some nm s a b P B al sn c d M T cl u v qs a0' a1' b0' b1' u0 u1 v0 v1 lq 30 (by omega), why_some nm s a b P B al sn (c + x) (d + y) M T cl u v qs a0' a1' b0' b1' u0 u1 v0 v1 lq 30 (by omega), why_some nm s a b P B al sn c d M T cl _ _ qs a0' a1' b0' b1' p0 (by omega) q0 (by omega) lq 30 (by omega), why_some nm s a b P B al sn c d M T cl u v [] a0' a1' b0' b1' u0 u1 v0 v1 (by simp) 30 (by omega)]
  simp only [Option.bind_some]
  have hl := last nm s a b P B al sn c d M T cl u v l6 a0' a1' b0' b1' u0 u1 v0 v1 fM
  by_cases h : whyS cl (allIn P M) (allIn T B) (decide (u + a ≤ c) && decide (v + b ≤ d)) al qs = 0
  · rw [if_pos h]
    obtain ⟨e1, e2, e3, e4⟩ := whyS_zero h
    obtain ⟨f1, f2⟩ := Bool.and_eq_true_iff.1 e4
    have f1 := of_decide_eq_true f1
    have f2 := of_decide_eq_true f2
    have g1 : (decide (u + a ≤ c + x) && decide (v + b ≤ d + y)) = true := by rw [decide_eq_true (show u + a ≤ c + x by omega), decide_eq_true (show v + b ≤ d + y by omega)]; rfl
    have g2 : (decide (mx 0 (wrap64 (u - x)) + a ≤ c) && decide (mx 0 (wrap64 (v - y)) + b ≤ d)) = true := by rw [decide_eq_true (show mx 0 (wrap64 (u - x)) + a ≤ c by omega), decide_eq_true (show mx 0 (wrap64 (v - y)) + b ≤ d by omega)]; rfl
    rw [e4] at h
    rw [g1, g2, e4, if_pos h, if_pos h, e1, e2, e3, whyS_nil]
    rw [e1] at hl
    exact hl
  · rw [if_neg h]
    exact hl
end Go.Proofs.Ytciedbaeenhgkaa.Pure
