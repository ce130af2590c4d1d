import Derived.Test.YtciedbaeenhgkaaQx8
import Derived.Test.YtciedbaeenhgkaaFactsQ
namespace Go.Proofs.Ytciedbaeenhgkaa.Pure
open Go.RowKit Go.Proofs.Ytciedbaeenhgkaa Go.Proofs.Ytciedbaeenhgkaa.Base Go.Proofs.Ytciedbaeenhgkaa.BaseM Go.Proofs.Ytciedbaeenhgkaa.BaseR Go.Proofs.Ytciedbaeenhgkaa.Q Go.Proofs.Ytciedbaeenhgkaa.FactsQ Go.Proofs.YtciedbaeenhgkaaW.PrintWords Go.Proofs.YtciedbaeenhgkaaW.PrintLast

theorem why_go (xs : List Int) (vs : List S25) (hv : ∀ i, W (rd_T25 vs i).f0 ∧ W (rd_T25 vs i).f1) (hl : vs.length = 3) (n : ByteArray) (s a b : Int) (P B : List ByteArray) (al : Bool) (m : ByteArray) (c d : Int) (M T : List ByteArray) (cl : Bool) (ha : W a) (hb : W b)
  (lP : P.length ≤ 4) (lB : B.length ≤ 4) (lM : M.length ≤ 4) (lT : T.length ≤ 4) (k : Nat) (hk : 30 ≤ k) : ∀ (g : Nat) (i : Int), i + g = 3 → 0 ≤ i → joinerylaw5_FitWhy.l0 (k + g + 1) xs vs i n s a b P B al m c d M T cl = some true
 | 0, i, h, h0 => by rw [Nat.add_zero, joinerylaw5_FitWhy.l0, if_neg (by omega)]
 | g + 1, i, h, h0 => by
  obtain ⟨qs, hq, lq⟩ := beside_some xs (k + (g + 1)) (by omega)
  obtain ⟨t1, hf1, hr1⟩ := same n s a b P B al m c d M T cl (rd_T25 vs i).f0 (rd_T25 vs i).f1 qs ha hb (hv i).1 (hv i).2 (k + (g + 1)) lP lB lM lT lq (by omega)
  obtain ⟨t2, hf2, hr2⟩ := same n s a b P B al m c d M T cl (rd_T25 vs i).f0 (rd_T25 vs i).f1 [] ha hb (hv i).1 (hv i).2 (k + (g + 1)) lP lB lM lT (by simp) (by omega)
  rw [joinerylaw5_FitWhy.l0, if_pos (by omega), if_pos h0, hq]
  simp only [Option.bind_some]
  rw [hf1, hr1]
  simp only [Option.bind_some, if_true]
  rw [hf2, hr2]
  simp only [Option.bind_some, if_true]
  rw [w1 h0 (by omega), show k + (g + 1) = k + g + 1 by omega]
  exact why_go xs vs hv hl n s a b P B al m c d M T cl ha hb lP lB lM lT k hk g (i + 1) (by omega) (by omega)
theorem FitWhy : joinerylaw5_FitWhy.Pure := by
 intro a0 a1 a2 a3 a4 l5 _ _ _ _ _ _ _ _
 refine ⟨34, ?_⟩
 obtain ⟨nm, s, a, b, P, B, al, hp, ⟨a0', a1'⟩, ⟨b0', b1'⟩, lP, lB⟩ := pod_some a0 34 (by omega)
 obtain ⟨sn, c, d, M, T, cl, hn, lM, lT⟩ := node_some a1 a2 34 (by omega)
 obtain ⟨e1, h1, w1⟩ := edge_some a3
 obtain ⟨e2, h2, w2⟩ := edge_some a4
 have m3 := Int.emod_nonneg a3 (show (12 : Int) ≠ 0 by omega)
 have n3 := Int.emod_lt_of_pos a3 (show (0 : Int) < 12 by omega)
 have m4 := Int.emod_nonneg a4 (show (12 : Int) ≠ 0 by omega)
 have n4 := Int.emod_lt_of_pos a4 (show (0 : Int) < 12 by omega)
 unfold joinerylaw5_FitWhy.f
 rw [known_ge (by omega)]
 simp only [Option.bind_some, if_true]
 rw [hp]
 simp only [Option.bind_some]
 rw [hn]
 simp only [Option.bind_some]
 rw [h1, h2, within5 a3 12 (by omega) (by omega), within5 a4 12 (by omega) (by omega)]
 simp only [Option.bind_some]
 refine why_go l5 _ ?_ rfl nm s a b P B al sn c d M T cl (by unfold W; omega) (by unfold W; omega) lP lB lM lT 30 (by omega) 3 0 (by omega) (by omega)
 intro i
 unfold rd_T25
 have W0 : W 0 := by unfold W; omega
 have x1 : W (mx e1 0) := by unfold W at *; unfold mx; omega
 have x2 : W (mx e2 0) := by unfold W at *; unfold mx; omega
 have x3 : W (a3 % 12) := by unfold W; omega
 have x4 : W (a4 % 12) := by unfold W; omega
 match i.toNat with
 | 0 => exact ⟨x3, x4⟩
 | 1 => exact ⟨W0, W0⟩
 | 2 => exact ⟨x1, x2⟩
 | n + 3 => exact ⟨W0, W0⟩

end Go.Proofs.Ytciedbaeenhgkaa.Pure
