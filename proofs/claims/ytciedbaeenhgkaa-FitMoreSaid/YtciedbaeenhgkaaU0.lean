-- Printed by wip/tools/gprint.py (the kit's print, hand-proved contracts laid in): functions of the program as Lean functions, each with the proof that the machine's call comes to its answer.
import Derived.Test.YtciedbaeenhgkaaQx0
import Derived.Test.YtciedbaeenhgkaaQx4
import Derived.Test.YtciedbaeenhgkaaQx5
import Derived.Test.YtciedbaeenhgkaaCut
namespace Go.Proofs.Ytciedbaeenhgkaa.M
open Go.RowKit Go.Proofs.Ytciedbaeenhgkaa Go.Proofs.Ytciedbaeenhgkaa.Base Go.Proofs.Ytciedbaeenhgkaa.BaseM Go.Proofs.Ytciedbaeenhgkaa.BaseR Go.Proofs.Ytciedbaeenhgkaa.Q Go.Proofs.YtciedbaeenhgkaaW.PrintWords Go.Proofs.YtciedbaeenhgkaaW.PrintLast Go.Proofs.YtciedbaeenhgkaaW.PrintMore
attribute [local go_sem] fwd_normal fwd_ret fwd_exit fwd_panic max2_int min2_int max_two min_two max_three min_three max_four min_four   -- for this text's walks alone
set_option linter.unusedVariables false
set_option linter.unusedSimpArgs false

/-! ### joinerylaw5_FitMore: function 5 -/
def joinerylaw5_FitMore.j0 : Nat → List Int → Bool → ByteArray → Int → Int → Int → List ByteArray → List ByteArray → Bool → ByteArray → Int → Int → List ByteArray → List ByteArray → Bool → Int → Int → Option (Bool)
  | 0, _, _, _, _, _, _, _, _, _, _, _, _, _, _, _, _, _ => none
  | k + 1, x6, x97, x146000, x146001, x146002, x146003, x146004, x146005, x146006, x147000, x147001, x147002, x147003, x147004, x147005, x150000, x150001 => if x97 = true then (some false) else ((joinerylaw5_beside.f k x6).bind fun t173 => ((fit_Why.f k x146000 x146001 x146002 x146003 (([(⟨#[110, 111, 110, 101]⟩ : ByteArray)] : List ByteArray)) x146005 x146006 x147000 x147001 x147002 x147003 x147004 x147005 x150000 x150001 t173).bind fun t176 => (if x147005 = true then (if t176 = 1 then (some true) else (some false)) else (some (t176 == 2)))))
def joinerylaw5_FitMore.f (k : Nat) (a0 : Int) (a1 : Int) (a2 : Int) (a3 : Int) (a4 : Int) (a5 : Int) (l6 : List Int) : Option (Bool) := (joinerylaw5_known.f k).bind fun t123 => (if t123 = true then ((joinerylaw3_Pod.f k 0 a0 4).bind fun bt124 => ((joinerylaw3_Node.f k a1 a2).bind fun bt135 => ((joinerylaw5_within.f a3 12).bind fun t147 => ((joinerylaw5_within.f a4 12).bind fun t148 => ((joinerylaw5_beside.f k l6).bind fun t150 => ((fit_Why.f k bt124.1 bt124.2.1 bt124.2.2.1 bt124.2.2.2.1 bt124.2.2.2.2.1 bt124.2.2.2.2.2.1 bt124.2.2.2.2.2.2 bt135.1 bt135.2.1 bt135.2.2.1 bt135.2.2.2.1 bt135.2.2.2.2.1 bt135.2.2.2.2.2 t147 t148 t150).bind fun t153 => ((joinerylaw5_within.f a5 5).bind fun t155 => ((joinerylaw5_within.f (wrap64 (Int.tdiv a5 5)) 5).bind fun t156 => ((joinerylaw5_within.f a5 5).bind fun t157 => ((joinerylaw5_within.f (wrap64 (Int.tdiv a5 5)) 5).bind fun t158 => (if t153 = 0 then ((joinerylaw5_beside.f k l6).bind fun t160 => ((fit_Why.f k bt124.1 bt124.2.1 bt124.2.2.1 bt124.2.2.2.1 bt124.2.2.2.2.1 bt124.2.2.2.2.2.1 bt124.2.2.2.2.2.2 bt135.1 (wrap64 (bt135.2.1 + t155)) (wrap64 (bt135.2.2.1 + t156)) bt135.2.2.2.1 bt135.2.2.2.2.1 bt135.2.2.2.2.2 t147 t148 t160).bind fun t163 => (if t163 = 0 then ((joinerylaw5_beside.f k l6).bind fun t164 => ((fit_Why.f k bt124.1 bt124.2.1 bt124.2.2.1 bt124.2.2.2.1 bt124.2.2.2.2.1 bt124.2.2.2.2.2.1 bt124.2.2.2.2.2.2 bt135.1 bt135.2.1 bt135.2.2.1 bt135.2.2.2.1 bt135.2.2.2.2.1 bt135.2.2.2.2.2 (mx 0 (wrap64 (t147 - t157))) (mx 0 (wrap64 (t148 - t158))) t164).bind fun t167 => (if t167 = 0 then ((fit_Why.f k bt124.1 bt124.2.1 bt124.2.2.1 bt124.2.2.2.1 bt124.2.2.2.2.1 bt124.2.2.2.2.2.1 bt124.2.2.2.2.2.2 bt135.1 bt135.2.1 bt135.2.2.1 bt135.2.2.2.1 bt135.2.2.2.2.1 bt135.2.2.2.2.2 t147 t148 ([] : List (S41))).bind fun t168 => (joinerylaw5_FitMore.j0 k l6 (t168 != 0) bt124.1 bt124.2.1 bt124.2.2.1 bt124.2.2.2.1 bt124.2.2.2.2.1 bt124.2.2.2.2.2.1 bt124.2.2.2.2.2.2 bt135.1 bt135.2.1 bt135.2.2.1 bt135.2.2.2.1 bt135.2.2.2.2.1 bt135.2.2.2.2.2 t147 t148)) else (joinerylaw5_FitMore.j0 k l6 true bt124.1 bt124.2.1 bt124.2.2.1 bt124.2.2.2.1 bt124.2.2.2.2.1 bt124.2.2.2.2.2.1 bt124.2.2.2.2.2.2 bt135.1 bt135.2.1 bt135.2.2.1 bt135.2.2.2.1 bt135.2.2.2.2.1 bt135.2.2.2.2.2 t147 t148)))) else (joinerylaw5_FitMore.j0 k l6 true bt124.1 bt124.2.1 bt124.2.2.1 bt124.2.2.2.1 bt124.2.2.2.2.1 bt124.2.2.2.2.2.1 bt124.2.2.2.2.2.2 bt135.1 bt135.2.1 bt135.2.2.1 bt135.2.2.2.1 bt135.2.2.2.2.1 bt135.2.2.2.2.2 t147 t148)))) else (joinerylaw5_FitMore.j0 k l6 false bt124.1 bt124.2.1 bt124.2.2.1 bt124.2.2.2.1 bt124.2.2.2.2.1 bt124.2.2.2.2.2.1 bt124.2.2.2.2.2.2 bt135.1 bt135.2.1 bt135.2.2.1 bt135.2.2.2.1 bt135.2.2.2.2.1 bt135.2.2.2.2.2 t147 t148)))))))))))) else (some false))
theorem joinerylaw5_FitMore.mono_l : ∀ k, (∀ y0 y1 y2 y3 y4 y5 y6 y7 y8 y9 y10 y11 y12 y13 y14 y15 y16, LeO (joinerylaw5_FitMore.j0 k y0 y1 y2 y3 y4 y5 y6 y7 y8 y9 y10 y11 y12 y13 y14 y15 y16) (joinerylaw5_FitMore.j0 (k + 1) y0 y1 y2 y3 y4 y5 y6 y7 y8 y9 y10 y11 y12 y13 y14 y15 y16))
  | 0 => fun _ _ _ _ _ _ _ _ _ _ _ _ _ _ _ _ _ r h => by simp [joinerylaw5_FitMore.j0] at h
  | k + 1 => by
    have ih0 := joinerylaw5_FitMore.mono_l k
    · intro y0 y1 y2 y3 y4 y5 y6 y7 y8 y9 y10 y11 y12 y13 y14 y15 y16
      unfold joinerylaw5_FitMore.j0
      repeat' first
      | (with_reducible exact ih0 _ _ _ _ _ _ _ _ _ _ _ _ _ _ _ _ _)
      | (with_reducible exact fit_Why.mono _ _ _ _ _ _ _ _ _ _ _ _ _ _ _ _ _)
      | (with_reducible exact joinerylaw3_Node.mono _ _ _)
      | (with_reducible exact joinerylaw3_Pod.mono _ _ _ _)
      | (with_reducible exact joinerylaw5_beside.mono _ _)
      | (with_reducible exact joinerylaw5_known.mono _)
      | (with_reducible exact LeO.refl _)
      | (with_reducible exact LeO.none _)
      | (with_reducible refine LeO.ite ?_ ?_)
      | (with_reducible refine LeO.bind ?_ (fun _ => ?_))
      | exact ih0 _ _ _ _ _ _ _ _ _ _ _ _ _ _ _ _ _
      | exact fit_Why.mono _ _ _ _ _ _ _ _ _ _ _ _ _ _ _ _ _
      | exact joinerylaw3_Node.mono _ _ _
      | exact joinerylaw3_Pod.mono _ _ _ _
      | exact joinerylaw5_beside.mono _ _
      | exact joinerylaw5_known.mono _
      | exact LeO.none _
      | refine LeO.ite ?_ ?_
      | refine LeO.bind ?_ (fun _ => ?_)
theorem joinerylaw5_FitMore.mono : ∀ a0 a1 a2 a3 a4 a5 a6 k, LeO (joinerylaw5_FitMore.f k a0 a1 a2 a3 a4 a5 a6) (joinerylaw5_FitMore.f (k + 1) a0 a1 a2 a3 a4 a5 a6) := by
  intro a0 a1 a2 a3 a4 a5 a6 k
  have ih0 := joinerylaw5_FitMore.mono_l k
  unfold joinerylaw5_FitMore.f
  repeat' first
      | (with_reducible exact ih0 _ _ _ _ _ _ _ _ _ _ _ _ _ _ _ _ _)
      | (with_reducible exact fit_Why.mono _ _ _ _ _ _ _ _ _ _ _ _ _ _ _ _ _)
      | (with_reducible exact joinerylaw3_Node.mono _ _ _)
      | (with_reducible exact joinerylaw3_Pod.mono _ _ _ _)
      | (with_reducible exact joinerylaw5_beside.mono _ _)
      | (with_reducible exact joinerylaw5_known.mono _)
      | (with_reducible exact LeO.refl _)
      | (with_reducible exact LeO.none _)
      | (with_reducible refine LeO.ite ?_ ?_)
      | (with_reducible refine LeO.bind ?_ (fun _ => ?_))
      | exact ih0 _ _ _ _ _ _ _ _ _ _ _ _ _ _ _ _ _
      | exact fit_Why.mono _ _ _ _ _ _ _ _ _ _ _ _ _ _ _ _ _
      | exact joinerylaw3_Node.mono _ _ _
      | exact joinerylaw3_Pod.mono _ _ _ _
      | exact joinerylaw5_beside.mono _ _
      | exact joinerylaw5_known.mono _
      | exact LeO.none _
      | refine LeO.ite ?_ ?_
      | refine LeO.bind ?_ (fun _ => ?_)
def joinerylaw5_FitMore.T7 : Bool × List (List Nat × List Nat) := (true, [([], []), ([0], [0]), ([1], [1]), ([], []), ([3], [3]), ([2, 4], [2, 4]), ([], []), ([6], [6]), ([7], [7]), ([], []), ([9], [9]), ([10, 4], [10]), ([8, 11], [8, 11]), ([5, 12], [5, 12]), ([0, 1, 2, 3, 4, 5, 6, 7, 8, 9, 10, 11, 12, 13], []), ([14, 13, 11, 0, 1, 2, 3, 4, 5, 6, 7, 8, 9, 10, 11, 12, 13], [13, 14])])
def joinerylaw5_FitMore.B7 : List Nat := [0, 1, 3, 0, 8, 31, 0, 64, 192, 0, 512, 1560, 4056, 8191, 16383, 32767]
theorem joinerylaw5_FitMore.tab7 : rtab .any (opsOf Try.f5 7) = joinerylaw5_FitMore.T7 := by kernel_rfl
theorem joinerylaw5_FitMore.bits7 : waitsOk joinerylaw5_FitMore.T7.2 joinerylaw5_FitMore.B7 = true := by kernel_rfl
def joinerylaw5_FitMore.T8 : Bool × List (List Nat × List Nat) := (true, [([], []), ([0], [0]), ([], []), ([2], [2]), ([1, 3], [1, 3]), ([4], [4]), ([], []), ([6], [6]), ([], []), ([8], [8]), ([9, 3], [9]), ([7, 10], [7, 10]), ([11], [11]), ([5, 12], [5, 12]), ([], []), ([14, 13, 10, 0, 1, 2, 3, 4, 5, 6, 7, 8, 9, 10, 11, 12, 13, 14], [13, 14])])
def joinerylaw5_FitMore.B8 : List Nat := [0, 1, 0, 4, 15, 31, 0, 64, 0, 256, 780, 1996, 4044, 8191, 0, 32767]
theorem joinerylaw5_FitMore.tab8 : rtab .any (opsOf Try.f5 8) = joinerylaw5_FitMore.T8 := by kernel_rfl
theorem joinerylaw5_FitMore.bits8 : waitsOk joinerylaw5_FitMore.T8.2 joinerylaw5_FitMore.B8 = true := by kernel_rfl
def joinerylaw5_FitMore.T9 : Bool × List (List Nat × List Nat) := (true, [([], []), ([0], [0]), ([1], [1]), ([2], [2]), ([2], [2]), ([2], [2]), ([2], [2]), ([6, 2, 2], [2, 6]), ([3, 4, 5, 7, 7, 2], [2, 3, 4, 5, 7]), ([8, 2], [2, 8]), ([9, 8, 2], [2, 9]), ([10], [10]), ([10], [10]), ([10], [10]), ([10], [10]), ([14, 10, 10], [10, 14]), ([11, 12, 13, 15, 15, 10], [10, 11, 12, 13, 15]), ([16, 10], [10, 16]), ([10, 17, 2], [2, 10, 17]), ([18, 16, 2], [2, 18]), ([19], [19]), ([19], [19]), ([19], [19]), ([20, 21, 22, 19, 19], [19, 20, 21, 22]), ([23, 19], [19, 23]), ([19, 24, 2], [2, 19, 24]), ([2, 25], [2, 25])])
def joinerylaw5_FitMore.B9 : List Nat := [0, 1, 3, 7, 7, 7, 7, 71, 255, 511, 1023, 2047, 2047, 2047, 2047, 18431, 65535, 131071, 262143, 524287, 1048575, 1048575, 1048575, 8388607, 16777215, 33554431, 67108863]
theorem joinerylaw5_FitMore.tab9 : rtab .any (opsOf Try.f5 9) = joinerylaw5_FitMore.T9 := by kernel_rfl
theorem joinerylaw5_FitMore.bits9 : waitsOk joinerylaw5_FitMore.T9.2 joinerylaw5_FitMore.B9 = true := by kernel_rfl

end Go.Proofs.Ytciedbaeenhgkaa.M
