-- Printed by wip/tools/gprint.py (the kit's print, hand-proved contracts laid in): functions of the program as Lean functions, each with the proof that the machine's call comes to its answer.
import Derived.Test.YtciedbaeenhgkaaQx0
import Derived.Test.YtciedbaeenhgkaaQx2
import Derived.Test.YtciedbaeenhgkaaQw
namespace Go.Proofs.Ytciedbaeenhgkaa.M
open Go.RowKit Go.Proofs.Ytciedbaeenhgkaa Go.Proofs.Ytciedbaeenhgkaa.Base Go.Proofs.Ytciedbaeenhgkaa.BaseM Go.Proofs.Ytciedbaeenhgkaa.BaseR Go.Proofs.Ytciedbaeenhgkaa.Q Go.Proofs.YtciedbaeenhgkaaW.PrintWords Go.Proofs.YtciedbaeenhgkaaW.PrintLast Go.Proofs.YtciedbaeenhgkaaW.PrintMore
attribute [local go_sem] fwd_normal fwd_ret fwd_exit fwd_panic max2_int min2_int max_two min_two max_three min_three max_four min_four   -- for this text's walks alone
set_option linter.unusedVariables false
set_option linter.unusedSimpArgs false

/-! ### joinerylaw5_FitKnown: function 4 -/
def joinerylaw5_FitKnown.f (k : Nat) (a0 : Int) : Option (Bool) := (joinerylaw5_known.f k).bind fun t177 => (if t177 = true then ((some (([(⟨#[98, 105, 103]⟩ : ByteArray)] : List ByteArray) : List ByteArray)).bind fun y178 => ((some (([(⟨#[206, 179]⟩ : ByteArray)] : List ByteArray) : List ByteArray)).bind fun y181 => ((some (([(⟨#[98, 105, 103]⟩ : ByteArray), (⟨#[115, 115, 100]⟩ : ByteArray)] : List ByteArray) : List ByteArray)).bind fun y185 => ((some (([(⟨#[206, 179]⟩ : ByteArray)] : List ByteArray) : List ByteArray)).bind fun y188 => ((some (([(⟨(⟨#[113]⟩ : ByteArray), (⟨#[110]⟩ : ByteArray), (⟨0, 0⟩ : S25), false⟩ : S41)] : List (S41)) : List (S41))).bind fun y202 => ((some (([(⟨(⟨#[113]⟩ : ByteArray), (⟨#[110]⟩ : ByteArray), (⟨0, 0⟩ : S25), false⟩ : S41), (⟨(⟨#[114]⟩ : ByteArray), (⟨#[110]⟩ : ByteArray), (⟨0, 0⟩ : S25), true⟩ : S41)] : List (S41)) : List (S41))).bind fun y205 => ((fit_Why.f k (⟨#[112]⟩ : ByteArray) 0 2 3 y178 y181 false (⟨#[110]⟩ : ByteArray) 5 5 y185 y188 false 3 2 ([] : List (S41))).bind fun t208 => ((fit_Why.f k (⟨#[112]⟩ : ByteArray) 0 2 3 y178 y181 false (⟨#[110]⟩ : ByteArray) 5 5 ([] : List ByteArray) y188 true 9 0 y205).bind fun t209 => ((fit_Why.f k (⟨#[112]⟩ : ByteArray) 0 2 3 y178 y181 false (⟨#[110]⟩ : ByteArray) 5 5 (([(⟨#[115, 115, 100]⟩ : ByteArray)] : List ByteArray)) y188 false 9 0 y205).bind fun t210 => ((fit_Why.f k (⟨#[112]⟩ : ByteArray) 0 2 3 y178 y181 false (⟨#[110]⟩ : ByteArray) 5 5 y185 (([(⟨#[119, 101, 115, 116]⟩ : ByteArray), (⟨#[206, 179]⟩ : ByteArray)] : List ByteArray)) false 9 0 y205).bind fun t211 => ((fit_Why.f k (⟨#[112]⟩ : ByteArray) 0 2 3 y178 y181 false (⟨#[110]⟩ : ByteArray) 5 5 y185 y188 false 4 0 y205).bind fun t212 => ((fit_Why.f k (⟨#[112]⟩ : ByteArray) 0 2 3 y178 y181 false (⟨#[110]⟩ : ByteArray) 5 5 y185 y188 false 0 3 y205).bind fun t213 => ((fit_Why.f k (⟨#[112]⟩ : ByteArray) 0 2 3 y178 y181 true (⟨#[110]⟩ : ByteArray) 5 5 y185 y188 false 0 0 y202).bind fun t214 => ((fit_Why.f k (⟨#[112]⟩ : ByteArray) 0 2 3 y178 y181 true (⟨#[110]⟩ : ByteArray) 5 5 y185 y188 false 0 0 y205).bind fun t215 => ((fit_Why.f k (⟨#[112]⟩ : ByteArray) 0 2 3 y178 y181 false (⟨#[110]⟩ : ByteArray) 5 5 y185 y188 false 0 0 y205).bind fun t216 => ((fit_Why.f k (⟨#[112]⟩ : ByteArray) 0 2 3 y178 y181 false (⟨#[110]⟩ : ByteArray) 5 5 y185 y188 false 0 0 y202).bind fun t217 => ((fit_Why.f k (⟨#[112]⟩ : ByteArray) 0 2 3 y178 y181 true (⟨#[110]⟩ : ByteArray) 5 5 y185 y188 false 0 0 ([] : List (S41))).bind fun t218 => ((fit_Why.f k (⟨#[112]⟩ : ByteArray) 0 2 3 y178 y181 false (⟨#[110]⟩ : ByteArray) 5 5 y185 y188 false 9223372036854775807 0 ([] : List (S41))).bind fun t219 => ((some (([t208, t209, t210, t211, t212, t213, t214, t215, t216, t217, t218, t219] : List Int) : List Int)).bind fun y220 => ((some (([0, 1, 2, 3, 4, 4, 5, 5, 6, 0, 0, 4] : List Int) : List Int)).bind fun y223 => ((joinerylaw5_within.f a0 (y220.length : Int)).bind fun t226 => (if 0 ≤ t226 then (if t226 < (y220.length : Int) then (if t226 < (y223.length : Int) then (some ((rd y220 t226) == (rd y223 t226))) else (none)) else (none)) else (none))))))))))))))))))))))) else (some false))
theorem joinerylaw5_FitKnown.mono : ∀ a0 k, LeO (joinerylaw5_FitKnown.f k a0) (joinerylaw5_FitKnown.f (k + 1) a0) := by
  intro a0 k
  unfold joinerylaw5_FitKnown.f
  repeat' first
      | (with_reducible exact fit_Why.mono _ _ _ _ _ _ _ _ _ _ _ _ _ _ _ _ _)
      | (with_reducible exact joinerylaw5_known.mono _)
      | (with_reducible exact LeO.refl _)
      | (with_reducible exact LeO.none _)
      | (with_reducible refine LeO.ite ?_ ?_)
      | (with_reducible refine LeO.bind ?_ (fun _ => ?_))
      | exact fit_Why.mono _ _ _ _ _ _ _ _ _ _ _ _ _ _ _ _ _
      | exact joinerylaw5_known.mono _
      | exact LeO.none _
      | refine LeO.ite ?_ ?_
      | refine LeO.bind ?_ (fun _ => ?_)
def joinerylaw5_FitKnown.T7 : Bool × List (List Nat × List Nat) := (true, [([], []), ([], []), ([], []), ([], []), ([], []), ([], []), ([3, 0, 0, 3, 4, 5], [0, 3]), ([4, 1, 6, 0, 1, 3, 4, 5, 6], [1, 4]), ([5, 2, 7, 0, 1, 2, 3, 4, 5, 6, 7], [2, 5])])
def joinerylaw5_FitKnown.B7 : List Nat := [0, 0, 0, 0, 0, 0, 57, 123, 255]
theorem joinerylaw5_FitKnown.tab7 : rtab .any (opsOf Try.f4 7) = joinerylaw5_FitKnown.T7 := by kernel_rfl
theorem joinerylaw5_FitKnown.bits7 : waitsOk joinerylaw5_FitKnown.T7.2 joinerylaw5_FitKnown.B7 = true := by kernel_rfl
def joinerylaw5_FitKnown.T13 : Bool × List (List Nat × List Nat) := (true, [([], []), ([], []), ([], []), ([0, 1, 2], [0, 1, 2]), ([], []), ([], []), ([], []), ([], []), ([4, 5, 6, 7, 3], [4, 5, 6, 7]), ([], []), ([], []), ([], []), ([], []), ([9, 10, 11, 12, 8], [9, 10, 11, 12]), ([], []), ([], []), ([], []), ([], []), ([14, 15, 16, 17, 13], [14, 15, 16, 17]), ([], []), ([], []), ([], []), ([], []), ([19, 20, 21, 22, 18], [19, 20, 21, 22]), ([], []), ([], []), ([], []), ([], []), ([24, 25, 26, 27, 23], [24, 25, 26, 27]), ([], []), ([], []), ([], []), ([], []), ([29, 30, 31, 32, 28], [29, 30, 31, 32]), ([], []), ([], []), ([], []), ([], []), ([34, 35, 36, 37, 33], [34, 35, 36, 37]), ([], []), ([], []), ([], []), ([], []), ([39, 40, 41, 42, 38], [39, 40, 41, 42]), ([], []), ([], []), ([], []), ([], []), ([44, 45, 46, 47, 43], [44, 45, 46, 47]), ([], []), ([], []), ([], []), ([49, 50, 51, 48], [49, 50, 51]), ([], []), ([], []), ([], []), ([53, 54, 55, 52], [53, 54, 55]), ([3, 8, 13, 18, 23, 28, 33, 38, 43, 48, 52, 56], [3, 8, 13, 18, 23, 28, 33, 38, 43, 48, 52, 56]), ([57, 56, 0, 1, 2, 3, 4, 5, 6, 7, 8, 9, 10, 11, 12, 13, 14, 15, 16, 17, 18, 19, 20, 21, 22, 23, 24, 25, 26, 27, 28, 29, 30, 31, 32, 33, 34, 35, 36, 37, 38, 39, 40, 41, 42, 43, 44, 45, 46, 47, 48, 49, 50, 51, 52, 53, 54, 55, 56, 57], [57])])
def joinerylaw5_FitKnown.B13 : List Nat := [0, 0, 0, 7, 0, 0, 0, 0, 255, 0, 0, 0, 0, 8191, 0, 0, 0, 0, 262143, 0, 0, 0, 0, 8388607, 0, 0, 0, 0, 268435455, 0, 0, 0, 0, 8589934591, 0, 0, 0, 0, 274877906943, 0, 0, 0, 0, 8796093022207, 0, 0, 0, 0, 281474976710655, 0, 0, 0, 4503599627370495, 0, 0, 0, 72057594037927935, 144115188075855871, 288230376151711743]
theorem joinerylaw5_FitKnown.tab13 : rtab .any (opsOf Try.f4 13) = joinerylaw5_FitKnown.T13 := by kernel_rfl
theorem joinerylaw5_FitKnown.bits13 : waitsOk joinerylaw5_FitKnown.T13.2 joinerylaw5_FitKnown.B13 = true := by kernel_rfl
def joinerylaw5_FitKnown.T16 : Bool × List (List Nat × List Nat) := (true, [([], []), ([], []), ([0, 1], [0, 1]), ([2], [2]), ([], []), ([], []), ([4, 5], [4, 5]), ([6], [6]), ([3, 7], [3, 7]), ([8, 0, 1, 2, 3, 4, 5, 6, 7, 8], [8])])
def joinerylaw5_FitKnown.B16 : List Nat := [0, 0, 3, 7, 0, 0, 48, 112, 255, 511]
theorem joinerylaw5_FitKnown.tab16 : rtab .any (opsOf Try.f4 16) = joinerylaw5_FitKnown.T16 := by kernel_rfl
theorem joinerylaw5_FitKnown.bits16 : waitsOk joinerylaw5_FitKnown.T16.2 joinerylaw5_FitKnown.B16 = true := by kernel_rfl

end Go.Proofs.Ytciedbaeenhgkaa.M
