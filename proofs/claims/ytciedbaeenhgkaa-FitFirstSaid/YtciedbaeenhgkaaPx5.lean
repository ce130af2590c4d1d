-- Printed by wip/tools/gprint.py (the kit's print, hand-proved contracts laid in): functions of the program as Lean functions, each with the proof that the machine's call comes to its answer.
import Derived.Test.YtciedbaeenhgkaaPx0
import Derived.Test.YtciedbaeenhgkaaPx2
namespace Go.Proofs.Ytciedbaeenhgkaa.P
open Go.RowKit Go.Proofs.Ytciedbaeenhgkaa Go.Proofs.Ytciedbaeenhgkaa.Base Go.Proofs.Ytciedbaeenhgkaa.BaseM Go.Proofs.Ytciedbaeenhgkaa.BaseR Go.Proofs.YtciedbaeenhgkaaW.PrintWords Go.Proofs.YtciedbaeenhgkaaW.PrintLast Go.Proofs.YtciedbaeenhgkaaW.PrintMore
attribute [local go_sem] fwd_normal fwd_ret fwd_exit fwd_panic max2_int min2_int max_two min_two max_three min_three max_four min_four   -- for this text's walks alone
set_option linter.unusedVariables false
set_option linter.unusedSimpArgs false

/-! ### joinerylaw5_FitFirst: function 9 -/
mutual
def joinerylaw5_FitFirst.j0 : Nat → List (S41) → Int → ByteArray → Int → Int → Int → List ByteArray → Bool → ByteArray → Int → Int → List ByteArray → Bool → Option (Bool)
  | 0, _, _, _, _, _, _, _, _, _, _, _, _, _ => none
  | k + 1, x5, x6, x184000, x184001, x184002, x184003, x184004, x184006, x188000, x188001, x188002, x188004, x188005 => if x6 > 1 then (joinerylaw5_FitFirst.j1 k x5 x6 x184000 x184001 x184002 x184003 x184004 x184006 x188000 x188001 x188002 (([(⟨#[98, 105, 103]⟩ : ByteArray)] : List ByteArray)) x188004 x188005) else (joinerylaw5_FitFirst.j1 k x5 x6 x184000 x184001 x184002 x184003 x184004 x184006 x188000 x188001 x188002 ([] : List ByteArray) x188004 x188005)
def joinerylaw5_FitFirst.j1 : Nat → List (S41) → Int → ByteArray → Int → Int → Int → List ByteArray → Bool → ByteArray → Int → Int → List ByteArray → List ByteArray → Bool → Option (Bool)
  | 0, _, _, _, _, _, _, _, _, _, _, _, _, _, _ => none
  | k + 1, x5, x6, x184000, x184001, x184002, x184003, x184004, x184006, x188000, x188001, x188002, x188003, x188004, x188005 => if x6 > 2 then (joinerylaw5_FitFirst.j2 k x5 x6 x184000 x184001 x184002 x184003 x184004 (([(⟨#[119, 101, 115, 116]⟩ : ByteArray)] : List ByteArray)) x184006 x188000 x188001 x188002 x188003 x188004 x188005) else (joinerylaw5_FitFirst.j2 k x5 x6 x184000 x184001 x184002 x184003 x184004 ([] : List ByteArray) x184006 x188000 x188001 x188002 x188003 x188004 x188005)
def joinerylaw5_FitFirst.j2 : Nat → List (S41) → Int → ByteArray → Int → Int → Int → List ByteArray → List ByteArray → Bool → ByteArray → Int → Int → List ByteArray → List ByteArray → Bool → Option (Bool)
  | 0, _, _, _, _, _, _, _, _, _, _, _, _, _, _, _ => none
  | k + 1, x5, x6, x184000, x184001, x184002, x184003, x184004, x184005, x184006, x188000, x188001, x188002, x188003, x188004, x188005 => if x6 > 3 then (joinerylaw5_FitFirst.j3 k x5 x6 x184000 x184001 x184002 x184003 x184004 x184005 x184006 x188000 3 x188002 x188003 x188004 x188005) else (joinerylaw5_FitFirst.j3 k x5 x6 x184000 x184001 x184002 x184003 x184004 x184005 x184006 x188000 x188001 x188002 x188003 x188004 x188005)
def joinerylaw5_FitFirst.j3 : Nat → List (S41) → Int → ByteArray → Int → Int → Int → List ByteArray → List ByteArray → Bool → ByteArray → Int → Int → List ByteArray → List ByteArray → Bool → Option (Bool)
  | 0, _, _, _, _, _, _, _, _, _, _, _, _, _, _, _ => none
  | k + 1, x5, x6, x184000, x184001, x184002, x184003, x184004, x184005, x184006, x188000, x188001, x188002, x188003, x188004, x188005 => if x6 > 4 then (joinerylaw5_FitFirst.j4 k x5 x6 x184000 x184001 x184002 x184003 x184004 x184005 false x188000 x188001 x188002 x188003 x188004 x188005) else (joinerylaw5_FitFirst.j4 k x5 x6 x184000 x184001 x184002 x184003 x184004 x184005 x184006 x188000 x188001 x188002 x188003 x188004 x188005)
def joinerylaw5_FitFirst.j4 : Nat → List (S41) → Int → ByteArray → Int → Int → Int → List ByteArray → List ByteArray → Bool → ByteArray → Int → Int → List ByteArray → List ByteArray → Bool → Option (Bool)
  | 0, _, _, _, _, _, _, _, _, _, _, _, _, _, _, _ => none
  | k + 1, x5, x6, x184000, x184001, x184002, x184003, x184004, x184005, x184006, x188000, x188001, x188002, x188003, x188004, x188005 => if x6 > 5 then (if 0 < (x5.length : Int) then ((some (x5.set (0 : Int).toNat (⟨(rd_T41 x5 0).f0, (rd_T41 x5 0).f1, (⟨(rd_T41 x5 0).f2.f0, (rd_T41 x5 0).f2.f1⟩ : S25), false⟩ : S41) : List (S41))).bind fun y198 => (if x6 = 6 then ((fit_Why.f k x184000 x184001 x184002 x184003 x184004 x184005 x184006 x188000 x188001 x188002 x188003 x188004 x188005 0 0 y198).bind fun t199 => (some (t199 == 0))) else ((fit_Why.f k x184000 x184001 x184002 x184003 x184004 x184005 x184006 x188000 x188001 x188002 x188003 x188004 x188005 0 0 y198).bind fun t200 => (some (t200 == (wrap64 (x6 + 1))))))) else (none)) else (if x6 = 6 then ((fit_Why.f k x184000 x184001 x184002 x184003 x184004 x184005 x184006 x188000 x188001 x188002 x188003 x188004 x188005 0 0 x5).bind fun t201 => (some (t201 == 0))) else ((fit_Why.f k x184000 x184001 x184002 x184003 x184004 x184005 x184006 x188000 x188001 x188002 x188003 x188004 x188005 0 0 x5).bind fun t202 => (some (t202 == (wrap64 (x6 + 1))))))
end
def joinerylaw5_FitFirst.f (k : Nat) (a0 : Int) : Option (Bool) := (joinerylaw5_known.f k).bind fun t179 => (if t179 = true then ((some (([(⟨#[98, 105, 103]⟩ : ByteArray)] : List ByteArray) : List ByteArray)).bind fun y180 => ((some (([(⟨#[119, 101, 115, 116]⟩ : ByteArray)] : List ByteArray) : List ByteArray)).bind fun y184 => ((some (([(⟨(⟨#[113]⟩ : ByteArray), (⟨#[110]⟩ : ByteArray), (⟨0, 0⟩ : S25), true⟩ : S41)] : List (S41)) : List (S41))).bind fun y188 => ((joinerylaw5_within.f a0 7).bind fun t191 => (if t191 > 0 then (joinerylaw5_FitFirst.j0 k y188 t191 (⟨#[112]⟩ : ByteArray) 0 3 0 y180 true (⟨#[110]⟩ : ByteArray) 2 0 y184 false) else (joinerylaw5_FitFirst.j0 k y188 t191 (⟨#[112]⟩ : ByteArray) 0 3 0 y180 true (⟨#[110]⟩ : ByteArray) 2 0 y184 true)))))) else (some false))
theorem joinerylaw5_FitFirst.mono_l : ∀ k, (∀ y0 y1 y2 y3 y4 y5 y6 y7 y8 y9 y10 y11 y12, LeO (joinerylaw5_FitFirst.j0 k y0 y1 y2 y3 y4 y5 y6 y7 y8 y9 y10 y11 y12) (joinerylaw5_FitFirst.j0 (k + 1) y0 y1 y2 y3 y4 y5 y6 y7 y8 y9 y10 y11 y12)) ∧ (∀ y0 y1 y2 y3 y4 y5 y6 y7 y8 y9 y10 y11 y12 y13, LeO (joinerylaw5_FitFirst.j1 k y0 y1 y2 y3 y4 y5 y6 y7 y8 y9 y10 y11 y12 y13) (joinerylaw5_FitFirst.j1 (k + 1) y0 y1 y2 y3 y4 y5 y6 y7 y8 y9 y10 y11 y12 y13)) ∧ (∀ y0 y1 y2 y3 y4 y5 y6 y7 y8 y9 y10 y11 y12 y13 y14, LeO (joinerylaw5_FitFirst.j2 k y0 y1 y2 y3 y4 y5 y6 y7 y8 y9 y10 y11 y12 y13 y14) (joinerylaw5_FitFirst.j2 (k + 1) y0 y1 y2 y3 y4 y5 y6 y7 y8 y9 y10 y11 y12 y13 y14)) ∧ (∀ y0 y1 y2 y3 y4 y5 y6 y7 y8 y9 y10 y11 y12 y13 y14, LeO (joinerylaw5_FitFirst.j3 k y0 y1 y2 y3 y4 y5 y6 y7 y8 y9 y10 y11 y12 y13 y14) (joinerylaw5_FitFirst.j3 (k + 1) y0 y1 y2 y3 y4 y5 y6 y7 y8 y9 y10 y11 y12 y13 y14)) ∧ (∀ y0 y1 y2 y3 y4 y5 y6 y7 y8 y9 y10 y11 y12 y13 y14, LeO (joinerylaw5_FitFirst.j4 k y0 y1 y2 y3 y4 y5 y6 y7 y8 y9 y10 y11 y12 y13 y14) (joinerylaw5_FitFirst.j4 (k + 1) y0 y1 y2 y3 y4 y5 y6 y7 y8 y9 y10 y11 y12 y13 y14))
  | 0 => ⟨fun _ _ _ _ _ _ _ _ _ _ _ _ _ r h => by simp [joinerylaw5_FitFirst.j0] at h, fun _ _ _ _ _ _ _ _ _ _ _ _ _ _ r h => by simp [joinerylaw5_FitFirst.j1] at h, fun _ _ _ _ _ _ _ _ _ _ _ _ _ _ _ r h => by simp [joinerylaw5_FitFirst.j2] at h, fun _ _ _ _ _ _ _ _ _ _ _ _ _ _ _ r h => by simp [joinerylaw5_FitFirst.j3] at h, fun _ _ _ _ _ _ _ _ _ _ _ _ _ _ _ r h => by simp [joinerylaw5_FitFirst.j4] at h⟩
  | k + 1 => by
    obtain ⟨ih0, ih1, ih2, ih3, ih4⟩ := joinerylaw5_FitFirst.mono_l k
    refine ⟨?_, ?_, ?_, ?_, ?_⟩
    · intro y0 y1 y2 y3 y4 y5 y6 y7 y8 y9 y10 y11 y12
      unfold joinerylaw5_FitFirst.j0
      repeat' first
      | (with_reducible exact ih0 _ _ _ _ _ _ _ _ _ _ _ _ _)
      | (with_reducible exact ih1 _ _ _ _ _ _ _ _ _ _ _ _ _ _)
      | (with_reducible exact ih2 _ _ _ _ _ _ _ _ _ _ _ _ _ _ _)
      | (with_reducible exact ih3 _ _ _ _ _ _ _ _ _ _ _ _ _ _ _)
      | (with_reducible exact ih4 _ _ _ _ _ _ _ _ _ _ _ _ _ _ _)
      | (with_reducible exact fit_Why.mono _ _ _ _ _ _ _ _ _ _ _ _ _ _ _ _ _)
      | (with_reducible exact joinerylaw5_known.mono _)
      | (with_reducible exact LeO.refl _)
      | (with_reducible exact LeO.none _)
      | (with_reducible refine LeO.ite ?_ ?_)
      | (with_reducible refine LeO.bind ?_ (fun _ => ?_))
      | exact ih0 _ _ _ _ _ _ _ _ _ _ _ _ _
      | exact ih1 _ _ _ _ _ _ _ _ _ _ _ _ _ _
      | exact ih2 _ _ _ _ _ _ _ _ _ _ _ _ _ _ _
      | exact ih3 _ _ _ _ _ _ _ _ _ _ _ _ _ _ _
      | exact ih4 _ _ _ _ _ _ _ _ _ _ _ _ _ _ _
      | exact fit_Why.mono _ _ _ _ _ _ _ _ _ _ _ _ _ _ _ _ _
      | exact joinerylaw5_known.mono _
      | exact LeO.none _
      | refine LeO.ite ?_ ?_
      | refine LeO.bind ?_ (fun _ => ?_)
    · intro y0 y1 y2 y3 y4 y5 y6 y7 y8 y9 y10 y11 y12 y13
      unfold joinerylaw5_FitFirst.j1
      repeat' first
      | (with_reducible exact ih0 _ _ _ _ _ _ _ _ _ _ _ _ _)
      | (with_reducible exact ih1 _ _ _ _ _ _ _ _ _ _ _ _ _ _)
      | (with_reducible exact ih2 _ _ _ _ _ _ _ _ _ _ _ _ _ _ _)
      | (with_reducible exact ih3 _ _ _ _ _ _ _ _ _ _ _ _ _ _ _)
      | (with_reducible exact ih4 _ _ _ _ _ _ _ _ _ _ _ _ _ _ _)
      | (with_reducible exact fit_Why.mono _ _ _ _ _ _ _ _ _ _ _ _ _ _ _ _ _)
      | (with_reducible exact joinerylaw5_known.mono _)
      | (with_reducible exact LeO.refl _)
      | (with_reducible exact LeO.none _)
      | (with_reducible refine LeO.ite ?_ ?_)
      | (with_reducible refine LeO.bind ?_ (fun _ => ?_))
      | exact ih0 _ _ _ _ _ _ _ _ _ _ _ _ _
      | exact ih1 _ _ _ _ _ _ _ _ _ _ _ _ _ _
      | exact ih2 _ _ _ _ _ _ _ _ _ _ _ _ _ _ _
      | exact ih3 _ _ _ _ _ _ _ _ _ _ _ _ _ _ _
      | exact ih4 _ _ _ _ _ _ _ _ _ _ _ _ _ _ _
      | exact fit_Why.mono _ _ _ _ _ _ _ _ _ _ _ _ _ _ _ _ _
      | exact joinerylaw5_known.mono _
      | exact LeO.none _
      | refine LeO.ite ?_ ?_
      | refine LeO.bind ?_ (fun _ => ?_)
    · intro y0 y1 y2 y3 y4 y5 y6 y7 y8 y9 y10 y11 y12 y13 y14
      unfold joinerylaw5_FitFirst.j2
      repeat' first
      | (with_reducible exact ih0 _ _ _ _ _ _ _ _ _ _ _ _ _)
      | (with_reducible exact ih1 _ _ _ _ _ _ _ _ _ _ _ _ _ _)
      | (with_reducible exact ih2 _ _ _ _ _ _ _ _ _ _ _ _ _ _ _)
      | (with_reducible exact ih3 _ _ _ _ _ _ _ _ _ _ _ _ _ _ _)
      | (with_reducible exact ih4 _ _ _ _ _ _ _ _ _ _ _ _ _ _ _)
      | (with_reducible exact fit_Why.mono _ _ _ _ _ _ _ _ _ _ _ _ _ _ _ _ _)
      | (with_reducible exact joinerylaw5_known.mono _)
      | (with_reducible exact LeO.refl _)
      | (with_reducible exact LeO.none _)
      | (with_reducible refine LeO.ite ?_ ?_)
      | (with_reducible refine LeO.bind ?_ (fun _ => ?_))
      | exact ih0 _ _ _ _ _ _ _ _ _ _ _ _ _
      | exact ih1 _ _ _ _ _ _ _ _ _ _ _ _ _ _
      | exact ih2 _ _ _ _ _ _ _ _ _ _ _ _ _ _ _
      | exact ih3 _ _ _ _ _ _ _ _ _ _ _ _ _ _ _
      | exact ih4 _ _ _ _ _ _ _ _ _ _ _ _ _ _ _
      | exact fit_Why.mono _ _ _ _ _ _ _ _ _ _ _ _ _ _ _ _ _
      | exact joinerylaw5_known.mono _
      | exact LeO.none _
      | refine LeO.ite ?_ ?_
      | refine LeO.bind ?_ (fun _ => ?_)
    · intro y0 y1 y2 y3 y4 y5 y6 y7 y8 y9 y10 y11 y12 y13 y14
      unfold joinerylaw5_FitFirst.j3
      repeat' first
      | (with_reducible exact ih0 _ _ _ _ _ _ _ _ _ _ _ _ _)
      | (with_reducible exact ih1 _ _ _ _ _ _ _ _ _ _ _ _ _ _)
      | (with_reducible exact ih2 _ _ _ _ _ _ _ _ _ _ _ _ _ _ _)
      | (with_reducible exact ih3 _ _ _ _ _ _ _ _ _ _ _ _ _ _ _)
      | (with_reducible exact ih4 _ _ _ _ _ _ _ _ _ _ _ _ _ _ _)
      | (with_reducible exact fit_Why.mono _ _ _ _ _ _ _ _ _ _ _ _ _ _ _ _ _)
      | (with_reducible exact joinerylaw5_known.mono _)
      | (with_reducible exact LeO.refl _)
      | (with_reducible exact LeO.none _)
      | (with_reducible refine LeO.ite ?_ ?_)
      | (with_reducible refine LeO.bind ?_ (fun _ => ?_))
      | exact ih0 _ _ _ _ _ _ _ _ _ _ _ _ _
      | exact ih1 _ _ _ _ _ _ _ _ _ _ _ _ _ _
      | exact ih2 _ _ _ _ _ _ _ _ _ _ _ _ _ _ _
      | exact ih3 _ _ _ _ _ _ _ _ _ _ _ _ _ _ _
      | exact ih4 _ _ _ _ _ _ _ _ _ _ _ _ _ _ _
      | exact fit_Why.mono _ _ _ _ _ _ _ _ _ _ _ _ _ _ _ _ _
      | exact joinerylaw5_known.mono _
      | exact LeO.none _
      | refine LeO.ite ?_ ?_
      | refine LeO.bind ?_ (fun _ => ?_)
    · intro y0 y1 y2 y3 y4 y5 y6 y7 y8 y9 y10 y11 y12 y13 y14
      unfold joinerylaw5_FitFirst.j4
      repeat' first
      | (with_reducible exact ih0 _ _ _ _ _ _ _ _ _ _ _ _ _)
      | (with_reducible exact ih1 _ _ _ _ _ _ _ _ _ _ _ _ _ _)
      | (with_reducible exact ih2 _ _ _ _ _ _ _ _ _ _ _ _ _ _ _)
      | (with_reducible exact ih3 _ _ _ _ _ _ _ _ _ _ _ _ _ _ _)
      | (with_reducible exact ih4 _ _ _ _ _ _ _ _ _ _ _ _ _ _ _)
      | (with_reducible exact fit_Why.mono _ _ _ _ _ _ _ _ _ _ _ _ _ _ _ _ _)
      | (with_reducible exact joinerylaw5_known.mono _)
      | (with_reducible exact LeO.refl _)
      | (with_reducible exact LeO.none _)
      | (with_reducible refine LeO.ite ?_ ?_)
      | (with_reducible refine LeO.bind ?_ (fun _ => ?_))
      | exact ih0 _ _ _ _ _ _ _ _ _ _ _ _ _
      | exact ih1 _ _ _ _ _ _ _ _ _ _ _ _ _ _
      | exact ih2 _ _ _ _ _ _ _ _ _ _ _ _ _ _ _
      | exact ih3 _ _ _ _ _ _ _ _ _ _ _ _ _ _ _
      | exact ih4 _ _ _ _ _ _ _ _ _ _ _ _ _ _ _
      | exact fit_Why.mono _ _ _ _ _ _ _ _ _ _ _ _ _ _ _ _ _
      | exact joinerylaw5_known.mono _
      | exact LeO.none _
      | refine LeO.ite ?_ ?_
      | refine LeO.bind ?_ (fun _ => ?_)
theorem joinerylaw5_FitFirst.mono : ∀ a0 k, LeO (joinerylaw5_FitFirst.f k a0) (joinerylaw5_FitFirst.f (k + 1) a0) := by
  intro a0 k
  obtain ⟨ih0, ih1, ih2, ih3, ih4⟩ := joinerylaw5_FitFirst.mono_l k
  unfold joinerylaw5_FitFirst.f
  repeat' first
      | (with_reducible exact ih0 _ _ _ _ _ _ _ _ _ _ _ _ _)
      | (with_reducible exact ih1 _ _ _ _ _ _ _ _ _ _ _ _ _ _)
      | (with_reducible exact ih2 _ _ _ _ _ _ _ _ _ _ _ _ _ _ _)
      | (with_reducible exact ih3 _ _ _ _ _ _ _ _ _ _ _ _ _ _ _)
      | (with_reducible exact ih4 _ _ _ _ _ _ _ _ _ _ _ _ _ _ _)
      | (with_reducible exact fit_Why.mono _ _ _ _ _ _ _ _ _ _ _ _ _ _ _ _ _)
      | (with_reducible exact joinerylaw5_known.mono _)
      | (with_reducible exact LeO.refl _)
      | (with_reducible exact LeO.none _)
      | (with_reducible refine LeO.ite ?_ ?_)
      | (with_reducible refine LeO.bind ?_ (fun _ => ?_))
      | exact ih0 _ _ _ _ _ _ _ _ _ _ _ _ _
      | exact ih1 _ _ _ _ _ _ _ _ _ _ _ _ _ _
      | exact ih2 _ _ _ _ _ _ _ _ _ _ _ _ _ _ _
      | exact ih3 _ _ _ _ _ _ _ _ _ _ _ _ _ _ _
      | exact ih4 _ _ _ _ _ _ _ _ _ _ _ _ _ _ _
      | exact fit_Why.mono _ _ _ _ _ _ _ _ _ _ _ _ _ _ _ _ _
      | exact joinerylaw5_known.mono _
      | exact LeO.none _
      | refine LeO.ite ?_ ?_
      | refine LeO.bind ?_ (fun _ => ?_)
set_option maxHeartbeats 8000000 in
set_option maxRecDepth 100000 in
theorem joinerylaw5_FitFirst.calls (k : Nat) (a0 : Int) (r : Bool) (w : World) (hT_ : Aside0 (r = true)) (h : joinerylaw5_FitFirst.f k a0 = some r) :
    Calls Try.prog 9 #[.int .i64 a0] w fun e w' => e = .returned (.bool r) ∧ Below w.heap.size w w' := by
  have hu25 := Try.underlying25
  have hu28 := Try.underlying28
  have hu31 := Try.underlying31
  have hu41 := Try.underlying41
  have HB := Aside0.mk (Below.refl w.heap.size w)
  have H : ((joinerylaw5_known.f k).bind fun t179 => (if t179 = true then ((some (([(⟨#[98, 105, 103]⟩ : ByteArray)] : List ByteArray) : List ByteArray)).bind fun y180 => ((some (([(⟨#[119, 101, 115, 116]⟩ : ByteArray)] : List ByteArray) : List ByteArray)).bind fun y184 => ((some (([(⟨(⟨#[113]⟩ : ByteArray), (⟨#[110]⟩ : ByteArray), (⟨0, 0⟩ : S25), true⟩ : S41)] : List (S41)) : List (S41))).bind fun y188 => ((joinerylaw5_within.f a0 7).bind fun t191 => (if t191 > 0 then (joinerylaw5_FitFirst.j0 k y188 t191 (⟨#[112]⟩ : ByteArray) 0 3 0 y180 true (⟨#[110]⟩ : ByteArray) 2 0 y184 false) else (joinerylaw5_FitFirst.j0 k y188 t191 (⟨#[112]⟩ : ByteArray) 0 3 0 y180 true (⟨#[110]⟩ : ByteArray) 2 0 y184 true)))))) else (some false))) = some r := h
  clear h
  replace H := Option.bind_eq_some_iff.mp H
  obtain ⟨t179, A20, H⟩ := H
  replace H : (if t179 = true then ((some (([(⟨#[98, 105, 103]⟩ : ByteArray)] : List ByteArray) : List ByteArray)).bind fun y180 => ((some (([(⟨#[119, 101, 115, 116]⟩ : ByteArray)] : List ByteArray) : List ByteArray)).bind fun y184 => ((some (([(⟨(⟨#[113]⟩ : ByteArray), (⟨#[110]⟩ : ByteArray), (⟨0, 0⟩ : S25), true⟩ : S41)] : List (S41)) : List (S41))).bind fun y188 => ((joinerylaw5_within.f a0 7).bind fun t191 => (if t191 > 0 then (joinerylaw5_FitFirst.j0 k y188 t191 (⟨#[112]⟩ : ByteArray) 0 3 0 y180 true (⟨#[110]⟩ : ByteArray) 2 0 y184 false) else (joinerylaw5_FitFirst.j0 k y188 t191 (⟨#[112]⟩ : ByteArray) 0 3 0 y180 true (⟨#[110]⟩ : ByteArray) 2 0 y184 true)))))) else (some false)) = some r := H
  have A2 := Aside0.mk A20
  clear A20
  by_cases c3 : t179 = true
  · subst c3
    have H1 : ((some (([(⟨#[98, 105, 103]⟩ : ByteArray)] : List ByteArray) : List ByteArray)).bind fun y180 => ((some (([(⟨#[119, 101, 115, 116]⟩ : ByteArray)] : List ByteArray) : List ByteArray)).bind fun y184 => ((some (([(⟨(⟨#[113]⟩ : ByteArray), (⟨#[110]⟩ : ByteArray), (⟨0, 0⟩ : S25), true⟩ : S41)] : List (S41)) : List (S41))).bind fun y188 => ((joinerylaw5_within.f a0 7).bind fun t191 => (if t191 > 0 then (joinerylaw5_FitFirst.j0 k y188 t191 (⟨#[112]⟩ : ByteArray) 0 3 0 y180 true (⟨#[110]⟩ : ByteArray) 2 0 y184 false) else (joinerylaw5_FitFirst.j0 k y188 t191 (⟨#[112]⟩ : ByteArray) 0 3 0 y180 true (⟨#[110]⟩ : ByteArray) 2 0 y184 true)))))) = some r := by rw [if_pos rfl] at H; exact H
    clear H
    have H := H1
    clear H1
    obtain ⟨y180, hy180⟩ : ∃ y_ : List ByteArray, y_ = (([(⟨#[98, 105, 103]⟩ : ByteArray)] : List ByteArray)) := ⟨_, rfl⟩
    replace H : ((some (([(⟨#[119, 101, 115, 116]⟩ : ByteArray)] : List ByteArray) : List ByteArray)).bind fun y184 => ((some (([(⟨(⟨#[113]⟩ : ByteArray), (⟨#[110]⟩ : ByteArray), (⟨0, 0⟩ : S25), true⟩ : S41)] : List (S41)) : List (S41))).bind fun y188 => ((joinerylaw5_within.f a0 7).bind fun t191 => (if t191 > 0 then (joinerylaw5_FitFirst.j0 k y188 t191 (⟨#[112]⟩ : ByteArray) 0 3 0 y180 true (⟨#[110]⟩ : ByteArray) 2 0 y184 false) else (joinerylaw5_FitFirst.j0 k y188 t191 (⟨#[112]⟩ : ByteArray) 0 3 0 y180 true (⟨#[110]⟩ : ByteArray) 2 0 y184 true))))) = some r := by first | (rw [hy180]; with_reducible exact H) | (have H2_ := (Option.bind_some _ _).symm.trans H; rw [hy180]; with_reducible exact H2_) | (have H2_ := (Option.bind_some _ _).symm.trans H; with_reducible exact H2_) | with_reducible exact H | (rw [hy180]; exact H) | exact H
    have Ny180 := Aside0.mk hy180
    clear hy180
    obtain ⟨y184, hy184⟩ : ∃ y_ : List ByteArray, y_ = (([(⟨#[119, 101, 115, 116]⟩ : ByteArray)] : List ByteArray)) := ⟨_, rfl⟩
    replace H : ((some (([(⟨(⟨#[113]⟩ : ByteArray), (⟨#[110]⟩ : ByteArray), (⟨0, 0⟩ : S25), true⟩ : S41)] : List (S41)) : List (S41))).bind fun y188 => ((joinerylaw5_within.f a0 7).bind fun t191 => (if t191 > 0 then (joinerylaw5_FitFirst.j0 k y188 t191 (⟨#[112]⟩ : ByteArray) 0 3 0 y180 true (⟨#[110]⟩ : ByteArray) 2 0 y184 false) else (joinerylaw5_FitFirst.j0 k y188 t191 (⟨#[112]⟩ : ByteArray) 0 3 0 y180 true (⟨#[110]⟩ : ByteArray) 2 0 y184 true)))) = some r := by first | (rw [hy184]; with_reducible exact H) | (have H2_ := (Option.bind_some _ _).symm.trans H; rw [hy184]; with_reducible exact H2_) | (have H2_ := (Option.bind_some _ _).symm.trans H; with_reducible exact H2_) | with_reducible exact H | (rw [hy184]; exact H) | exact H
    have Ny184 := Aside0.mk hy184
    clear hy184
    obtain ⟨y188, hy188⟩ : ∃ y_ : List (S41), y_ = (([(⟨(⟨#[113]⟩ : ByteArray), (⟨#[110]⟩ : ByteArray), (⟨0, 0⟩ : S25), true⟩ : S41)] : List (S41))) := ⟨_, rfl⟩
    replace H : ((joinerylaw5_within.f a0 7).bind fun t191 => (if t191 > 0 then (joinerylaw5_FitFirst.j0 k y188 t191 (⟨#[112]⟩ : ByteArray) 0 3 0 y180 true (⟨#[110]⟩ : ByteArray) 2 0 y184 false) else (joinerylaw5_FitFirst.j0 k y188 t191 (⟨#[112]⟩ : ByteArray) 0 3 0 y180 true (⟨#[110]⟩ : ByteArray) 2 0 y184 true))) = some r := by first | (rw [hy188]; with_reducible exact H) | (have H2_ := (Option.bind_some _ _).symm.trans H; rw [hy188]; with_reducible exact H2_) | (have H2_ := (Option.bind_some _ _).symm.trans H; with_reducible exact H2_) | with_reducible exact H | (rw [hy188]; exact H) | exact H
    have Ny188 := Aside0.mk hy188
    clear hy188
    replace H := Option.bind_eq_some_iff.mp H
    obtain ⟨t191, A40, H⟩ := H
    replace H : (if t191 > 0 then (joinerylaw5_FitFirst.j0 k y188 t191 (⟨#[112]⟩ : ByteArray) 0 3 0 y180 true (⟨#[110]⟩ : ByteArray) 2 0 y184 false) else (joinerylaw5_FitFirst.j0 k y188 t191 (⟨#[112]⟩ : ByteArray) 0 3 0 y180 true (⟨#[110]⟩ : ByteArray) 2 0 y184 true)) = some r := H
    have A4 := Aside0.mk A40
    clear A40
    have HC5 := Aside0.mk H
    clear H
    go_enter Try.func9, Try.ntmps9
    go_upto_if 21 with (first | ((with_reducible refine gate_callee (f := 11) rfl ?_); refine goesL_ (some 8) rfl rfl Try.func11 (by kernel_rfl) rfl #[] rfl (by (try simp only [List.map_toArray, List.map_cons, List.map_nil]); first | done | rfl | (simp only [List.length_drop, List.length_take]; rfl)) ?_; (with_reducible refine (joinerylaw5_known.calls k  true _ A2.out).mono ?_); rintro e w6 ⟨rfl, hb⟩; refine ⟨_, rfl, ?_⟩; have n0_ := Aside0.mk (below_step (by repeat (first | (with_reducible first | exact HB.out | apply below_alloc | apply pw_below_drewN | apply below_drew1) | exact HB.out)) hb); clear HB; have HB := n0_; clear n0_; (try clear hb); (try clear hb2); (try clear hk); (try clear hi)) | ((with_reducible refine gate_dst (N := 11) rfl ?_); refine Kd.R_lit Kd.string _ 9 ?hg (N := 11) ?hd (xs := ([(⟨#[98, 105, 103]⟩ : ByteArray)] : List ByteArray)) (inner := [.string (⟨#[98, 105, 103]⟩ : ByteArray)]) (ok := fun _ => True) (okp := fun _ => True) ?hr ?hp (fun _ hk => hk) trivial (Below.refl _ _) (Nat.le_refl _) (by simp) ?_; (case hd => rfl); (case hg => rfl); (case hr => first | (go_simp; done) | (go_simp; rfl)); (case hp => exact (Reps.one (show Kd.M Kd.string _ _ _ (⟨#[98, 105, 103]⟩ : ByteArray) [.string (⟨#[98, 105, 103]⟩ : ByteArray)] from rfl) (Reps.none _ _))); intro v181 w7 ho8 hb hg_ hnew_; clear hg_ hnew_; (first | rw [← Ny180.out] at ho8 | (simp only [Int.reduceToNat] at ho8; rw [← Ny180.out] at ho8)); have n0_ := Aside0.mk (Kd.R_lower ho8 (below_size (by repeat (first | (with_reducible first | exact HB.out | apply below_alloc | apply pw_below_drewN | apply below_drew1) | exact HB.out)))); have n1_ := Aside0.mk (below_step (by repeat (first | (with_reducible first | exact HB.out | apply below_alloc | apply pw_below_drewN | apply below_drew1) | exact HB.out)) hb); clear HB; have HO182 := n0_; have HB := n1_; clear n0_ n1_; clear hb ho8; obtain ⟨Ao9, co9, eo9⟩ := Kd.R_slice HO182.out; subst eo9) | ((with_reducible refine gate_dst (N := 3) rfl ?_); refine box_event ?hg (N := 3) ?hd (cs := #[.string (⟨#[]⟩ : ByteArray), .int .i64 0, .int .i64 0, .int .i64 0, .slice none 0 0, .slice none 0 0, .bool false]) (t := 28) ?hr ?_; (case hd => rfl); (case hg => rfl); (case hr => first | (go_simp; done) | (go_simp; rfl)); intro gb183 hg w10 hbox hb; have n0_ := Aside0.mk (Kd.R_below (by (with_reducible repeat (first | apply Kd.R_alloc | apply Kd.R_drewN | apply Kd.R_drew)); exact HO182.out) hb); have n1_ := Aside0.mk (below_step (by repeat (first | (with_reducible first | exact HB.out | apply below_alloc | apply pw_below_drewN | apply below_drew1) | exact HB.out)) hb); have n2_ := Aside0.mk (hbox); have n3_ := Aside0.mk ((by rw [hg]; exact (below_size (by repeat (first | (with_reducible first | exact HB.out | apply below_alloc | apply pw_below_drewN | apply below_drew1) | exact HB.out))) : w.heap.size ≤ gb183)); have n4_ := Aside0.mk ((by rw [hg]; exact (below_size (by repeat (first | (with_reducible first | exact HB.out | apply below_alloc | apply pw_below_drewN | apply below_drew1) | exact HB.out))) : w.heap.size ≤ gb183)); clear HO182; clear HB; have HO182 := n0_; have HB := n1_; have BK183 := n2_; have GW183 := n3_; have GE183 := n4_; clear n0_ n1_ n2_ n3_ n4_; clear hb hbox hg; have hcz11_0 : w10.cell? ⟨gb183, 0, none⟩ = some (.string (⟨#[]⟩ : ByteArray)) := (blk_cell BK183.out 0).trans rfl; have hcz11_1 : w10.cell? ⟨gb183, 1, none⟩ = some (.int .i64 0) := (blk_cell BK183.out 1).trans rfl; have hcz11_2 : w10.cell? ⟨gb183, 2, none⟩ = some (.int .i64 0) := (blk_cell BK183.out 2).trans rfl; have hcz11_3 : w10.cell? ⟨gb183, 3, none⟩ = some (.int .i64 0) := (blk_cell BK183.out 3).trans rfl; have hcz11_4 : w10.cell? ⟨gb183, 4, none⟩ = some (.slice none 0 0) := (blk_cell BK183.out 4).trans rfl; have hcz11_5 : w10.cell? ⟨gb183, 5, none⟩ = some (.slice none 0 0) := (blk_cell BK183.out 5).trans rfl; have hcz11_6 : w10.cell? ⟨gb183, 6, none⟩ = some (.bool false) := (blk_cell BK183.out 6).trans rfl; have hfz11_0 := blk_frozen BK183.out 0; have hfz11_1 := blk_frozen BK183.out 1; have hfz11_2 := blk_frozen BK183.out 2; have hfz11_3 := blk_frozen BK183.out 3; have hfz11_4 := blk_frozen BK183.out 4; have hfz11_5 := blk_frozen BK183.out 5; have hfz11_6 := blk_frozen BK183.out 6) | ((with_reducible refine gate_dst (N := 14) rfl ?_); refine Kd.R_lit Kd.string _ 9 ?hg (N := 14) ?hd (xs := ([(⟨#[119, 101, 115, 116]⟩ : ByteArray)] : List ByteArray)) (inner := [.string (⟨#[119, 101, 115, 116]⟩ : ByteArray)]) (ok := fun _ => True) (okp := fun _ => True) ?hr ?hp (fun _ hk => hk) trivial (Below.refl _ _) (Nat.le_refl _) (by simp) ?_; (case hd => rfl); (case hg => rfl); (case hr => first | (go_simp; done) | (go_simp; rfl)); (case hp => exact (Reps.one (show Kd.M Kd.string _ _ _ (⟨#[119, 101, 115, 116]⟩ : ByteArray) [.string (⟨#[119, 101, 115, 116]⟩ : ByteArray)] from rfl) (Reps.none _ _))); intro v185 w12 ho13 hb hg_ hnew_; clear hg_ hnew_; (first | rw [← Ny184.out] at ho13 | (simp only [Int.reduceToNat] at ho13; rw [← Ny184.out] at ho13)); have n0_ := Aside0.mk (Kd.R_elder' (by (with_reducible repeat (first | apply Kd.R_alloc | apply Kd.R_drewN | apply Kd.R_drew)); exact (Kd.R_mono (Kd.R_far (p := ⟨gb183, 6, none⟩) (Kd.R_far (p := ⟨gb183, 5, none⟩) (Kd.R_far (p := ⟨gb183, 4, none⟩) (Kd.R_far (p := ⟨gb183, 3, none⟩) (Kd.R_far (p := ⟨gb183, 2, none⟩) (Kd.R_far (p := ⟨gb183, 1, none⟩) (Kd.R_far (p := ⟨gb183, 0, none⟩) (Kd.R_types HO182.out BK183.out (by decide)) (fun _ hk => hk.2) (.string (⟨#[112]⟩ : ByteArray))) (fun _ hk => hk.2) (.int .i64 0)) (fun _ hk => hk.2) (.int .i64 3)) (fun _ hk => hk.2) (.int .i64 0)) (fun _ hk => hk.2) (.slice Ao9 y180.length co9)) (fun _ hk => hk.2) (.slice none 0 0)) (fun _ hk => hk.2) (.bool true)) (fun _ h_ => h_.1))) (Kd.R_base ho13) hb); have n1_ := Aside0.mk (Kd.R_lower (Kd.R_new' ho13 (Kd.R_lt (by (with_reducible repeat (first | apply Kd.R_alloc | apply Kd.R_drewN | apply Kd.R_drew)); exact (Kd.R_mono (Kd.R_far (p := ⟨gb183, 6, none⟩) (Kd.R_far (p := ⟨gb183, 5, none⟩) (Kd.R_far (p := ⟨gb183, 4, none⟩) (Kd.R_far (p := ⟨gb183, 3, none⟩) (Kd.R_far (p := ⟨gb183, 2, none⟩) (Kd.R_far (p := ⟨gb183, 1, none⟩) (Kd.R_far (p := ⟨gb183, 0, none⟩) (Kd.R_types HO182.out BK183.out (by decide)) (fun _ hk => hk.2) (.string (⟨#[112]⟩ : ByteArray))) (fun _ hk => hk.2) (.int .i64 0)) (fun _ hk => hk.2) (.int .i64 3)) (fun _ hk => hk.2) (.int .i64 0)) (fun _ hk => hk.2) (.slice Ao9 y180.length co9)) (fun _ hk => hk.2) (.slice none 0 0)) (fun _ hk => hk.2) (.bool true)) (fun _ h_ => h_.1))))) (below_size (by repeat (first | (with_reducible first | exact HB.out | apply below_alloc | apply pw_below_drewN | apply below_drew1 | refine below_set ?_ GE183.out) | exact HB.out)))); have n2_ := Aside0.mk (blk_below (g := gb183) (o := .cells #[.string (⟨#[112]⟩ : ByteArray), .int .i64 0, .int .i64 3, .int .i64 0, .slice Ao9 y180.length co9, .slice none 0 0, .bool true] 28 (0, 0)) (by (with_reducible repeat (first | refine blk_drewN ?_ _ | refine blk_drew ?_ | refine blk_alloc ?_ _)); refine blk_put (cs := #[.string (⟨#[112]⟩ : ByteArray), .int .i64 0, .int .i64 3, .int .i64 0, .slice Ao9 y180.length co9, .slice none 0 0, .bool false]) ?_ 6 _ rfl; (with_reducible repeat (first | refine blk_drewN ?_ _ | refine blk_drew ?_ | refine blk_alloc ?_ _)); refine blk_put (cs := #[.string (⟨#[112]⟩ : ByteArray), .int .i64 0, .int .i64 3, .int .i64 0, .slice Ao9 y180.length co9, .slice none 0 0, .bool false]) ?_ 5 _ rfl; (with_reducible repeat (first | refine blk_drewN ?_ _ | refine blk_drew ?_ | refine blk_alloc ?_ _)); refine blk_put (cs := #[.string (⟨#[112]⟩ : ByteArray), .int .i64 0, .int .i64 3, .int .i64 0, .slice none 0 0, .slice none 0 0, .bool false]) ?_ 4 _ rfl; (with_reducible repeat (first | refine blk_drewN ?_ _ | refine blk_drew ?_ | refine blk_alloc ?_ _)); refine blk_put (cs := #[.string (⟨#[112]⟩ : ByteArray), .int .i64 0, .int .i64 3, .int .i64 0, .slice none 0 0, .slice none 0 0, .bool false]) ?_ 3 _ rfl; (with_reducible repeat (first | refine blk_drewN ?_ _ | refine blk_drew ?_ | refine blk_alloc ?_ _)); refine blk_put (cs := #[.string (⟨#[112]⟩ : ByteArray), .int .i64 0, .int .i64 0, .int .i64 0, .slice none 0 0, .slice none 0 0, .bool false]) ?_ 2 _ rfl; (with_reducible repeat (first | refine blk_drewN ?_ _ | refine blk_drew ?_ | refine blk_alloc ?_ _)); refine blk_put (cs := #[.string (⟨#[112]⟩ : ByteArray), .int .i64 0, .int .i64 0, .int .i64 0, .slice none 0 0, .slice none 0 0, .bool false]) ?_ 1 _ rfl; (with_reducible repeat (first | refine blk_drewN ?_ _ | refine blk_drew ?_ | refine blk_alloc ?_ _)); refine blk_put (cs := #[.string (⟨#[]⟩ : ByteArray), .int .i64 0, .int .i64 0, .int .i64 0, .slice none 0 0, .slice none 0 0, .bool false]) ?_ 0 _ rfl; (with_reducible repeat (first | refine blk_drewN ?_ _ | refine blk_drew ?_ | refine blk_alloc ?_ _)); exact BK183.out) hb); have n3_ := Aside0.mk (below_step (by repeat (first | (with_reducible first | exact HB.out | apply below_alloc | apply pw_below_drewN | apply below_drew1 | refine below_set ?_ GE183.out) | exact HB.out)) hb); clear HO182; clear BK183; clear HB; have HO182 := n0_; have HO186 := n1_; have BK183 := n2_; have HB := n3_; clear n0_ n1_ n2_ n3_; clear hb ho13; obtain ⟨Ao14, co14, eo14⟩ := Kd.R_slice HO186.out; subst eo14) | ((with_reducible refine gate_dst (N := 4) rfl ?_); refine box_event ?hg (N := 4) ?hd (cs := #[.string (⟨#[]⟩ : ByteArray), .int .i64 0, .int .i64 0, .slice none 0 0, .slice none 0 0, .bool false]) (t := 31) ?hr ?_; (case hd => rfl); (case hg => rfl); (case hr => first | (go_simp; done) | (go_simp; rfl)); intro gb187 hg w15 hbox hb; have n0_ := Aside0.mk (Kd.R_below (by (with_reducible repeat (first | apply Kd.R_alloc | apply Kd.R_drewN | apply Kd.R_drew)); exact HO182.out) hb); have n1_ := Aside0.mk (Kd.R_below (by (with_reducible repeat (first | apply Kd.R_alloc | apply Kd.R_drewN | apply Kd.R_drew)); exact HO186.out) hb); have n2_ := Aside0.mk (blk_below (g := gb183) (o := .cells #[.string (⟨#[112]⟩ : ByteArray), .int .i64 0, .int .i64 3, .int .i64 0, .slice Ao9 y180.length co9, .slice none 0 0, .bool true] 28 (0, 0)) (by (with_reducible repeat (first | refine blk_drewN ?_ _ | refine blk_drew ?_ | refine blk_alloc ?_ _)); exact BK183.out) hb); have n3_ := Aside0.mk (below_step (by repeat (first | (with_reducible first | exact HB.out | apply below_alloc | apply pw_below_drewN | apply below_drew1 | refine below_set ?_ GE183.out) | exact HB.out)) hb); have n4_ := Aside0.mk (hbox); have n5_ := Aside0.mk ((by rw [hg]; exact (below_size (by repeat (first | (with_reducible first | exact HB.out | apply below_alloc | apply pw_below_drewN | apply below_drew1 | refine below_set ?_ GE183.out) | exact HB.out))) : w.heap.size ≤ gb187)); have n6_ := Aside0.mk ((by rw [hg]; exact (below_size (by repeat (first | (with_reducible first | exact HB.out | apply below_alloc | apply pw_below_drewN | apply below_drew1 | refine below_set ?_ GE183.out) | exact HB.out))) : w.heap.size ≤ gb187)); have n7_ := Aside0.mk ((by rw [hg]; exact Nat.ne_of_lt (blk_lt (g := gb183) (o := .cells #[.string (⟨#[112]⟩ : ByteArray), .int .i64 0, .int .i64 3, .int .i64 0, .slice Ao9 y180.length co9, .slice none 0 0, .bool true] 28 (0, 0)) (by (with_reducible repeat (first | refine blk_drewN ?_ _ | refine blk_drew ?_ | refine blk_alloc ?_ _)); exact BK183.out)) : gb183 ≠ gb187)); have n8_ := Aside0.mk ((by rw [hg]; exact Nat.ne_of_gt (blk_lt (g := gb183) (o := .cells #[.string (⟨#[112]⟩ : ByteArray), .int .i64 0, .int .i64 3, .int .i64 0, .slice Ao9 y180.length co9, .slice none 0 0, .bool true] 28 (0, 0)) (by (with_reducible repeat (first | refine blk_drewN ?_ _ | refine blk_drew ?_ | refine blk_alloc ?_ _)); exact BK183.out)) : gb187 ≠ gb183)); clear HO182; clear HO186; clear BK183; clear HB; have HO182 := n0_; have HO186 := n1_; have BK183 := n2_; have HB := n3_; have BK187 := n4_; have GW187 := n5_; have GE187 := n6_; have NB183_187 := n7_; have NB187_183 := n8_; clear n0_ n1_ n2_ n3_ n4_ n5_ n6_ n7_ n8_; clear hb hbox hg; have hnb16 := NB187_183.out; have hnc16 := NB183_187.out; have hcz17_0 : w15.cell? ⟨gb187, 0, none⟩ = some (.string (⟨#[]⟩ : ByteArray)) := (blk_cell BK187.out 0).trans rfl; have hcz17_1 : w15.cell? ⟨gb187, 1, none⟩ = some (.int .i64 0) := (blk_cell BK187.out 1).trans rfl; have hcz17_2 : w15.cell? ⟨gb187, 2, none⟩ = some (.int .i64 0) := (blk_cell BK187.out 2).trans rfl; have hcz17_3 : w15.cell? ⟨gb187, 3, none⟩ = some (.slice none 0 0) := (blk_cell BK187.out 3).trans rfl; have hcz17_4 : w15.cell? ⟨gb187, 4, none⟩ = some (.slice none 0 0) := (blk_cell BK187.out 4).trans rfl; have hcz17_5 : w15.cell? ⟨gb187, 5, none⟩ = some (.bool false) := (blk_cell BK187.out 5).trans rfl; have hfz17_0 := blk_frozen BK187.out 0; have hfz17_1 := blk_frozen BK187.out 1; have hfz17_2 := blk_frozen BK187.out 2; have hfz17_3 := blk_frozen BK187.out 3; have hfz17_4 := blk_frozen BK187.out 4; have hfz17_5 := blk_frozen BK187.out 5) | ((with_reducible refine gate_dst (N := 17) rfl ?_); refine Kd.R_lit k41 _ 41 ?hg (N := 17) ?hd (xs := ([(⟨(⟨#[113]⟩ : ByteArray), (⟨#[110]⟩ : ByteArray), (⟨0, 0⟩ : S25), true⟩ : S41)] : List (S41))) (inner := [.string (⟨#[113]⟩ : ByteArray), .string (⟨#[110]⟩ : ByteArray), .int .i64 0, .int .i64 0, .bool true]) (ok := fun _ => True) (okp := fun _ => True) ?hr ?hp (fun _ hk => hk) trivial (Below.refl _ _) (Nat.le_refl _) (by simp) ?_; (case hd => rfl); (case hg => rfl); (case hr => first | (go_simp; done) | (go_simp; rfl)); (case hp => exact (Reps.c5 (show Kd.M k41 _ _ _ (⟨(⟨#[113]⟩ : ByteArray), (⟨#[110]⟩ : ByteArray), (⟨0, 0⟩ : S25), true⟩ : S41) [.string (⟨#[113]⟩ : ByteArray), .string (⟨#[110]⟩ : ByteArray), .int .i64 0, .int .i64 0, .bool true] from (k41_mkM _ _ _ (⟨(⟨#[113]⟩ : ByteArray), (⟨#[110]⟩ : ByteArray), (⟨0, 0⟩ : S25), true⟩ : S41) )) (Reps.none _ _))); intro v189 w18 ho19 hb hg_ hnew_; clear hg_ hnew_; (first | rw [← Ny188.out] at ho19 | (simp only [Int.reduceToNat] at ho19; rw [← Ny188.out] at ho19)); have n0_ := Aside0.mk (Kd.R_below (by (with_reducible repeat (first | apply Kd.R_alloc | apply Kd.R_drewN | apply Kd.R_drew)); exact (Kd.R_mono (Kd.R_far (p := ⟨gb187, 5, none⟩) (Kd.R_far (p := ⟨gb187, 4, none⟩) (Kd.R_far (p := ⟨gb187, 3, none⟩) (Kd.R_far (p := ⟨gb187, 2, none⟩) (Kd.R_far (p := ⟨gb187, 1, none⟩) (Kd.R_far (p := ⟨gb187, 0, none⟩) (Kd.R_types HO182.out BK187.out (by decide)) (fun _ hk => hk.2) (.string (⟨#[110]⟩ : ByteArray))) (fun _ hk => hk.2) (.int .i64 2)) (fun _ hk => hk.2) (.int .i64 0)) (fun _ hk => hk.2) (.slice none 0 0)) (fun _ hk => hk.2) (.slice Ao14 y184.length co14)) (fun _ hk => hk.2) (.bool true)) (fun _ h_ => h_.1))) hb); have n1_ := Aside0.mk (Kd.R_below (by (with_reducible repeat (first | apply Kd.R_alloc | apply Kd.R_drewN | apply Kd.R_drew)); exact (Kd.R_mono (Kd.R_far (p := ⟨gb187, 5, none⟩) (Kd.R_far (p := ⟨gb187, 4, none⟩) (Kd.R_far (p := ⟨gb187, 3, none⟩) (Kd.R_far (p := ⟨gb187, 2, none⟩) (Kd.R_far (p := ⟨gb187, 1, none⟩) (Kd.R_far (p := ⟨gb187, 0, none⟩) (Kd.R_types HO186.out BK187.out (by decide)) (fun _ hk => hk.2) (.string (⟨#[110]⟩ : ByteArray))) (fun _ hk => hk.2) (.int .i64 2)) (fun _ hk => hk.2) (.int .i64 0)) (fun _ hk => hk.2) (.slice none 0 0)) (fun _ hk => hk.2) (.slice Ao14 y184.length co14)) (fun _ hk => hk.2) (.bool true)) (fun _ h_ => h_.1))) hb); have n2_ := Aside0.mk (Kd.R_lower ho19 (below_size (by repeat (first | (with_reducible first | exact HB.out | apply below_alloc | apply pw_below_drewN | apply below_drew1 | refine below_set ?_ GE183.out | refine below_set ?_ GE187.out) | exact HB.out)))); have n3_ := Aside0.mk (blk_below (g := gb183) (o := .cells #[.string (⟨#[112]⟩ : ByteArray), .int .i64 0, .int .i64 3, .int .i64 0, .slice Ao9 y180.length co9, .slice none 0 0, .bool true] 28 (0, 0)) (by (with_reducible repeat (first | refine blk_drewN ?_ _ | refine blk_drew ?_ | refine blk_alloc ?_ _)); refine blk_far ?_ NB183_187.out _; (with_reducible repeat (first | refine blk_drewN ?_ _ | refine blk_drew ?_ | refine blk_alloc ?_ _)); refine blk_far ?_ NB183_187.out _; (with_reducible repeat (first | refine blk_drewN ?_ _ | refine blk_drew ?_ | refine blk_alloc ?_ _)); refine blk_far ?_ NB183_187.out _; (with_reducible repeat (first | refine blk_drewN ?_ _ | refine blk_drew ?_ | refine blk_alloc ?_ _)); refine blk_far ?_ NB183_187.out _; (with_reducible repeat (first | refine blk_drewN ?_ _ | refine blk_drew ?_ | refine blk_alloc ?_ _)); refine blk_far ?_ NB183_187.out _; (with_reducible repeat (first | refine blk_drewN ?_ _ | refine blk_drew ?_ | refine blk_alloc ?_ _)); refine blk_far ?_ NB183_187.out _; (with_reducible repeat (first | refine blk_drewN ?_ _ | refine blk_drew ?_ | refine blk_alloc ?_ _)); exact BK183.out) hb); have n4_ := Aside0.mk (blk_below (g := gb187) (o := .cells #[.string (⟨#[110]⟩ : ByteArray), .int .i64 2, .int .i64 0, .slice none 0 0, .slice Ao14 y184.length co14, .bool true] 31 (0, 0)) (by (with_reducible repeat (first | refine blk_drewN ?_ _ | refine blk_drew ?_ | refine blk_alloc ?_ _)); refine blk_put (cs := #[.string (⟨#[110]⟩ : ByteArray), .int .i64 2, .int .i64 0, .slice none 0 0, .slice Ao14 y184.length co14, .bool false]) ?_ 5 _ rfl; (with_reducible repeat (first | refine blk_drewN ?_ _ | refine blk_drew ?_ | refine blk_alloc ?_ _)); refine blk_put (cs := #[.string (⟨#[110]⟩ : ByteArray), .int .i64 2, .int .i64 0, .slice none 0 0, .slice none 0 0, .bool false]) ?_ 4 _ rfl; (with_reducible repeat (first | refine blk_drewN ?_ _ | refine blk_drew ?_ | refine blk_alloc ?_ _)); refine blk_put (cs := #[.string (⟨#[110]⟩ : ByteArray), .int .i64 2, .int .i64 0, .slice none 0 0, .slice none 0 0, .bool false]) ?_ 3 _ rfl; (with_reducible repeat (first | refine blk_drewN ?_ _ | refine blk_drew ?_ | refine blk_alloc ?_ _)); refine blk_put (cs := #[.string (⟨#[110]⟩ : ByteArray), .int .i64 2, .int .i64 0, .slice none 0 0, .slice none 0 0, .bool false]) ?_ 2 _ rfl; (with_reducible repeat (first | refine blk_drewN ?_ _ | refine blk_drew ?_ | refine blk_alloc ?_ _)); refine blk_put (cs := #[.string (⟨#[110]⟩ : ByteArray), .int .i64 0, .int .i64 0, .slice none 0 0, .slice none 0 0, .bool false]) ?_ 1 _ rfl; (with_reducible repeat (first | refine blk_drewN ?_ _ | refine blk_drew ?_ | refine blk_alloc ?_ _)); refine blk_put (cs := #[.string (⟨#[]⟩ : ByteArray), .int .i64 0, .int .i64 0, .slice none 0 0, .slice none 0 0, .bool false]) ?_ 0 _ rfl; (with_reducible repeat (first | refine blk_drewN ?_ _ | refine blk_drew ?_ | refine blk_alloc ?_ _)); exact BK187.out) hb); have n5_ := Aside0.mk (below_step (by repeat (first | (with_reducible first | exact HB.out | apply below_alloc | apply pw_below_drewN | apply below_drew1 | refine below_set ?_ GE183.out | refine below_set ?_ GE187.out) | exact HB.out)) hb); clear HO182; clear HO186; clear BK183; clear BK187; clear HB; have HO182 := n0_; have HO186 := n1_; have HO190 := n2_; have BK183 := n3_; have BK187 := n4_; have HB := n5_; clear n0_ n1_ n2_ n3_ n4_ n5_; clear hb ho19) | ((with_reducible refine gate_callee (f := 14) rfl ?_); refine goesL_ (some 19) rfl rfl Try.func14 (by kernel_rfl) rfl #[.int .i64 a0, .int .i64 7] rfl (by (try simp only [List.map_toArray, List.map_cons, List.map_nil]); first | done | rfl | (simp only [List.length_drop, List.length_take]; rfl)) ?_; (with_reducible refine (joinerylaw5_within.calls a0 7 t191 _ A4.out).mono ?_); rintro e w' ⟨rfl, ⟨nd, rfl⟩⟩; refine ⟨_, rfl, ?_⟩))
    (try simp only [Act.put, List.setIfInBounds_toArray, List.set_cons_zero, List.set_cons_succ])
    go_cut [] (fun wc => ∃ (kq : Nat) (x188005_4 : Bool), Aside0 (joinerylaw5_FitFirst.j0 kq y188 t191 (⟨#[112]⟩ : ByteArray) 0 3 0 y180 true (⟨#[110]⟩ : ByteArray) 2 0 y184 x188005_4 = some r) ∧ Aside0 (kq ≤ k) ∧ Aside0 (Kd.R k41 41 wc w.heap.size (fun _ => True) v189 y188) ∧ Aside0 (Kd.R Kd.string 9 wc w.heap.size (fun k_ => some k_ ≠ ((.slice Ao14 y184.length co14) : Value).ownBlock) (.slice Ao9 y180.length co9) y180) ∧ Aside0 (Kd.R Kd.string 9 wc w.heap.size (fun k_ => some k_ ≠ ((.slice Ao9 y180.length co9) : Value).ownBlock) (.slice Ao14 y184.length co14) y184) ∧ Aside0 (wc.heap[gb183]? = some (.cells #[.string (⟨#[112]⟩ : ByteArray), .int .i64 0, .int .i64 3, .int .i64 0, (.slice Ao9 y180.length co9), (.slice none 0 0), .bool true] 28 (0, 0))) ∧ Aside0 (wc.heap[gb187]? = some (.cells #[.string (⟨#[110]⟩ : ByteArray), .int .i64 2, .int .i64 0, (.slice none 0 0), (.slice Ao14 y184.length co14), .bool x188005_4] 31 (0, 0))) ∧ Aside0 (Below w.heap.size w wc))
    case first =>
      have H := HC5.out
      clear HC5
      by_cases c20 : t191 > 0
      · rw [if_pos c20] at H
        have c20b0 : decide (0 < t191) = true := decide_eq_true c20
        clear c20
        (first | rw [c20b0] | (simp only [i64_w, i32_w]; rw [c20b0]) | skip)
        have H' := Aside0.mk H
        clear H
        have hnb21 := NB187_183.out
        have hnc21 := NB183_187.out
        have hcz22_0 : w18.cell? ⟨gb187, 0, none⟩ = some (.string (⟨#[110]⟩ : ByteArray)) := (blk_cell BK187.out 0).trans rfl
        have hcz22_1 : w18.cell? ⟨gb187, 1, none⟩ = some (.int .i64 2) := (blk_cell BK187.out 1).trans rfl
        have hcz22_2 : w18.cell? ⟨gb187, 2, none⟩ = some (.int .i64 0) := (blk_cell BK187.out 2).trans rfl
        have hcz22_3 : w18.cell? ⟨gb187, 3, none⟩ = some (.slice none 0 0) := (blk_cell BK187.out 3).trans rfl
        have hcz22_4 : w18.cell? ⟨gb187, 4, none⟩ = some (.slice Ao14 y184.length co14) := (blk_cell BK187.out 4).trans rfl
        have hcz22_5 : w18.cell? ⟨gb187, 5, none⟩ = some (.bool true) := (blk_cell BK187.out 5).trans rfl
        have hfz22_0 := blk_frozen BK187.out 0
        have hfz22_1 := blk_frozen BK187.out 1
        have hfz22_2 := blk_frozen BK187.out 2
        have hfz22_3 := blk_frozen BK187.out 3
        have hfz22_4 := blk_frozen BK187.out 4
        have hfz22_5 := blk_frozen BK187.out 5
        go_wp2
        go_meet
        case rel => exact ⟨_, (false), H', ⟨by first | omega | exact Nat.le_refl _⟩, ⟨by (with_reducible repeat (first | apply Kd.R_alloc | apply Kd.R_drewN | apply Kd.R_drew)); exact Kd.R_mono (Kd.R_far (p := ⟨gb187, 5, none⟩) (Kd.R_types HO190.out BK187.out (by decide)) (fun _ hk => hk.2) (.bool false)) (fun _ hk => trivial)⟩, ⟨by (with_reducible repeat (first | apply Kd.R_alloc | apply Kd.R_drewN | apply Kd.R_drew)); exact Kd.R_mono (Kd.R_far (p := ⟨gb187, 5, none⟩) (Kd.R_types HO182.out BK187.out (by decide)) (fun _ hk => hk.2) (.bool false)) (fun _ hk => hk.1.2)⟩, ⟨by (with_reducible repeat (first | apply Kd.R_alloc | apply Kd.R_drewN | apply Kd.R_drew)); exact Kd.R_mono (Kd.R_far (p := ⟨gb187, 5, none⟩) (Kd.R_types HO186.out BK187.out (by decide)) (fun _ hk => hk.2) (.bool false)) (fun _ hk => hk.1.2)⟩, ⟨by (with_reducible repeat (first | refine blk_drewN ?_ _ | refine blk_drew ?_ | refine blk_alloc ?_ _)); refine blk_far ?_ NB183_187.out _; (with_reducible repeat (first | refine blk_drewN ?_ _ | refine blk_drew ?_ | refine blk_alloc ?_ _)); exact BK183.out⟩, ⟨by (with_reducible repeat (first | refine blk_drewN ?_ _ | refine blk_drew ?_ | refine blk_alloc ?_ _)); refine blk_put (cs := #[.string (⟨#[110]⟩ : ByteArray), .int .i64 2, .int .i64 0, .slice none 0 0, .slice Ao14 y184.length co14, .bool true]) ?_ 5 _ rfl; (with_reducible repeat (first | refine blk_drewN ?_ _ | refine blk_drew ?_ | refine blk_alloc ?_ _)); exact BK187.out⟩, ⟨by repeat (first | (with_reducible first | exact HB.out | apply below_alloc | apply pw_below_drewN | apply below_drew1 | refine below_set ?_ GE183.out | refine below_set ?_ GE187.out) | exact HB.out)⟩⟩
      · rw [if_neg c20] at H
        have c20b0 : decide (0 < t191) = false := decide_eq_false c20
        clear c20
        (first | rw [c20b0] | (simp only [i64_w, i32_w]; rw [c20b0]) | skip)
        have H' := Aside0.mk H
        clear H
        go_wp2
        go_meet
        case rel => exact ⟨_, (true), H', ⟨by first | omega | exact Nat.le_refl _⟩, ⟨by (with_reducible repeat (first | apply Kd.R_alloc | apply Kd.R_drewN | apply Kd.R_drew)); exact HO190.out⟩, ⟨by (with_reducible repeat (first | apply Kd.R_alloc | apply Kd.R_drewN | apply Kd.R_drew)); exact Kd.R_mono HO182.out (fun _ hk => hk.2)⟩, ⟨by (with_reducible repeat (first | apply Kd.R_alloc | apply Kd.R_drewN | apply Kd.R_drew)); exact Kd.R_mono HO186.out (fun _ hk => hk.2)⟩, ⟨by (with_reducible repeat (first | refine blk_drewN ?_ _ | refine blk_drew ?_ | refine blk_alloc ?_ _)); exact BK183.out⟩, ⟨by (with_reducible repeat (first | refine blk_drewN ?_ _ | refine blk_drew ?_ | refine blk_alloc ?_ _)); exact BK187.out⟩, ⟨by repeat (first | (with_reducible first | exact HB.out | apply below_alloc | apply pw_below_drewN | apply below_drew1 | refine below_set ?_ GE183.out | refine below_set ?_ GE187.out) | exact HB.out)⟩⟩
    case rest =>
      clear HC5
      try clear c1
      try clear c2
      try clear p2
      try clear c3
      try clear c5
      try clear c9
      try clear c11
      try clear c14
      try clear c16
      try clear c20
      try clear c20b0
      try clear c21
      try clear hcz11_0
      try clear hcz11_1
      try clear hcz11_2
      try clear hcz11_3
      try clear hcz11_4
      try clear hcz11_5
      try clear hcz11_6
      try clear hcz17_0
      try clear hcz17_1
      try clear hcz17_2
      try clear hcz17_3
      try clear hcz17_4
      try clear hcz17_5
      try clear hcz22_0
      try clear hcz22_1
      try clear hcz22_2
      try clear hcz22_3
      try clear hcz22_4
      try clear hcz22_5
      try clear hfz11_0
      try clear hfz11_1
      try clear hfz11_2
      try clear hfz11_3
      try clear hfz11_4
      try clear hfz11_5
      try clear hfz11_6
      try clear hfz17_0
      try clear hfz17_1
      try clear hfz17_2
      try clear hfz17_3
      try clear hfz17_4
      try clear hfz17_5
      try clear hfz22_0
      try clear hfz22_1
      try clear hfz22_2
      try clear hfz22_3
      try clear hfz22_4
      try clear hfz22_5
      obtain ⟨kq, x188005_4, HA, HJ4, HO_5, HO_184004, HO_188004, BK183, BK187, HB⟩ := hcut
      cases kq with
      | zero => exact absurd HA.out (by simp [joinerylaw5_FitFirst.j0])
      | succ kj4 =>
        have H := HA.out
        clear HA
        simp only [joinerylaw5_FitFirst.j0] at H
        have HC23 := Aside0.mk H
        clear H
        go_upto_if 24 with (fail)
        go_cut [] (fun wc => ∃ (kq : Nat) (x188003_22 : List ByteArray) (u188003 : Value), Aside0 (joinerylaw5_FitFirst.j1 kq y188 t191 (⟨#[112]⟩ : ByteArray) 0 3 0 y180 true (⟨#[110]⟩ : ByteArray) 2 0 x188003_22 y184 x188005_4 = some r) ∧ Aside0 (kq ≤ kj4) ∧ Aside0 (Kd.R k41 41 wc w.heap.size (fun _ => True) v189 y188) ∧ Aside0 (Kd.R Kd.string 9 wc w.heap.size (fun k_ => some k_ ≠ (u188003 : Value).ownBlock ∧ some k_ ≠ ((.slice Ao14 y184.length co14) : Value).ownBlock) (.slice Ao9 y180.length co9) y180) ∧ Aside0 (Kd.R Kd.string 9 wc w.heap.size (fun k_ => some k_ ≠ ((.slice Ao9 y180.length co9) : Value).ownBlock ∧ some k_ ≠ ((.slice Ao14 y184.length co14) : Value).ownBlock) u188003 x188003_22) ∧ Aside0 (Kd.R Kd.string 9 wc w.heap.size (fun k_ => some k_ ≠ ((.slice Ao9 y180.length co9) : Value).ownBlock ∧ some k_ ≠ (u188003 : Value).ownBlock) (.slice Ao14 y184.length co14) y184) ∧ Aside0 (wc.heap[gb183]? = some (.cells #[.string (⟨#[112]⟩ : ByteArray), .int .i64 0, .int .i64 3, .int .i64 0, (.slice Ao9 y180.length co9), (.slice none 0 0), .bool true] 28 (0, 0))) ∧ Aside0 (wc.heap[gb187]? = some (.cells #[.string (⟨#[110]⟩ : ByteArray), .int .i64 2, .int .i64 0, u188003, (.slice Ao14 y184.length co14), .bool x188005_4] 31 (0, 0))) ∧ Aside0 (Below w.heap.size w wc))
        case first =>
          have H := HC23.out
          clear HC23
          by_cases c24 : t191 > 1
          · rw [if_pos c24] at H
            have c24b0 : decide (1 < t191) = true := decide_eq_true c24
            clear c24
            (first | rw [c24b0] | (simp only [i64_w, i32_w]; rw [c24b0]) | skip)
            obtain ⟨y192, hy192⟩ : ∃ y_ : List ByteArray, y_ = (([(⟨#[98, 105, 103]⟩ : ByteArray)] : List ByteArray)) := ⟨_, rfl⟩
            replace H : (joinerylaw5_FitFirst.j1 kj4 y188 t191 (⟨#[112]⟩ : ByteArray) 0 3 0 y180 true (⟨#[110]⟩ : ByteArray) 2 0 y192 y184 x188005_4) = some r := by first | (rw [hy192]; with_reducible exact H) | (have H2_ := (Option.bind_some _ _).symm.trans H; rw [hy192]; with_reducible exact H2_) | (have H2_ := (Option.bind_some _ _).symm.trans H; with_reducible exact H2_) | with_reducible exact H | (rw [hy192]; exact H) | exact H
            have Ny192 := Aside0.mk hy192
            clear hy192
            have H' := Aside0.mk H
            clear H
            go_wp2_with (first | ((with_reducible refine gate_dst (N := 25) rfl ?_); refine Kd.R_lit Kd.string _ 9 ?hg (N := 25) ?hd (xs := ([(⟨#[98, 105, 103]⟩ : ByteArray)] : List ByteArray)) (inner := [.string (⟨#[98, 105, 103]⟩ : ByteArray)]) (ok := fun _ => True) (okp := fun _ => True) ?hr ?hp (fun _ hk => hk) trivial (Below.refl _ _) (Nat.le_refl _) (by simp) ?_; (case hd => rfl); (case hg => rfl); (case hr => first | (go_simp; done) | (go_simp; rfl)); (case hp => exact (Reps.one (show Kd.M Kd.string _ _ _ (⟨#[98, 105, 103]⟩ : ByteArray) [.string (⟨#[98, 105, 103]⟩ : ByteArray)] from rfl) (Reps.none _ _))); intro v193 w25 ho26 hb hg_ hnew_; clear hg_ hnew_; (first | rw [← Ny192.out] at ho26 | (simp only [Int.reduceToNat] at ho26; rw [← Ny192.out] at ho26)); have n0_ := Aside0.mk (Kd.R_below (by (with_reducible repeat (first | apply Kd.R_alloc | apply Kd.R_drewN | apply Kd.R_drew)); exact HO_5.out) hb); have n1_ := Aside0.mk (Kd.R_elder' (by (with_reducible repeat (first | apply Kd.R_alloc | apply Kd.R_drewN | apply Kd.R_drew)); exact HO_184004.out) (Kd.R_base ho26) hb); have n2_ := Aside0.mk (Kd.R_elder' (by (with_reducible repeat (first | apply Kd.R_alloc | apply Kd.R_drewN | apply Kd.R_drew)); exact HO_188004.out) (Kd.R_base ho26) hb); have n3_ := Aside0.mk (Kd.R_lower (Kd.R_new' (Kd.R_new' ho26 (Kd.R_lt (by (with_reducible repeat (first | apply Kd.R_alloc | apply Kd.R_drewN | apply Kd.R_drew)); exact HO_184004.out))) (Kd.R_lt (by (with_reducible repeat (first | apply Kd.R_alloc | apply Kd.R_drewN | apply Kd.R_drew)); exact HO_188004.out))) (below_size (by repeat (first | (with_reducible first | exact HB.out | apply below_alloc | apply pw_below_drewN | apply below_drew1 | refine below_set ?_ GE183.out | refine below_set ?_ GE187.out) | exact HB.out)))); have n4_ := Aside0.mk (blk_below (g := gb183) (o := .cells #[.string (⟨#[112]⟩ : ByteArray), .int .i64 0, .int .i64 3, .int .i64 0, .slice Ao9 y180.length co9, .slice none 0 0, .bool true] 28 (0, 0)) (by (with_reducible repeat (first | refine blk_drewN ?_ _ | refine blk_drew ?_ | refine blk_alloc ?_ _)); exact BK183.out) hb); have n5_ := Aside0.mk (blk_below (g := gb187) (o := .cells #[.string (⟨#[110]⟩ : ByteArray), .int .i64 2, .int .i64 0, .slice none 0 0, .slice Ao14 y184.length co14, .bool x188005_4] 31 (0, 0)) (by (with_reducible repeat (first | refine blk_drewN ?_ _ | refine blk_drew ?_ | refine blk_alloc ?_ _)); exact BK187.out) hb); have n6_ := Aside0.mk (below_step (by repeat (first | (with_reducible first | exact HB.out | apply below_alloc | apply pw_below_drewN | apply below_drew1 | refine below_set ?_ GE183.out | refine below_set ?_ GE187.out) | exact HB.out)) hb); clear HO_5; clear HO_184004; clear HO_188004; clear BK183; clear BK187; clear HB; have HO_5 := n0_; have HO_184004 := n1_; have HO_188004 := n2_; have HO194 := n3_; have BK183 := n4_; have BK187 := n5_; have HB := n6_; clear n0_ n1_ n2_ n3_ n4_ n5_ n6_; clear hb ho26; obtain ⟨Ao27, co27, eo27⟩ := Kd.R_slice HO194.out; subst eo27; have hnb28 := NB187_183.out; have hnc28 := NB183_187.out; have hcz29_0 : w25.cell? ⟨gb187, 0, none⟩ = some (.string (⟨#[110]⟩ : ByteArray)) := (blk_cell BK187.out 0).trans rfl; have hcz29_1 : w25.cell? ⟨gb187, 1, none⟩ = some (.int .i64 2) := (blk_cell BK187.out 1).trans rfl; have hcz29_2 : w25.cell? ⟨gb187, 2, none⟩ = some (.int .i64 0) := (blk_cell BK187.out 2).trans rfl; have hcz29_3 : w25.cell? ⟨gb187, 3, none⟩ = some (.slice none 0 0) := (blk_cell BK187.out 3).trans rfl; have hcz29_4 : w25.cell? ⟨gb187, 4, none⟩ = some (.slice Ao14 y184.length co14) := (blk_cell BK187.out 4).trans rfl; have hcz29_5 : w25.cell? ⟨gb187, 5, none⟩ = some (.bool x188005_4) := (blk_cell BK187.out 5).trans rfl; have hfz29_0 := blk_frozen BK187.out 0; have hfz29_1 := blk_frozen BK187.out 1; have hfz29_2 := blk_frozen BK187.out 2; have hfz29_3 := blk_frozen BK187.out 3; have hfz29_4 := blk_frozen BK187.out 4; have hfz29_5 := blk_frozen BK187.out 5))
            go_meet
            case rel => exact ⟨_, (y192), (.slice Ao27 y192.length co27), H', ⟨by have := HJ4.out; first | omega | exact Nat.le_refl _⟩, ⟨by (with_reducible repeat (first | apply Kd.R_alloc | apply Kd.R_drewN | apply Kd.R_drew)); exact Kd.R_mono (Kd.R_far (p := ⟨gb187, 3, none⟩) (Kd.R_types HO_5.out BK187.out (by decide)) (fun _ hk => hk.2) (.slice Ao27 y192.length co27)) (fun _ hk => trivial)⟩, ⟨by (with_reducible repeat (first | apply Kd.R_alloc | apply Kd.R_drewN | apply Kd.R_drew)); exact Kd.R_mono (Kd.R_far (p := ⟨gb187, 3, none⟩) (Kd.R_types HO_184004.out BK187.out (by decide)) (fun _ hk => hk.2) (.slice Ao27 y192.length co27)) (fun _ hk => ⟨hk.1.2, hk.1.1⟩)⟩, ⟨by (with_reducible repeat (first | apply Kd.R_alloc | apply Kd.R_drewN | apply Kd.R_drew)); exact Kd.R_mono (Kd.R_far (p := ⟨gb187, 3, none⟩) (Kd.R_types HO194.out BK187.out (by decide)) (fun _ hk => hk.2) (.slice Ao27 y192.length co27)) (fun _ hk => ⟨hk.1.1.2, hk.1.2⟩)⟩, ⟨by (with_reducible repeat (first | apply Kd.R_alloc | apply Kd.R_drewN | apply Kd.R_drew)); exact Kd.R_mono (Kd.R_far (p := ⟨gb187, 3, none⟩) (Kd.R_types HO_188004.out BK187.out (by decide)) (fun _ hk => hk.2) (.slice Ao27 y192.length co27)) (fun _ hk => ⟨hk.1.1, hk.1.2⟩)⟩, ⟨by (with_reducible repeat (first | refine blk_drewN ?_ _ | refine blk_drew ?_ | refine blk_alloc ?_ _)); refine blk_far ?_ NB183_187.out _; (with_reducible repeat (first | refine blk_drewN ?_ _ | refine blk_drew ?_ | refine blk_alloc ?_ _)); exact BK183.out⟩, ⟨by (with_reducible repeat (first | refine blk_drewN ?_ _ | refine blk_drew ?_ | refine blk_alloc ?_ _)); refine blk_put (cs := #[.string (⟨#[110]⟩ : ByteArray), .int .i64 2, .int .i64 0, .slice none 0 0, .slice Ao14 y184.length co14, .bool x188005_4]) ?_ 3 _ rfl; (with_reducible repeat (first | refine blk_drewN ?_ _ | refine blk_drew ?_ | refine blk_alloc ?_ _)); exact BK187.out⟩, ⟨by repeat (first | (with_reducible first | exact HB.out | apply below_alloc | apply pw_below_drewN | apply below_drew1 | refine below_set ?_ GE183.out | refine below_set ?_ GE187.out) | exact HB.out)⟩⟩
          · rw [if_neg c24] at H
            have c24b0 : decide (1 < t191) = false := decide_eq_false c24
            clear c24
            (first | rw [c24b0] | (simp only [i64_w, i32_w]; rw [c24b0]) | skip)
            have H' := Aside0.mk H
            clear H
            go_wp2
            go_meet
            case rel => exact ⟨_, (([] : List ByteArray)), (.slice none 0 0), H', ⟨by have := HJ4.out; first | omega | exact Nat.le_refl _⟩, ⟨by (with_reducible repeat (first | apply Kd.R_alloc | apply Kd.R_drewN | apply Kd.R_drew)); exact HO_5.out⟩, ⟨by (with_reducible repeat (first | apply Kd.R_alloc | apply Kd.R_drewN | apply Kd.R_drew)); exact Kd.R_mono HO_184004.out (fun _ hk => ⟨(by simp [Value.ownBlock]), hk⟩)⟩, ⟨by first | exact Kd.R_nil _ _ _ _ _ | exact Kd.N_nil _ _ _ _ _ | exact Kd.V_nil _ _ _ _ _ | exact Kd.Q_nil _ _ _ _ _ | exact Kd.S_nil _ _ _ _ _⟩, ⟨by (with_reducible repeat (first | apply Kd.R_alloc | apply Kd.R_drewN | apply Kd.R_drew)); exact Kd.R_mono HO_188004.out (fun _ hk => ⟨hk, (by simp [Value.ownBlock])⟩)⟩, ⟨by (with_reducible repeat (first | refine blk_drewN ?_ _ | refine blk_drew ?_ | refine blk_alloc ?_ _)); exact BK183.out⟩, ⟨by (with_reducible repeat (first | refine blk_drewN ?_ _ | refine blk_drew ?_ | refine blk_alloc ?_ _)); exact BK187.out⟩, ⟨by repeat (first | (with_reducible first | exact HB.out | apply below_alloc | apply pw_below_drewN | apply below_drew1 | refine below_set ?_ GE183.out | refine below_set ?_ GE187.out) | exact HB.out)⟩⟩
        case rest =>
          clear HC23
          try clear c1
          try clear c2
          try clear p2
          try clear c3
          try clear c5
          try clear c9
          try clear c11
          try clear c14
          try clear c16
          try clear c20
          try clear c20b0
          try clear c21
          try clear c24
          try clear c24b0
          try clear c28
          try clear hcz11_0
          try clear hcz11_1
          try clear hcz11_2
          try clear hcz11_3
          try clear hcz11_4
          try clear hcz11_5
          try clear hcz11_6
          try clear hcz17_0
          try clear hcz17_1
          try clear hcz17_2
          try clear hcz17_3
          try clear hcz17_4
          try clear hcz17_5
          try clear hcz22_0
          try clear hcz22_1
          try clear hcz22_2
          try clear hcz22_3
          try clear hcz22_4
          try clear hcz22_5
          try clear hcz29_0
          try clear hcz29_1
          try clear hcz29_2
          try clear hcz29_3
          try clear hcz29_4
          try clear hcz29_5
          try clear hfz11_0
          try clear hfz11_1
          try clear hfz11_2
          try clear hfz11_3
          try clear hfz11_4
          try clear hfz11_5
          try clear hfz11_6
          try clear hfz17_0
          try clear hfz17_1
          try clear hfz17_2
          try clear hfz17_3
          try clear hfz17_4
          try clear hfz17_5
          try clear hfz22_0
          try clear hfz22_1
          try clear hfz22_2
          try clear hfz22_3
          try clear hfz22_4
          try clear hfz22_5
          try clear hfz29_0
          try clear hfz29_1
          try clear hfz29_2
          try clear hfz29_3
          try clear hfz29_4
          try clear hfz29_5
          try clear p2
          obtain ⟨kq, x188003_22, u188003, HA, HJ22, HO_5, HO_184004, HO_188003, HO_188004, BK183, BK187, HB⟩ := hcut
          cases kq with
          | zero => exact absurd HA.out (by simp [joinerylaw5_FitFirst.j1])
          | succ kj22 =>
            have H := HA.out
            clear HA
            simp only [joinerylaw5_FitFirst.j1] at H
            have HC30 := Aside0.mk H
            clear H
            go_upto_if 28 with (fail)
            go_cut [] (fun wc => ∃ (kq : Nat) (x184005_29 : List ByteArray) (u184005 : Value), Aside0 (joinerylaw5_FitFirst.j2 kq y188 t191 (⟨#[112]⟩ : ByteArray) 0 3 0 y180 x184005_29 true (⟨#[110]⟩ : ByteArray) 2 0 x188003_22 y184 x188005_4 = some r) ∧ Aside0 (kq ≤ kj22) ∧ Aside0 (Kd.R k41 41 wc w.heap.size (fun _ => True) v189 y188) ∧ Aside0 (Kd.R Kd.string 9 wc w.heap.size (fun k_ => some k_ ≠ (u184005 : Value).ownBlock ∧ some k_ ≠ (u188003 : Value).ownBlock ∧ some k_ ≠ ((.slice Ao14 y184.length co14) : Value).ownBlock) (.slice Ao9 y180.length co9) y180) ∧ Aside0 (Kd.R Kd.string 9 wc w.heap.size (fun k_ => some k_ ≠ ((.slice Ao9 y180.length co9) : Value).ownBlock ∧ some k_ ≠ (u188003 : Value).ownBlock ∧ some k_ ≠ ((.slice Ao14 y184.length co14) : Value).ownBlock) u184005 x184005_29) ∧ Aside0 (Kd.R Kd.string 9 wc w.heap.size (fun k_ => some k_ ≠ ((.slice Ao9 y180.length co9) : Value).ownBlock ∧ some k_ ≠ (u184005 : Value).ownBlock ∧ some k_ ≠ ((.slice Ao14 y184.length co14) : Value).ownBlock) u188003 x188003_22) ∧ Aside0 (Kd.R Kd.string 9 wc w.heap.size (fun k_ => some k_ ≠ ((.slice Ao9 y180.length co9) : Value).ownBlock ∧ some k_ ≠ (u184005 : Value).ownBlock ∧ some k_ ≠ (u188003 : Value).ownBlock) (.slice Ao14 y184.length co14) y184) ∧ Aside0 (wc.heap[gb183]? = some (.cells #[.string (⟨#[112]⟩ : ByteArray), .int .i64 0, .int .i64 3, .int .i64 0, (.slice Ao9 y180.length co9), u184005, .bool true] 28 (0, 0))) ∧ Aside0 (wc.heap[gb187]? = some (.cells #[.string (⟨#[110]⟩ : ByteArray), .int .i64 2, .int .i64 0, u188003, (.slice Ao14 y184.length co14), .bool x188005_4] 31 (0, 0))) ∧ Aside0 (Below w.heap.size w wc))
            case first =>
              have H := HC30.out
              clear HC30
              by_cases c31 : t191 > 2
              · rw [if_pos c31] at H
                have c31b0 : decide (2 < t191) = true := decide_eq_true c31
                clear c31
                (first | rw [c31b0] | (simp only [i64_w, i32_w]; rw [c31b0]) | skip)
                obtain ⟨y195, hy195⟩ : ∃ y_ : List ByteArray, y_ = (([(⟨#[119, 101, 115, 116]⟩ : ByteArray)] : List ByteArray)) := ⟨_, rfl⟩
                replace H : (joinerylaw5_FitFirst.j2 kj22 y188 t191 (⟨#[112]⟩ : ByteArray) 0 3 0 y180 y195 true (⟨#[110]⟩ : ByteArray) 2 0 x188003_22 y184 x188005_4) = some r := by first | (rw [hy195]; with_reducible exact H) | (have H2_ := (Option.bind_some _ _).symm.trans H; rw [hy195]; with_reducible exact H2_) | (have H2_ := (Option.bind_some _ _).symm.trans H; with_reducible exact H2_) | with_reducible exact H | (rw [hy195]; exact H) | exact H
                have Ny195 := Aside0.mk hy195
                clear hy195
                have H' := Aside0.mk H
                clear H
                go_wp2_with (first | ((with_reducible refine gate_dst (N := 29) rfl ?_); refine Kd.R_lit Kd.string _ 9 ?hg (N := 29) ?hd (xs := ([(⟨#[119, 101, 115, 116]⟩ : ByteArray)] : List ByteArray)) (inner := [.string (⟨#[119, 101, 115, 116]⟩ : ByteArray)]) (ok := fun _ => True) (okp := fun _ => True) ?hr ?hp (fun _ hk => hk) trivial (Below.refl _ _) (Nat.le_refl _) (by simp) ?_; (case hd => rfl); (case hg => rfl); (case hr => first | (go_simp; done) | (go_simp; rfl)); (case hp => exact (Reps.one (show Kd.M Kd.string _ _ _ (⟨#[119, 101, 115, 116]⟩ : ByteArray) [.string (⟨#[119, 101, 115, 116]⟩ : ByteArray)] from rfl) (Reps.none _ _))); intro v196 w32 ho33 hb hg_ hnew_; clear hg_ hnew_; (first | rw [← Ny195.out] at ho33 | (simp only [Int.reduceToNat] at ho33; rw [← Ny195.out] at ho33)); have n0_ := Aside0.mk (Kd.R_below (by (with_reducible repeat (first | apply Kd.R_alloc | apply Kd.R_drewN | apply Kd.R_drew)); exact HO_5.out) hb); have n1_ := Aside0.mk (Kd.R_elder' (by (with_reducible repeat (first | apply Kd.R_alloc | apply Kd.R_drewN | apply Kd.R_drew)); exact HO_184004.out) (Kd.R_base ho33) hb); have n2_ := Aside0.mk (Kd.R_elder' (by (with_reducible repeat (first | apply Kd.R_alloc | apply Kd.R_drewN | apply Kd.R_drew)); exact HO_188003.out) (Kd.R_base ho33) hb); have n3_ := Aside0.mk (Kd.R_elder' (by (with_reducible repeat (first | apply Kd.R_alloc | apply Kd.R_drewN | apply Kd.R_drew)); exact HO_188004.out) (Kd.R_base ho33) hb); have n4_ := Aside0.mk (Kd.R_lower (Kd.R_new' (Kd.R_new' (Kd.R_new' ho33 (Kd.R_lt (by (with_reducible repeat (first | apply Kd.R_alloc | apply Kd.R_drewN | apply Kd.R_drew)); exact HO_184004.out))) (Kd.R_lt (by (with_reducible repeat (first | apply Kd.R_alloc | apply Kd.R_drewN | apply Kd.R_drew)); exact HO_188003.out))) (Kd.R_lt (by (with_reducible repeat (first | apply Kd.R_alloc | apply Kd.R_drewN | apply Kd.R_drew)); exact HO_188004.out))) (below_size (by repeat (first | (with_reducible first | exact HB.out | apply below_alloc | apply pw_below_drewN | apply below_drew1 | refine below_set ?_ GE183.out | refine below_set ?_ GE187.out) | exact HB.out)))); have n5_ := Aside0.mk (blk_below (g := gb183) (o := .cells #[.string (⟨#[112]⟩ : ByteArray), .int .i64 0, .int .i64 3, .int .i64 0, .slice Ao9 y180.length co9, .slice none 0 0, .bool true] 28 (0, 0)) (by (with_reducible repeat (first | refine blk_drewN ?_ _ | refine blk_drew ?_ | refine blk_alloc ?_ _)); exact BK183.out) hb); have n6_ := Aside0.mk (blk_below (g := gb187) (o := .cells #[.string (⟨#[110]⟩ : ByteArray), .int .i64 2, .int .i64 0, u188003, .slice Ao14 y184.length co14, .bool x188005_4] 31 (0, 0)) (by (with_reducible repeat (first | refine blk_drewN ?_ _ | refine blk_drew ?_ | refine blk_alloc ?_ _)); exact BK187.out) hb); have n7_ := Aside0.mk (below_step (by repeat (first | (with_reducible first | exact HB.out | apply below_alloc | apply pw_below_drewN | apply below_drew1 | refine below_set ?_ GE183.out | refine below_set ?_ GE187.out) | exact HB.out)) hb); clear HO_5; clear HO_184004; clear HO_188003; clear HO_188004; clear BK183; clear BK187; clear HB; have HO_5 := n0_; have HO_184004 := n1_; have HO_188003 := n2_; have HO_188004 := n3_; have HO197 := n4_; have BK183 := n5_; have BK187 := n6_; have HB := n7_; clear n0_ n1_ n2_ n3_ n4_ n5_ n6_ n7_; clear hb ho33; obtain ⟨Ao34, co34, eo34⟩ := Kd.R_slice HO197.out; subst eo34; have hnb35 := NB183_187.out; have hnc35 := NB187_183.out; have hcz36_0 : w32.cell? ⟨gb183, 0, none⟩ = some (.string (⟨#[112]⟩ : ByteArray)) := (blk_cell BK183.out 0).trans rfl; have hcz36_1 : w32.cell? ⟨gb183, 1, none⟩ = some (.int .i64 0) := (blk_cell BK183.out 1).trans rfl; have hcz36_2 : w32.cell? ⟨gb183, 2, none⟩ = some (.int .i64 3) := (blk_cell BK183.out 2).trans rfl; have hcz36_3 : w32.cell? ⟨gb183, 3, none⟩ = some (.int .i64 0) := (blk_cell BK183.out 3).trans rfl; have hcz36_4 : w32.cell? ⟨gb183, 4, none⟩ = some (.slice Ao9 y180.length co9) := (blk_cell BK183.out 4).trans rfl; have hcz36_5 : w32.cell? ⟨gb183, 5, none⟩ = some (.slice none 0 0) := (blk_cell BK183.out 5).trans rfl; have hcz36_6 : w32.cell? ⟨gb183, 6, none⟩ = some (.bool true) := (blk_cell BK183.out 6).trans rfl; have hfz36_0 := blk_frozen BK183.out 0; have hfz36_1 := blk_frozen BK183.out 1; have hfz36_2 := blk_frozen BK183.out 2; have hfz36_3 := blk_frozen BK183.out 3; have hfz36_4 := blk_frozen BK183.out 4; have hfz36_5 := blk_frozen BK183.out 5; have hfz36_6 := blk_frozen BK183.out 6))
                go_meet
                case rel => exact ⟨_, (y195), (.slice Ao34 y195.length co34), H', ⟨by have := HJ4.out; have := HJ22.out; first | omega | exact Nat.le_refl _⟩, ⟨by (with_reducible repeat (first | apply Kd.R_alloc | apply Kd.R_drewN | apply Kd.R_drew)); exact Kd.R_mono (Kd.R_far (p := ⟨gb183, 5, none⟩) (Kd.R_types HO_5.out BK183.out (by decide)) (fun _ hk => hk.2) (.slice Ao34 y195.length co34)) (fun _ hk => trivial)⟩, ⟨by (with_reducible repeat (first | apply Kd.R_alloc | apply Kd.R_drewN | apply Kd.R_drew)); exact Kd.R_mono (Kd.R_far (p := ⟨gb183, 5, none⟩) (Kd.R_types HO_184004.out BK183.out (by decide)) (fun _ hk => hk.2) (.slice Ao34 y195.length co34)) (fun _ hk => ⟨hk.1.2, ⟨hk.1.1.1, hk.1.1.2⟩⟩)⟩, ⟨by (with_reducible repeat (first | apply Kd.R_alloc | apply Kd.R_drewN | apply Kd.R_drew)); exact Kd.R_mono (Kd.R_far (p := ⟨gb183, 5, none⟩) (Kd.R_types HO197.out BK183.out (by decide)) (fun _ hk => hk.2) (.slice Ao34 y195.length co34)) (fun _ hk => ⟨hk.1.1.1.2, ⟨hk.1.1.2, hk.1.2⟩⟩)⟩, ⟨by (with_reducible repeat (first | apply Kd.R_alloc | apply Kd.R_drewN | apply Kd.R_drew)); exact Kd.R_mono (Kd.R_far (p := ⟨gb183, 5, none⟩) (Kd.R_types HO_188003.out BK183.out (by decide)) (fun _ hk => hk.2) (.slice Ao34 y195.length co34)) (fun _ hk => ⟨hk.1.1.1, ⟨hk.1.2, hk.1.1.2⟩⟩)⟩, ⟨by (with_reducible repeat (first | apply Kd.R_alloc | apply Kd.R_drewN | apply Kd.R_drew)); exact Kd.R_mono (Kd.R_far (p := ⟨gb183, 5, none⟩) (Kd.R_types HO_188004.out BK183.out (by decide)) (fun _ hk => hk.2) (.slice Ao34 y195.length co34)) (fun _ hk => ⟨hk.1.1.1, ⟨hk.1.2, hk.1.1.2⟩⟩)⟩, ⟨by (with_reducible repeat (first | refine blk_drewN ?_ _ | refine blk_drew ?_ | refine blk_alloc ?_ _)); refine blk_put (cs := #[.string (⟨#[112]⟩ : ByteArray), .int .i64 0, .int .i64 3, .int .i64 0, .slice Ao9 y180.length co9, .slice none 0 0, .bool true]) ?_ 5 _ rfl; (with_reducible repeat (first | refine blk_drewN ?_ _ | refine blk_drew ?_ | refine blk_alloc ?_ _)); exact BK183.out⟩, ⟨by (with_reducible repeat (first | refine blk_drewN ?_ _ | refine blk_drew ?_ | refine blk_alloc ?_ _)); refine blk_far ?_ NB187_183.out _; (with_reducible repeat (first | refine blk_drewN ?_ _ | refine blk_drew ?_ | refine blk_alloc ?_ _)); exact BK187.out⟩, ⟨by repeat (first | (with_reducible first | exact HB.out | apply below_alloc | apply pw_below_drewN | apply below_drew1 | refine below_set ?_ GE183.out | refine below_set ?_ GE187.out) | exact HB.out)⟩⟩
              · rw [if_neg c31] at H
                have c31b0 : decide (2 < t191) = false := decide_eq_false c31
                clear c31
                (first | rw [c31b0] | (simp only [i64_w, i32_w]; rw [c31b0]) | skip)
                have H' := Aside0.mk H
                clear H
                go_wp2
                go_meet
                case rel => exact ⟨_, (([] : List ByteArray)), (.slice none 0 0), H', ⟨by have := HJ4.out; have := HJ22.out; first | omega | exact Nat.le_refl _⟩, ⟨by (with_reducible repeat (first | apply Kd.R_alloc | apply Kd.R_drewN | apply Kd.R_drew)); exact HO_5.out⟩, ⟨by (with_reducible repeat (first | apply Kd.R_alloc | apply Kd.R_drewN | apply Kd.R_drew)); exact Kd.R_mono HO_184004.out (fun _ hk => ⟨(by simp [Value.ownBlock]), ⟨hk.1, hk.2⟩⟩)⟩, ⟨by first | exact Kd.R_nil _ _ _ _ _ | exact Kd.N_nil _ _ _ _ _ | exact Kd.V_nil _ _ _ _ _ | exact Kd.Q_nil _ _ _ _ _ | exact Kd.S_nil _ _ _ _ _⟩, ⟨by (with_reducible repeat (first | apply Kd.R_alloc | apply Kd.R_drewN | apply Kd.R_drew)); exact Kd.R_mono HO_188003.out (fun _ hk => ⟨hk.1, ⟨(by simp [Value.ownBlock]), hk.2⟩⟩)⟩, ⟨by (with_reducible repeat (first | apply Kd.R_alloc | apply Kd.R_drewN | apply Kd.R_drew)); exact Kd.R_mono HO_188004.out (fun _ hk => ⟨hk.1, ⟨(by simp [Value.ownBlock]), hk.2⟩⟩)⟩, ⟨by (with_reducible repeat (first | refine blk_drewN ?_ _ | refine blk_drew ?_ | refine blk_alloc ?_ _)); exact BK183.out⟩, ⟨by (with_reducible repeat (first | refine blk_drewN ?_ _ | refine blk_drew ?_ | refine blk_alloc ?_ _)); exact BK187.out⟩, ⟨by repeat (first | (with_reducible first | exact HB.out | apply below_alloc | apply pw_below_drewN | apply below_drew1 | refine below_set ?_ GE183.out | refine below_set ?_ GE187.out) | exact HB.out)⟩⟩
            case rest =>
              clear HC30
              try clear c1
              try clear c2
              try clear p2
              try clear c3
              try clear c5
              try clear c9
              try clear c11
              try clear c14
              try clear c16
              try clear c20
              try clear c20b0
              try clear c21
              try clear c24
              try clear c24b0
              try clear c28
              try clear c31
              try clear c31b0
              try clear c35
              try clear hcz11_0
              try clear hcz11_1
              try clear hcz11_2
              try clear hcz11_3
              try clear hcz11_4
              try clear hcz11_5
              try clear hcz11_6
              try clear hcz17_0
              try clear hcz17_1
              try clear hcz17_2
              try clear hcz17_3
              try clear hcz17_4
              try clear hcz17_5
              try clear hcz22_0
              try clear hcz22_1
              try clear hcz22_2
              try clear hcz22_3
              try clear hcz22_4
              try clear hcz22_5
              try clear hcz29_0
              try clear hcz29_1
              try clear hcz29_2
              try clear hcz29_3
              try clear hcz29_4
              try clear hcz29_5
              try clear hcz36_0
              try clear hcz36_1
              try clear hcz36_2
              try clear hcz36_3
              try clear hcz36_4
              try clear hcz36_5
              try clear hcz36_6
              try clear hfz11_0
              try clear hfz11_1
              try clear hfz11_2
              try clear hfz11_3
              try clear hfz11_4
              try clear hfz11_5
              try clear hfz11_6
              try clear hfz17_0
              try clear hfz17_1
              try clear hfz17_2
              try clear hfz17_3
              try clear hfz17_4
              try clear hfz17_5
              try clear hfz22_0
              try clear hfz22_1
              try clear hfz22_2
              try clear hfz22_3
              try clear hfz22_4
              try clear hfz22_5
              try clear hfz29_0
              try clear hfz29_1
              try clear hfz29_2
              try clear hfz29_3
              try clear hfz29_4
              try clear hfz29_5
              try clear hfz36_0
              try clear hfz36_1
              try clear hfz36_2
              try clear hfz36_3
              try clear hfz36_4
              try clear hfz36_5
              try clear hfz36_6
              try clear p2
              obtain ⟨kq, x184005_29, u184005, HA, HJ29, HO_5, HO_184004, HO_184005, HO_188003, HO_188004, BK183, BK187, HB⟩ := hcut
              cases kq with
              | zero => exact absurd HA.out (by simp [joinerylaw5_FitFirst.j2])
              | succ kj29 =>
                have H := HA.out
                clear HA
                simp only [joinerylaw5_FitFirst.j2] at H
                have HC37 := Aside0.mk H
                clear H
                go_upto_if 32 with (fail)
                go_cut [] (fun wc => ∃ (kq : Nat) (x188001_36 : Int), Aside0 (joinerylaw5_FitFirst.j3 kq y188 t191 (⟨#[112]⟩ : ByteArray) 0 3 0 y180 x184005_29 true (⟨#[110]⟩ : ByteArray) x188001_36 0 x188003_22 y184 x188005_4 = some r) ∧ Aside0 (kq ≤ kj29) ∧ Aside0 (Kd.R k41 41 wc w.heap.size (fun _ => True) v189 y188) ∧ Aside0 (Kd.R Kd.string 9 wc w.heap.size (fun k_ => some k_ ≠ (u184005 : Value).ownBlock ∧ some k_ ≠ (u188003 : Value).ownBlock ∧ some k_ ≠ ((.slice Ao14 y184.length co14) : Value).ownBlock) (.slice Ao9 y180.length co9) y180) ∧ Aside0 (Kd.R Kd.string 9 wc w.heap.size (fun k_ => some k_ ≠ ((.slice Ao9 y180.length co9) : Value).ownBlock ∧ some k_ ≠ (u188003 : Value).ownBlock ∧ some k_ ≠ ((.slice Ao14 y184.length co14) : Value).ownBlock) u184005 x184005_29) ∧ Aside0 (Kd.R Kd.string 9 wc w.heap.size (fun k_ => some k_ ≠ ((.slice Ao9 y180.length co9) : Value).ownBlock ∧ some k_ ≠ (u184005 : Value).ownBlock ∧ some k_ ≠ ((.slice Ao14 y184.length co14) : Value).ownBlock) u188003 x188003_22) ∧ Aside0 (Kd.R Kd.string 9 wc w.heap.size (fun k_ => some k_ ≠ ((.slice Ao9 y180.length co9) : Value).ownBlock ∧ some k_ ≠ (u184005 : Value).ownBlock ∧ some k_ ≠ (u188003 : Value).ownBlock) (.slice Ao14 y184.length co14) y184) ∧ Aside0 (wc.heap[gb183]? = some (.cells #[.string (⟨#[112]⟩ : ByteArray), .int .i64 0, .int .i64 3, .int .i64 0, (.slice Ao9 y180.length co9), u184005, .bool true] 28 (0, 0))) ∧ Aside0 (wc.heap[gb187]? = some (.cells #[.string (⟨#[110]⟩ : ByteArray), .int .i64 x188001_36, .int .i64 0, u188003, (.slice Ao14 y184.length co14), .bool x188005_4] 31 (0, 0))) ∧ Aside0 (Below w.heap.size w wc))
                case first =>
                  have H := HC37.out
                  clear HC37
                  by_cases c38 : t191 > 3
                  · rw [if_pos c38] at H
                    have c38b0 : decide (3 < t191) = true := decide_eq_true c38
                    clear c38
                    (first | rw [c38b0] | (simp only [i64_w, i32_w]; rw [c38b0]) | skip)
                    have H' := Aside0.mk H
                    clear H
                    have hnb39 := NB187_183.out
                    have hnc39 := NB183_187.out
                    have hcz40_0 : wc.cell? ⟨gb187, 0, none⟩ = some (.string (⟨#[110]⟩ : ByteArray)) := (blk_cell BK187.out 0).trans rfl
                    have hcz40_1 : wc.cell? ⟨gb187, 1, none⟩ = some (.int .i64 2) := (blk_cell BK187.out 1).trans rfl
                    have hcz40_2 : wc.cell? ⟨gb187, 2, none⟩ = some (.int .i64 0) := (blk_cell BK187.out 2).trans rfl
                    have hcz40_3 : wc.cell? ⟨gb187, 3, none⟩ = some (u188003) := (blk_cell BK187.out 3).trans rfl
                    have hcz40_4 : wc.cell? ⟨gb187, 4, none⟩ = some (.slice Ao14 y184.length co14) := (blk_cell BK187.out 4).trans rfl
                    have hcz40_5 : wc.cell? ⟨gb187, 5, none⟩ = some (.bool x188005_4) := (blk_cell BK187.out 5).trans rfl
                    have hfz40_0 := blk_frozen BK187.out 0
                    have hfz40_1 := blk_frozen BK187.out 1
                    have hfz40_2 := blk_frozen BK187.out 2
                    have hfz40_3 := blk_frozen BK187.out 3
                    have hfz40_4 := blk_frozen BK187.out 4
                    have hfz40_5 := blk_frozen BK187.out 5
                    go_wp2
                    go_meet
                    case rel => exact ⟨_, (3), H', ⟨by have := HJ4.out; have := HJ22.out; have := HJ29.out; first | omega | exact Nat.le_refl _⟩, ⟨by (with_reducible repeat (first | apply Kd.R_alloc | apply Kd.R_drewN | apply Kd.R_drew)); exact Kd.R_mono (Kd.R_far (p := ⟨gb187, 1, none⟩) (Kd.R_types HO_5.out BK187.out (by decide)) (fun _ hk => hk.2) (.int .i64 3)) (fun _ hk => trivial)⟩, ⟨by (with_reducible repeat (first | apply Kd.R_alloc | apply Kd.R_drewN | apply Kd.R_drew)); exact Kd.R_mono (Kd.R_far (p := ⟨gb187, 1, none⟩) (Kd.R_types HO_184004.out BK187.out (by decide)) (fun _ hk => hk.2) (.int .i64 3)) (fun _ hk => ⟨hk.1.1, ⟨hk.1.2.1, hk.1.2.2⟩⟩)⟩, ⟨by (with_reducible repeat (first | apply Kd.R_alloc | apply Kd.R_drewN | apply Kd.R_drew)); exact Kd.R_mono (Kd.R_far (p := ⟨gb187, 1, none⟩) (Kd.R_types HO_184005.out BK187.out (by decide)) (fun _ hk => hk.2) (.int .i64 3)) (fun _ hk => ⟨hk.1.1, ⟨hk.1.2.1, hk.1.2.2⟩⟩)⟩, ⟨by (with_reducible repeat (first | apply Kd.R_alloc | apply Kd.R_drewN | apply Kd.R_drew)); exact Kd.R_mono (Kd.R_far (p := ⟨gb187, 1, none⟩) (Kd.R_types HO_188003.out BK187.out (by decide)) (fun _ hk => hk.2) (.int .i64 3)) (fun _ hk => ⟨hk.1.1, ⟨hk.1.2.1, hk.1.2.2⟩⟩)⟩, ⟨by (with_reducible repeat (first | apply Kd.R_alloc | apply Kd.R_drewN | apply Kd.R_drew)); exact Kd.R_mono (Kd.R_far (p := ⟨gb187, 1, none⟩) (Kd.R_types HO_188004.out BK187.out (by decide)) (fun _ hk => hk.2) (.int .i64 3)) (fun _ hk => ⟨hk.1.1, ⟨hk.1.2.1, hk.1.2.2⟩⟩)⟩, ⟨by (with_reducible repeat (first | refine blk_drewN ?_ _ | refine blk_drew ?_ | refine blk_alloc ?_ _)); refine blk_far ?_ NB183_187.out _; (with_reducible repeat (first | refine blk_drewN ?_ _ | refine blk_drew ?_ | refine blk_alloc ?_ _)); exact BK183.out⟩, ⟨by (with_reducible repeat (first | refine blk_drewN ?_ _ | refine blk_drew ?_ | refine blk_alloc ?_ _)); refine blk_put (cs := #[.string (⟨#[110]⟩ : ByteArray), .int .i64 2, .int .i64 0, u188003, .slice Ao14 y184.length co14, .bool x188005_4]) ?_ 1 _ rfl; (with_reducible repeat (first | refine blk_drewN ?_ _ | refine blk_drew ?_ | refine blk_alloc ?_ _)); exact BK187.out⟩, ⟨by repeat (first | (with_reducible first | exact HB.out | apply below_alloc | apply pw_below_drewN | apply below_drew1 | refine below_set ?_ GE183.out | refine below_set ?_ GE187.out) | exact HB.out)⟩⟩
                  · rw [if_neg c38] at H
                    have c38b0 : decide (3 < t191) = false := decide_eq_false c38
                    clear c38
                    (first | rw [c38b0] | (simp only [i64_w, i32_w]; rw [c38b0]) | skip)
                    have H' := Aside0.mk H
                    clear H
                    go_wp2
                    go_meet
                    case rel => exact ⟨_, (2), H', ⟨by have := HJ4.out; have := HJ22.out; have := HJ29.out; first | omega | exact Nat.le_refl _⟩, ⟨by (with_reducible repeat (first | apply Kd.R_alloc | apply Kd.R_drewN | apply Kd.R_drew)); exact HO_5.out⟩, ⟨by (with_reducible repeat (first | apply Kd.R_alloc | apply Kd.R_drewN | apply Kd.R_drew)); exact HO_184004.out⟩, ⟨by (with_reducible repeat (first | apply Kd.R_alloc | apply Kd.R_drewN | apply Kd.R_drew)); exact HO_184005.out⟩, ⟨by (with_reducible repeat (first | apply Kd.R_alloc | apply Kd.R_drewN | apply Kd.R_drew)); exact HO_188003.out⟩, ⟨by (with_reducible repeat (first | apply Kd.R_alloc | apply Kd.R_drewN | apply Kd.R_drew)); exact HO_188004.out⟩, ⟨by (with_reducible repeat (first | refine blk_drewN ?_ _ | refine blk_drew ?_ | refine blk_alloc ?_ _)); exact BK183.out⟩, ⟨by (with_reducible repeat (first | refine blk_drewN ?_ _ | refine blk_drew ?_ | refine blk_alloc ?_ _)); exact BK187.out⟩, ⟨by repeat (first | (with_reducible first | exact HB.out | apply below_alloc | apply pw_below_drewN | apply below_drew1 | refine below_set ?_ GE183.out | refine below_set ?_ GE187.out) | exact HB.out)⟩⟩
                case rest =>
                  clear HC37
                  try clear c1
                  try clear c2
                  try clear p2
                  try clear c3
                  try clear c5
                  try clear c9
                  try clear c11
                  try clear c14
                  try clear c16
                  try clear c20
                  try clear c20b0
                  try clear c21
                  try clear c24
                  try clear c24b0
                  try clear c28
                  try clear c31
                  try clear c31b0
                  try clear c35
                  try clear c38
                  try clear c38b0
                  try clear c39
                  try clear hcz11_0
                  try clear hcz11_1
                  try clear hcz11_2
                  try clear hcz11_3
                  try clear hcz11_4
                  try clear hcz11_5
                  try clear hcz11_6
                  try clear hcz17_0
                  try clear hcz17_1
                  try clear hcz17_2
                  try clear hcz17_3
                  try clear hcz17_4
                  try clear hcz17_5
                  try clear hcz22_0
                  try clear hcz22_1
                  try clear hcz22_2
                  try clear hcz22_3
                  try clear hcz22_4
                  try clear hcz22_5
                  try clear hcz29_0
                  try clear hcz29_1
                  try clear hcz29_2
                  try clear hcz29_3
                  try clear hcz29_4
                  try clear hcz29_5
                  try clear hcz36_0
                  try clear hcz36_1
                  try clear hcz36_2
                  try clear hcz36_3
                  try clear hcz36_4
                  try clear hcz36_5
                  try clear hcz36_6
                  try clear hcz40_0
                  try clear hcz40_1
                  try clear hcz40_2
                  try clear hcz40_3
                  try clear hcz40_4
                  try clear hcz40_5
                  try clear hfz11_0
                  try clear hfz11_1
                  try clear hfz11_2
                  try clear hfz11_3
                  try clear hfz11_4
                  try clear hfz11_5
                  try clear hfz11_6
                  try clear hfz17_0
                  try clear hfz17_1
                  try clear hfz17_2
                  try clear hfz17_3
                  try clear hfz17_4
                  try clear hfz17_5
                  try clear hfz22_0
                  try clear hfz22_1
                  try clear hfz22_2
                  try clear hfz22_3
                  try clear hfz22_4
                  try clear hfz22_5
                  try clear hfz29_0
                  try clear hfz29_1
                  try clear hfz29_2
                  try clear hfz29_3
                  try clear hfz29_4
                  try clear hfz29_5
                  try clear hfz36_0
                  try clear hfz36_1
                  try clear hfz36_2
                  try clear hfz36_3
                  try clear hfz36_4
                  try clear hfz36_5
                  try clear hfz36_6
                  try clear hfz40_0
                  try clear hfz40_1
                  try clear hfz40_2
                  try clear hfz40_3
                  try clear hfz40_4
                  try clear hfz40_5
                  try clear p2
                  obtain ⟨kq, x188001_36, HA, HJ36, HO_5, HO_184004, HO_184005, HO_188003, HO_188004, BK183, BK187, HB⟩ := hcut
                  cases kq with
                  | zero => exact absurd HA.out (by simp [joinerylaw5_FitFirst.j3])
                  | succ kj36 =>
                    have H := HA.out
                    clear HA
                    simp only [joinerylaw5_FitFirst.j3] at H
                    have HC41 := Aside0.mk H
                    clear H
                    go_upto_if 36 with (fail)
                    go_cut [] (fun wc => ∃ (kq : Nat) (x184006_40 : Bool), Aside0 (joinerylaw5_FitFirst.j4 kq y188 t191 (⟨#[112]⟩ : ByteArray) 0 3 0 y180 x184005_29 x184006_40 (⟨#[110]⟩ : ByteArray) x188001_36 0 x188003_22 y184 x188005_4 = some r) ∧ Aside0 (kq ≤ kj36) ∧ Aside0 (Kd.R k41 41 wc w.heap.size (fun _ => True) v189 y188) ∧ Aside0 (Kd.R Kd.string 9 wc w.heap.size (fun k_ => some k_ ≠ (u184005 : Value).ownBlock ∧ some k_ ≠ (u188003 : Value).ownBlock ∧ some k_ ≠ ((.slice Ao14 y184.length co14) : Value).ownBlock) (.slice Ao9 y180.length co9) y180) ∧ Aside0 (Kd.R Kd.string 9 wc w.heap.size (fun k_ => some k_ ≠ ((.slice Ao9 y180.length co9) : Value).ownBlock ∧ some k_ ≠ (u188003 : Value).ownBlock ∧ some k_ ≠ ((.slice Ao14 y184.length co14) : Value).ownBlock) u184005 x184005_29) ∧ Aside0 (Kd.R Kd.string 9 wc w.heap.size (fun k_ => some k_ ≠ ((.slice Ao9 y180.length co9) : Value).ownBlock ∧ some k_ ≠ (u184005 : Value).ownBlock ∧ some k_ ≠ ((.slice Ao14 y184.length co14) : Value).ownBlock) u188003 x188003_22) ∧ Aside0 (Kd.R Kd.string 9 wc w.heap.size (fun k_ => some k_ ≠ ((.slice Ao9 y180.length co9) : Value).ownBlock ∧ some k_ ≠ (u184005 : Value).ownBlock ∧ some k_ ≠ (u188003 : Value).ownBlock) (.slice Ao14 y184.length co14) y184) ∧ Aside0 (wc.heap[gb183]? = some (.cells #[.string (⟨#[112]⟩ : ByteArray), .int .i64 0, .int .i64 3, .int .i64 0, (.slice Ao9 y180.length co9), u184005, .bool x184006_40] 28 (0, 0))) ∧ Aside0 (wc.heap[gb187]? = some (.cells #[.string (⟨#[110]⟩ : ByteArray), .int .i64 x188001_36, .int .i64 0, u188003, (.slice Ao14 y184.length co14), .bool x188005_4] 31 (0, 0))) ∧ Aside0 (Below w.heap.size w wc))
                    case first =>
                      have H := HC41.out
                      clear HC41
                      by_cases c42 : t191 > 4
                      · rw [if_pos c42] at H
                        have c42b0 : decide (4 < t191) = true := decide_eq_true c42
                        clear c42
                        (first | rw [c42b0] | (simp only [i64_w, i32_w]; rw [c42b0]) | skip)
                        have H' := Aside0.mk H
                        clear H
                        have hnb43 := NB183_187.out
                        have hnc43 := NB187_183.out
                        have hcz44_0 : wc.cell? ⟨gb183, 0, none⟩ = some (.string (⟨#[112]⟩ : ByteArray)) := (blk_cell BK183.out 0).trans rfl
                        have hcz44_1 : wc.cell? ⟨gb183, 1, none⟩ = some (.int .i64 0) := (blk_cell BK183.out 1).trans rfl
                        have hcz44_2 : wc.cell? ⟨gb183, 2, none⟩ = some (.int .i64 3) := (blk_cell BK183.out 2).trans rfl
                        have hcz44_3 : wc.cell? ⟨gb183, 3, none⟩ = some (.int .i64 0) := (blk_cell BK183.out 3).trans rfl
                        have hcz44_4 : wc.cell? ⟨gb183, 4, none⟩ = some (.slice Ao9 y180.length co9) := (blk_cell BK183.out 4).trans rfl
                        have hcz44_5 : wc.cell? ⟨gb183, 5, none⟩ = some (u184005) := (blk_cell BK183.out 5).trans rfl
                        have hcz44_6 : wc.cell? ⟨gb183, 6, none⟩ = some (.bool true) := (blk_cell BK183.out 6).trans rfl
                        have hfz44_0 := blk_frozen BK183.out 0
                        have hfz44_1 := blk_frozen BK183.out 1
                        have hfz44_2 := blk_frozen BK183.out 2
                        have hfz44_3 := blk_frozen BK183.out 3
                        have hfz44_4 := blk_frozen BK183.out 4
                        have hfz44_5 := blk_frozen BK183.out 5
                        have hfz44_6 := blk_frozen BK183.out 6
                        go_wp2
                        go_meet
                        case rel => exact ⟨_, (false), H', ⟨by have := HJ4.out; have := HJ22.out; have := HJ29.out; have := HJ36.out; first | omega | exact Nat.le_refl _⟩, ⟨by (with_reducible repeat (first | apply Kd.R_alloc | apply Kd.R_drewN | apply Kd.R_drew)); exact Kd.R_mono (Kd.R_far (p := ⟨gb183, 6, none⟩) (Kd.R_types HO_5.out BK183.out (by decide)) (fun _ hk => hk.2) (.bool false)) (fun _ hk => trivial)⟩, ⟨by (with_reducible repeat (first | apply Kd.R_alloc | apply Kd.R_drewN | apply Kd.R_drew)); exact Kd.R_mono (Kd.R_far (p := ⟨gb183, 6, none⟩) (Kd.R_types HO_184004.out BK183.out (by decide)) (fun _ hk => hk.2) (.bool false)) (fun _ hk => ⟨hk.1.1, ⟨hk.1.2.1, hk.1.2.2⟩⟩)⟩, ⟨by (with_reducible repeat (first | apply Kd.R_alloc | apply Kd.R_drewN | apply Kd.R_drew)); exact Kd.R_mono (Kd.R_far (p := ⟨gb183, 6, none⟩) (Kd.R_types HO_184005.out BK183.out (by decide)) (fun _ hk => hk.2) (.bool false)) (fun _ hk => ⟨hk.1.1, ⟨hk.1.2.1, hk.1.2.2⟩⟩)⟩, ⟨by (with_reducible repeat (first | apply Kd.R_alloc | apply Kd.R_drewN | apply Kd.R_drew)); exact Kd.R_mono (Kd.R_far (p := ⟨gb183, 6, none⟩) (Kd.R_types HO_188003.out BK183.out (by decide)) (fun _ hk => hk.2) (.bool false)) (fun _ hk => ⟨hk.1.1, ⟨hk.1.2.1, hk.1.2.2⟩⟩)⟩, ⟨by (with_reducible repeat (first | apply Kd.R_alloc | apply Kd.R_drewN | apply Kd.R_drew)); exact Kd.R_mono (Kd.R_far (p := ⟨gb183, 6, none⟩) (Kd.R_types HO_188004.out BK183.out (by decide)) (fun _ hk => hk.2) (.bool false)) (fun _ hk => ⟨hk.1.1, ⟨hk.1.2.1, hk.1.2.2⟩⟩)⟩, ⟨by (with_reducible repeat (first | refine blk_drewN ?_ _ | refine blk_drew ?_ | refine blk_alloc ?_ _)); refine blk_put (cs := #[.string (⟨#[112]⟩ : ByteArray), .int .i64 0, .int .i64 3, .int .i64 0, .slice Ao9 y180.length co9, u184005, .bool true]) ?_ 6 _ rfl; (with_reducible repeat (first | refine blk_drewN ?_ _ | refine blk_drew ?_ | refine blk_alloc ?_ _)); exact BK183.out⟩, ⟨by (with_reducible repeat (first | refine blk_drewN ?_ _ | refine blk_drew ?_ | refine blk_alloc ?_ _)); refine blk_far ?_ NB187_183.out _; (with_reducible repeat (first | refine blk_drewN ?_ _ | refine blk_drew ?_ | refine blk_alloc ?_ _)); exact BK187.out⟩, ⟨by repeat (first | (with_reducible first | exact HB.out | apply below_alloc | apply pw_below_drewN | apply below_drew1 | refine below_set ?_ GE183.out | refine below_set ?_ GE187.out) | exact HB.out)⟩⟩
                      · rw [if_neg c42] at H
                        have c42b0 : decide (4 < t191) = false := decide_eq_false c42
                        clear c42
                        (first | rw [c42b0] | (simp only [i64_w, i32_w]; rw [c42b0]) | skip)
                        have H' := Aside0.mk H
                        clear H
                        go_wp2
                        go_meet
                        case rel => exact ⟨_, (true), H', ⟨by have := HJ4.out; have := HJ22.out; have := HJ29.out; have := HJ36.out; first | omega | exact Nat.le_refl _⟩, ⟨by (with_reducible repeat (first | apply Kd.R_alloc | apply Kd.R_drewN | apply Kd.R_drew)); exact HO_5.out⟩, ⟨by (with_reducible repeat (first | apply Kd.R_alloc | apply Kd.R_drewN | apply Kd.R_drew)); exact HO_184004.out⟩, ⟨by (with_reducible repeat (first | apply Kd.R_alloc | apply Kd.R_drewN | apply Kd.R_drew)); exact HO_184005.out⟩, ⟨by (with_reducible repeat (first | apply Kd.R_alloc | apply Kd.R_drewN | apply Kd.R_drew)); exact HO_188003.out⟩, ⟨by (with_reducible repeat (first | apply Kd.R_alloc | apply Kd.R_drewN | apply Kd.R_drew)); exact HO_188004.out⟩, ⟨by (with_reducible repeat (first | refine blk_drewN ?_ _ | refine blk_drew ?_ | refine blk_alloc ?_ _)); exact BK183.out⟩, ⟨by (with_reducible repeat (first | refine blk_drewN ?_ _ | refine blk_drew ?_ | refine blk_alloc ?_ _)); exact BK187.out⟩, ⟨by repeat (first | (with_reducible first | exact HB.out | apply below_alloc | apply pw_below_drewN | apply below_drew1 | refine below_set ?_ GE183.out | refine below_set ?_ GE187.out) | exact HB.out)⟩⟩
                    case rest =>
                      clear HC41
                      try clear c1
                      try clear c2
                      try clear p2
                      try clear c3
                      try clear c4
                      try clear c5
                      try clear c9
                      try clear c11
                      try clear c14
                      try clear c16
                      try clear c20
                      try clear c20b0
                      try clear c21
                      try clear c24
                      try clear c24b0
                      try clear c28
                      try clear c31
                      try clear c31b0
                      try clear c35
                      try clear c38
                      try clear c38b0
                      try clear c39
                      try clear c42
                      try clear c42b0
                      try clear c43
                      try clear hcz11_0
                      try clear hcz11_1
                      try clear hcz11_2
                      try clear hcz11_3
                      try clear hcz11_4
                      try clear hcz11_5
                      try clear hcz11_6
                      try clear hcz17_0
                      try clear hcz17_1
                      try clear hcz17_2
                      try clear hcz17_3
                      try clear hcz17_4
                      try clear hcz17_5
                      try clear hcz22_0
                      try clear hcz22_1
                      try clear hcz22_2
                      try clear hcz22_3
                      try clear hcz22_4
                      try clear hcz22_5
                      try clear hcz29_0
                      try clear hcz29_1
                      try clear hcz29_2
                      try clear hcz29_3
                      try clear hcz29_4
                      try clear hcz29_5
                      try clear hcz36_0
                      try clear hcz36_1
                      try clear hcz36_2
                      try clear hcz36_3
                      try clear hcz36_4
                      try clear hcz36_5
                      try clear hcz36_6
                      try clear hcz40_0
                      try clear hcz40_1
                      try clear hcz40_2
                      try clear hcz40_3
                      try clear hcz40_4
                      try clear hcz40_5
                      try clear hcz44_0
                      try clear hcz44_1
                      try clear hcz44_2
                      try clear hcz44_3
                      try clear hcz44_4
                      try clear hcz44_5
                      try clear hcz44_6
                      try clear hfz11_0
                      try clear hfz11_1
                      try clear hfz11_2
                      try clear hfz11_3
                      try clear hfz11_4
                      try clear hfz11_5
                      try clear hfz11_6
                      try clear hfz17_0
                      try clear hfz17_1
                      try clear hfz17_2
                      try clear hfz17_3
                      try clear hfz17_4
                      try clear hfz17_5
                      try clear hfz22_0
                      try clear hfz22_1
                      try clear hfz22_2
                      try clear hfz22_3
                      try clear hfz22_4
                      try clear hfz22_5
                      try clear hfz29_0
                      try clear hfz29_1
                      try clear hfz29_2
                      try clear hfz29_3
                      try clear hfz29_4
                      try clear hfz29_5
                      try clear hfz36_0
                      try clear hfz36_1
                      try clear hfz36_2
                      try clear hfz36_3
                      try clear hfz36_4
                      try clear hfz36_5
                      try clear hfz36_6
                      try clear hfz40_0
                      try clear hfz40_1
                      try clear hfz40_2
                      try clear hfz40_3
                      try clear hfz40_4
                      try clear hfz40_5
                      try clear hfz44_0
                      try clear hfz44_1
                      try clear hfz44_2
                      try clear hfz44_3
                      try clear hfz44_4
                      try clear hfz44_5
                      try clear hfz44_6
                      try clear p2
                      obtain ⟨kq, x184006_40, HA, HJ40, HO_5, HO_184004, HO_184005, HO_188003, HO_188004, BK183, BK187, HB⟩ := hcut
                      cases kq with
                      | zero => exact absurd HA.out (by simp [joinerylaw5_FitFirst.j4])
                      | succ kj40 =>
                        have H := HA.out
                        clear HA
                        simp only [joinerylaw5_FitFirst.j4] at H
                        by_cases c45 : t191 > 5
                        · rw [if_pos c45] at H
                          have c45b0 : decide (5 < t191) = true := decide_eq_true c45
                          clear c45
                          by_cases c46 : 0 < (y188.length : Int)
                          · rw [if_pos c46] at H
                            have c46b0 : decide (0 < (y188.length : Int)) = true := decide_eq_true c46
                            have c46b1 : decide (0 < y188.length) = true := decide_eq_true (by omega)
                            clear c46
                            obtain ⟨y198, hy198⟩ : ∃ y_ : List (S41), y_ = (y188.set (0 : Int).toNat (⟨(rd_T41 y188 0).f0, (rd_T41 y188 0).f1, (⟨(rd_T41 y188 0).f2.f0, (rd_T41 y188 0).f2.f1⟩ : S25), false⟩ : S41)) := ⟨_, rfl⟩
                            replace H : (if t191 = 6 then ((fit_Why.f kj40 (⟨#[112]⟩ : ByteArray) 0 3 0 y180 x184005_29 x184006_40 (⟨#[110]⟩ : ByteArray) x188001_36 0 x188003_22 y184 x188005_4 0 0 y198).bind fun t199 => (some (t199 == 0))) else ((fit_Why.f kj40 (⟨#[112]⟩ : ByteArray) 0 3 0 y180 x184005_29 x184006_40 (⟨#[110]⟩ : ByteArray) x188001_36 0 x188003_22 y184 x188005_4 0 0 y198).bind fun t200 => (some (t200 == (wrap64 (t191 + 1)))))) = some r := by first | (rw [hy198]; with_reducible exact H) | (have H2_ := (Option.bind_some _ _).symm.trans H; rw [hy198]; with_reducible exact H2_) | (have H2_ := (Option.bind_some _ _).symm.trans H; with_reducible exact H2_) | with_reducible exact H | (rw [hy198]; exact H) | exact H
                            have Ny198 := Aside0.mk hy198
                            clear hy198
                            by_cases c48 : t191 = 6
                            · rw [if_pos c48] at H
                              have c48b0 : (t191 == 6) = true := beq_iff_eq.mpr c48
                              have c48b1 : (t191 != 6) = false := bne_eq_false_iff_eq.mpr c48
                              clear c48
                              replace H := Option.bind_eq_some_iff.mp H
                              obtain ⟨t199, A490, H⟩ := H
                              replace H : (some (t199 == 0)) = some r := H
                              have A49 := Aside0.mk A490
                              clear A490
                              obtain rfl := Option.some.inj H
                              have p47 : 0 ≤ (0 : Int) := (by omega)
                              have q47 : (0 : Int) < ((y188.length : Int) : Int) := of_decide_eq_true (by first | (with_reducible assumption) | assumption)
                              have qi47 : (0 < y188.length) = True := eq_true (by omega)
                              obtain ⟨go47, co47, eo47, gb47, gl47, cl47, HG47⟩ := Kd.R_form HO_5.out (by omega)
                              (first | cases eo47 | (injection eo47 with ea_ en_ ec_; (first | subst ea_ | (injection ea_ with ea_; subst ea_)); subst ec_; clear en_))
                              have GB47 := Aside0.mk gb47
                              have GG47 := Aside0.mk HG47
                              clear gb47 gl47 HG47
                              obtain ⟨ce47, hcl47, hM47, hcc47, hfr47⟩ := Kd.R_elem HO_5.out z41 (0 : Int) p47 q47
                              obtain rfl := k41_openM hM47
                              have hx47_0 : wc.cell? ⟨go47, (0 : Int).toNat * 5, none⟩ = some (.string ((rd_T41 y188 0).f0)) := hcc47 0 _ rfl
                              have hx47_1 : wc.cell? ⟨go47, (0 : Int).toNat * 5 + 1, none⟩ = some (.string ((rd_T41 y188 0).f1)) := hcc47 1 _ rfl
                              have hx47_2 : wc.cell? ⟨go47, (0 : Int).toNat * 5 + 2, none⟩ = some (.int .i64 ((rd_T41 y188 0).f2.f0)) := hcc47 2 _ rfl
                              have hx47_3 : wc.cell? ⟨go47, (0 : Int).toNat * 5 + 3, none⟩ = some (.int .i64 ((rd_T41 y188 0).f2.f1)) := hcc47 3 _ rfl
                              have hx47_4 : wc.cell? ⟨go47, (0 : Int).toNat * 5 + 4, none⟩ = some (.bool ((rd_T41 y188 0).f3)) := hcc47 4 _ rfl
                              have hf47_0 : wc.frozen? ⟨go47, (0 : Int).toNat * 5, none⟩ = false := hfr47 0
                              have hf47_1 : wc.frozen? ⟨go47, (0 : Int).toNat * 5 + 1, none⟩ = false := hfr47 1
                              have hf47_2 : wc.frozen? ⟨go47, (0 : Int).toNat * 5 + 2, none⟩ = false := hfr47 2
                              have hf47_3 : wc.frozen? ⟨go47, (0 : Int).toNat * 5 + 3, none⟩ = false := hfr47 3
                              have hf47_4 : wc.frozen? ⟨go47, (0 : Int).toNat * 5 + 4, none⟩ = false := hfr47 4
                              clear hcl47 hcc47 hfr47 hM47
                              (try rw [show ((0 : Int)).toNat = 0 from rfl] at hx47_0)
                              (try simp only [Nat.reduceMul, Nat.zero_mul, Nat.zero_add, Nat.reduceAdd] at hx47_0)
                              (try rw [show ((0 : Int)).toNat = 0 from rfl] at hf47_0)
                              (try simp only [Nat.reduceMul, Nat.zero_mul, Nat.zero_add, Nat.reduceAdd] at hf47_0)
                              (try rw [show ((0 : Int)).toNat = 0 from rfl] at hx47_1)
                              (try simp only [Nat.reduceMul, Nat.zero_mul, Nat.zero_add, Nat.reduceAdd] at hx47_1)
                              (try rw [show ((0 : Int)).toNat = 0 from rfl] at hf47_1)
                              (try simp only [Nat.reduceMul, Nat.zero_mul, Nat.zero_add, Nat.reduceAdd] at hf47_1)
                              (try rw [show ((0 : Int)).toNat = 0 from rfl] at hx47_2)
                              (try simp only [Nat.reduceMul, Nat.zero_mul, Nat.zero_add, Nat.reduceAdd] at hx47_2)
                              (try rw [show ((0 : Int)).toNat = 0 from rfl] at hf47_2)
                              (try simp only [Nat.reduceMul, Nat.zero_mul, Nat.zero_add, Nat.reduceAdd] at hf47_2)
                              (try rw [show ((0 : Int)).toNat = 0 from rfl] at hx47_3)
                              (try simp only [Nat.reduceMul, Nat.zero_mul, Nat.zero_add, Nat.reduceAdd] at hx47_3)
                              (try rw [show ((0 : Int)).toNat = 0 from rfl] at hf47_3)
                              (try simp only [Nat.reduceMul, Nat.zero_mul, Nat.zero_add, Nat.reduceAdd] at hf47_3)
                              (try rw [show ((0 : Int)).toNat = 0 from rfl] at hx47_4)
                              (try simp only [Nat.reduceMul, Nat.zero_mul, Nat.zero_add, Nat.reduceAdd] at hx47_4)
                              (try rw [show ((0 : Int)).toNat = 0 from rfl] at hf47_4)
                              (try simp only [Nat.reduceMul, Nat.zero_mul, Nat.zero_add, Nat.reduceAdd] at hf47_4)
                              replace p47 := eq_true p47
                              replace q47 := eq_true q47
                              have HX50 := Aside0.mk (show Kd.R k41 41 wc w.heap.size (fun _ => True) (.slice (some ⟨go47, 0, none⟩) y188.length co47) y188 from (by (with_reducible repeat (first | apply Kd.R_alloc | apply Kd.R_drewN | apply Kd.R_drew)); exact HO_5.out))
                              obtain ⟨ce50, hcl50, hM50, hcc50, hfr50⟩ := Kd.R_elem HX50.out z41 (0 : Int) (by omega) (by have h_ : (0 : Int) < ((y188.length : Int) : Int) := of_decide_eq_true (by first | (with_reducible assumption) | assumption); first | exact h_ | (have e_ := (Kd.R_reads' HO_5.out).1; omega) | simpa using h_)
                              obtain rfl := k41_openM hM50
                              have HP50 := Kd.R_seg HX50.out (0 : Int) (by omega) (by have h_ : (0 : Int) < ((y188.length : Int) : Int) := of_decide_eq_true (by first | (with_reducible assumption) | assumption); first | exact h_ | (have e_ := (Kd.R_reads' HO_5.out).1; omega) | simpa using h_) (seg := [.bool false]) (j := 4) hcl50 hcc50 (show 5 ≤ 5 from by decide) (x' := (⟨(rd_T41 y188 0).f0, (rd_T41 y188 0).f1, (⟨(rd_T41 y188 0).f2.f0, (rd_T41 y188 0).f2.f1⟩ : S25), false⟩ : S41)) (k41_mkM _ _ _ (⟨(rd_T41 y188 0).f0, (rd_T41 y188 0).f1, (⟨(rd_T41 y188 0).f2.f0, (rd_T41 y188 0).f2.f1⟩ : S25), false⟩ : S41) ) (fun _ hk => hk)
                              have hx50_4 := hcc50 4 _ rfl
                              (try simp only [show (k41).sz = 5 from rfl, Nat.mul_one, Nat.add_zero] at hx50_4)
                              (try rw [show ((0 : Int)).toNat = 0 from rfl] at hx50_4)
                              (try simp only [Nat.reduceMul, Nat.zero_mul, Nat.zero_add, Nat.reduceAdd] at hx50_4)
                              have hf50_4 := hfr50 4
                              (try simp only [show (k41).sz = 5 from rfl, Nat.mul_one, Nat.add_zero] at hf50_4)
                              (try rw [show ((0 : Int)).toNat = 0 from rfl] at hf50_4)
                              (try simp only [Nat.reduceMul, Nat.zero_mul, Nat.zero_add, Nat.reduceAdd] at hf50_4)
                              clear hcl50 hcc50 hfr50 hM50
                              go_wp2_with (first | ((with_reducible refine gate_store (t := 4) (p := 42) rfl ?_); refine store_event (t := 4) (p := 42) (v := ?vo_w51) (w1 := (wc.setCell ⟨go47, 4, none⟩ (.bool false))) ?hg ?ho ?hn ?hr ?_; (case ho => rfl); (case hg => rfl); (case hn => rfl); (case hr => first | (go_simp; done) | (go_simp; rfl)); intro w51 hw; have hg : wc.grownBy w51 (some go47) := (by rw [hw]; exact HP50.2); have hp_ : Kd.R k41 41 w51 w.heap.size (fun _ => True) (.slice (some ⟨go47, 0, none⟩) y188.length co47) y198 := (by rw [hw, Ny198.out]; exact HP50.1); clear HP50; have n0_ := Aside0.mk (hp_); have n1_ := Aside0.mk (Kd.R_over' (v := (.slice (some ⟨go47, 0, none⟩) y188.length co47)) (by (with_reducible repeat (first | apply Kd.R_alloc | apply Kd.R_drewN | apply Kd.R_drew)); exact HO_184004.out) (Kd.R_typed HO_5.out) (by decide) hg); have n2_ := Aside0.mk (Kd.R_over' (v := (.slice (some ⟨go47, 0, none⟩) y188.length co47)) (by (with_reducible repeat (first | apply Kd.R_alloc | apply Kd.R_drewN | apply Kd.R_drew)); exact HO_184005.out) (Kd.R_typed HO_5.out) (by decide) hg); have n3_ := Aside0.mk (Kd.R_over' (v := (.slice (some ⟨go47, 0, none⟩) y188.length co47)) (by (with_reducible repeat (first | apply Kd.R_alloc | apply Kd.R_drewN | apply Kd.R_drew)); exact HO_188003.out) (Kd.R_typed HO_5.out) (by decide) hg); have n4_ := Aside0.mk (Kd.R_over' (v := (.slice (some ⟨go47, 0, none⟩) y188.length co47)) (by (with_reducible repeat (first | apply Kd.R_alloc | apply Kd.R_drewN | apply Kd.R_drew)); exact HO_188004.out) (Kd.R_typed HO_5.out) (by decide) hg); have n5_ := Aside0.mk (blk_grown (g := gb183) (o := .cells #[.string (⟨#[112]⟩ : ByteArray), .int .i64 0, .int .i64 3, .int .i64 0, .slice Ao9 y180.length co9, u184005, .bool x184006_40] 28 (0, 0)) (by (with_reducible repeat (first | refine blk_drewN ?_ _ | refine blk_drew ?_ | refine blk_alloc ?_ _)); exact BK183.out) hg (Kd.R_ne HO_5.out BK183.out (by decide))); have n6_ := Aside0.mk (blk_grown (g := gb187) (o := .cells #[.string (⟨#[110]⟩ : ByteArray), .int .i64 x188001_36, .int .i64 0, u188003, .slice Ao14 y184.length co14, .bool x188005_4] 31 (0, 0)) (by (with_reducible repeat (first | refine blk_drewN ?_ _ | refine blk_drew ?_ | refine blk_alloc ?_ _)); exact BK187.out) hg (Kd.R_ne HO_5.out BK187.out (by decide))); have n7_ := Aside0.mk ((by rw [hw]; exact below_set (HB.out) GB47.out : Below w.heap.size w w51)); clear HO_5; clear HO_184004; clear HO_184005; clear HO_188003; clear HO_188004; clear BK183; clear BK187; clear HB; have HO_5 := n0_; have HO_184004 := n1_; have HO_184005 := n2_; have HO_188003 := n3_; have HO_188004 := n4_; have BK183 := n5_; have BK187 := n6_; have HB := n7_; clear n0_ n1_ n2_ n3_ n4_ n5_ n6_ n7_; clear hg hw hp_; have hnb52 := NB183_187.out; have hnc52 := NB187_183.out; have hcz53_0 : w51.cell? ⟨gb183, 0, none⟩ = some (.string (⟨#[112]⟩ : ByteArray)) := (blk_cell BK183.out 0).trans rfl; have hcz53_1 : w51.cell? ⟨gb183, 1, none⟩ = some (.int .i64 0) := (blk_cell BK183.out 1).trans rfl; have hcz53_2 : w51.cell? ⟨gb183, 2, none⟩ = some (.int .i64 3) := (blk_cell BK183.out 2).trans rfl; have hcz53_3 : w51.cell? ⟨gb183, 3, none⟩ = some (.int .i64 0) := (blk_cell BK183.out 3).trans rfl; have hcz53_4 : w51.cell? ⟨gb183, 4, none⟩ = some (.slice Ao9 y180.length co9) := (blk_cell BK183.out 4).trans rfl; have hcz53_5 : w51.cell? ⟨gb183, 5, none⟩ = some (u184005) := (blk_cell BK183.out 5).trans rfl; have hcz53_6 : w51.cell? ⟨gb183, 6, none⟩ = some (.bool x184006_40) := (blk_cell BK183.out 6).trans rfl; have hfz53_0 := blk_frozen BK183.out 0; have hfz53_1 := blk_frozen BK183.out 1; have hfz53_2 := blk_frozen BK183.out 2; have hfz53_3 := blk_frozen BK183.out 3; have hfz53_4 := blk_frozen BK183.out 4; have hfz53_5 := blk_frozen BK183.out 5; have hfz53_6 := blk_frozen BK183.out 6; have hcz54_0 : w51.cell? ⟨gb187, 0, none⟩ = some (.string (⟨#[110]⟩ : ByteArray)) := (blk_cell BK187.out 0).trans rfl; have hcz54_1 : w51.cell? ⟨gb187, 1, none⟩ = some (.int .i64 x188001_36) := (blk_cell BK187.out 1).trans rfl; have hcz54_2 : w51.cell? ⟨gb187, 2, none⟩ = some (.int .i64 0) := (blk_cell BK187.out 2).trans rfl; have hcz54_3 : w51.cell? ⟨gb187, 3, none⟩ = some (u188003) := (blk_cell BK187.out 3).trans rfl; have hcz54_4 : w51.cell? ⟨gb187, 4, none⟩ = some (.slice Ao14 y184.length co14) := (blk_cell BK187.out 4).trans rfl; have hcz54_5 : w51.cell? ⟨gb187, 5, none⟩ = some (.bool x188005_4) := (blk_cell BK187.out 5).trans rfl; have hfz54_0 := blk_frozen BK187.out 0; have hfz54_1 := blk_frozen BK187.out 1; have hfz54_2 := blk_frozen BK187.out 2; have hfz54_3 := blk_frozen BK187.out 3; have hfz54_4 := blk_frozen BK187.out 4; have hfz54_5 := blk_frozen BK187.out 5; obtain ⟨Ao55, co55, eo55⟩ := Kd.R_slice HO_184005.out; subst eo55; obtain ⟨Ao56, co56, eo56⟩ := Kd.R_slice HO_188003.out; subst eo56) | ((with_reducible refine gate_callee (f := 16) rfl ?_); refine goesL_ (some 51) rfl rfl Try.func16 (by kernel_rfl) rfl #[.agg #[.string (⟨#[112]⟩ : ByteArray), .int .i64 0, .int .i64 3, .int .i64 0, .slice Ao9 y180.length co9, .slice Ao55 x184005_29.length co55, .bool x184006_40], .agg #[.string (⟨#[110]⟩ : ByteArray), .int .i64 x188001_36, .int .i64 0, .slice Ao56 x188003_22.length co56, .slice Ao14 y184.length co14, .bool x188005_4], .agg #[.int .i64 0, .int .i64 0], .slice (some ⟨go47, 0, none⟩) y198.length co47] rfl (by (try simp only [List.map_toArray, List.map_cons, List.map_nil]); first | done | (rw [show y198.length = y188.length from (Kd.R_reads' HO_5.out).1.symm] <;> rfl) | rfl | (simp only [List.length_drop, List.length_take]; rfl)) ?_; (with_reducible refine (fit_Why.calls kj40 (⟨#[112]⟩ : ByteArray) 0 3 0 _ _ y180 _ _ x184005_29 x184006_40 (⟨#[110]⟩ : ByteArray) x188001_36 0 _ _ x188003_22 _ _ y184 x188005_4 0 0 _ _ y198 t199 _ ?side1 ?side2 ?side3 ?side4 ?side5 ?side6 ?side7 ?side8 ?side9 ?side10 A49.out).mono ?_); (case side1 => repeat (first | exact (Kd.R_reads' HO_184004.out).2.2 | (with_reducible refine Kd.C_alloc ?_ _) | (with_reducible refine Kd.C_drewN ?_ _) | (with_reducible refine Kd.C_drew ?_))); (case side2 => exact (Kd.R_reads' HO_184004.out).2.1); (case side3 => repeat (first | exact (Kd.R_reads' HO_184005.out).2.2 | (with_reducible refine Kd.C_alloc ?_ _) | (with_reducible refine Kd.C_drewN ?_ _) | (with_reducible refine Kd.C_drew ?_))); (case side4 => exact (Kd.R_reads' HO_184005.out).2.1); (case side5 => repeat (first | exact (Kd.R_reads' HO_188003.out).2.2 | (with_reducible refine Kd.C_alloc ?_ _) | (with_reducible refine Kd.C_drewN ?_ _) | (with_reducible refine Kd.C_drew ?_))); (case side6 => exact (Kd.R_reads' HO_188003.out).2.1); (case side7 => repeat (first | exact (Kd.R_reads' HO_188004.out).2.2 | (with_reducible refine Kd.C_alloc ?_ _) | (with_reducible refine Kd.C_drewN ?_ _) | (with_reducible refine Kd.C_drew ?_))); (case side8 => exact (Kd.R_reads' HO_188004.out).2.1); (case side9 => repeat (first | exact (Kd.R_reads' HO_5.out).2.2 | (with_reducible refine Kd.C_alloc ?_ _) | (with_reducible refine Kd.C_drewN ?_ _) | (with_reducible refine Kd.C_drew ?_))); (case side10 => rw [show y198.length = y188.length from (Kd.R_reads' HO_5.out).1.symm]; exact (Kd.R_reads' HO_5.out).2.1); rintro e w57 ⟨rfl, hb⟩; refine ⟨_, rfl, ?_⟩; have n0_ := Aside0.mk (Kd.R_below (by (with_reducible repeat (first | apply Kd.R_alloc | apply Kd.R_drewN | apply Kd.R_drew)); exact HO_5.out) hb); have n1_ := Aside0.mk (Kd.R_below (by (with_reducible repeat (first | apply Kd.R_alloc | apply Kd.R_drewN | apply Kd.R_drew)); exact HO_184004.out) hb); have n2_ := Aside0.mk (Kd.R_below (by (with_reducible repeat (first | apply Kd.R_alloc | apply Kd.R_drewN | apply Kd.R_drew)); exact HO_184005.out) hb); have n3_ := Aside0.mk (Kd.R_below (by (with_reducible repeat (first | apply Kd.R_alloc | apply Kd.R_drewN | apply Kd.R_drew)); exact HO_188003.out) hb); have n4_ := Aside0.mk (Kd.R_below (by (with_reducible repeat (first | apply Kd.R_alloc | apply Kd.R_drewN | apply Kd.R_drew)); exact HO_188004.out) hb); have n5_ := Aside0.mk (blk_below (g := gb183) (o := .cells #[.string (⟨#[112]⟩ : ByteArray), .int .i64 0, .int .i64 3, .int .i64 0, .slice Ao9 y180.length co9, .slice Ao55 x184005_29.length co55, .bool x184006_40] 28 (0, 0)) (by (with_reducible repeat (first | refine blk_drewN ?_ _ | refine blk_drew ?_ | refine blk_alloc ?_ _)); exact BK183.out) hb); have n6_ := Aside0.mk (blk_below (g := gb187) (o := .cells #[.string (⟨#[110]⟩ : ByteArray), .int .i64 x188001_36, .int .i64 0, .slice Ao56 x188003_22.length co56, .slice Ao14 y184.length co14, .bool x188005_4] 31 (0, 0)) (by (with_reducible repeat (first | refine blk_drewN ?_ _ | refine blk_drew ?_ | refine blk_alloc ?_ _)); exact BK187.out) hb); have n7_ := Aside0.mk (below_step (by repeat (first | (with_reducible first | exact HB.out | apply below_alloc | apply pw_below_drewN | apply below_drew1 | refine below_set ?_ GE183.out | refine below_set ?_ GE187.out) | exact HB.out)) hb); clear HO_5; clear HO_184004; clear HO_184005; clear HO_188003; clear HO_188004; clear BK183; clear BK187; clear HB; have HO_5 := n0_; have HO_184004 := n1_; have HO_184005 := n2_; have HO_188003 := n3_; have HO_188004 := n4_; have BK183 := n5_; have BK187 := n6_; have HB := n7_; clear n0_ n1_ n2_ n3_ n4_ n5_ n6_ n7_; (try clear hb); (try clear hb2); (try clear hk); (try clear hi)))
                              go_ret
                              exact ⟨by first | rfl | (simp [errW_none, errW_some] <;> rfl) | (simp [*, errW_none, errW_some] <;> rfl), by repeat (first | (with_reducible first | exact HB.out | apply below_alloc | apply pw_below_drewN | apply below_drew1 | refine below_set ?_ GE183.out | refine below_set ?_ GE187.out) | exact HB.out)⟩
                            · rw [if_neg c48] at H
                              have c48b0 : (t191 == 6) = false := beq_eq_false_iff_ne.mpr c48
                              have c48b1 : (t191 != 6) = true := bne_iff_ne.mpr c48
                              replace H := Option.bind_eq_some_iff.mp H
                              obtain ⟨t200, A580, H⟩ := H
                              replace H : (some (t200 == (wrap64 (t191 + 1)))) = some r := H
                              have A58 := Aside0.mk A580
                              clear A580
                              obtain rfl := Option.some.inj H
                              have p47 : 0 ≤ (0 : Int) := (by omega)
                              have q47 : (0 : Int) < ((y188.length : Int) : Int) := of_decide_eq_true (by first | (with_reducible assumption) | assumption)
                              have qi47 : (0 < y188.length) = True := eq_true (by omega)
                              obtain ⟨go47, co47, eo47, gb47, gl47, cl47, HG47⟩ := Kd.R_form HO_5.out (by omega)
                              (first | cases eo47 | (injection eo47 with ea_ en_ ec_; (first | subst ea_ | (injection ea_ with ea_; subst ea_)); subst ec_; clear en_))
                              have GB47 := Aside0.mk gb47
                              have GG47 := Aside0.mk HG47
                              clear gb47 gl47 HG47
                              obtain ⟨ce47, hcl47, hM47, hcc47, hfr47⟩ := Kd.R_elem HO_5.out z41 (0 : Int) p47 q47
                              obtain rfl := k41_openM hM47
                              have hx47_0 : wc.cell? ⟨go47, (0 : Int).toNat * 5, none⟩ = some (.string ((rd_T41 y188 0).f0)) := hcc47 0 _ rfl
                              have hx47_1 : wc.cell? ⟨go47, (0 : Int).toNat * 5 + 1, none⟩ = some (.string ((rd_T41 y188 0).f1)) := hcc47 1 _ rfl
                              have hx47_2 : wc.cell? ⟨go47, (0 : Int).toNat * 5 + 2, none⟩ = some (.int .i64 ((rd_T41 y188 0).f2.f0)) := hcc47 2 _ rfl
                              have hx47_3 : wc.cell? ⟨go47, (0 : Int).toNat * 5 + 3, none⟩ = some (.int .i64 ((rd_T41 y188 0).f2.f1)) := hcc47 3 _ rfl
                              have hx47_4 : wc.cell? ⟨go47, (0 : Int).toNat * 5 + 4, none⟩ = some (.bool ((rd_T41 y188 0).f3)) := hcc47 4 _ rfl
                              have hf47_0 : wc.frozen? ⟨go47, (0 : Int).toNat * 5, none⟩ = false := hfr47 0
                              have hf47_1 : wc.frozen? ⟨go47, (0 : Int).toNat * 5 + 1, none⟩ = false := hfr47 1
                              have hf47_2 : wc.frozen? ⟨go47, (0 : Int).toNat * 5 + 2, none⟩ = false := hfr47 2
                              have hf47_3 : wc.frozen? ⟨go47, (0 : Int).toNat * 5 + 3, none⟩ = false := hfr47 3
                              have hf47_4 : wc.frozen? ⟨go47, (0 : Int).toNat * 5 + 4, none⟩ = false := hfr47 4
                              clear hcl47 hcc47 hfr47 hM47
                              (try rw [show ((0 : Int)).toNat = 0 from rfl] at hx47_0)
                              (try simp only [Nat.reduceMul, Nat.zero_mul, Nat.zero_add, Nat.reduceAdd] at hx47_0)
                              (try rw [show ((0 : Int)).toNat = 0 from rfl] at hf47_0)
                              (try simp only [Nat.reduceMul, Nat.zero_mul, Nat.zero_add, Nat.reduceAdd] at hf47_0)
                              (try rw [show ((0 : Int)).toNat = 0 from rfl] at hx47_1)
                              (try simp only [Nat.reduceMul, Nat.zero_mul, Nat.zero_add, Nat.reduceAdd] at hx47_1)
                              (try rw [show ((0 : Int)).toNat = 0 from rfl] at hf47_1)
                              (try simp only [Nat.reduceMul, Nat.zero_mul, Nat.zero_add, Nat.reduceAdd] at hf47_1)
                              (try rw [show ((0 : Int)).toNat = 0 from rfl] at hx47_2)
                              (try simp only [Nat.reduceMul, Nat.zero_mul, Nat.zero_add, Nat.reduceAdd] at hx47_2)
                              (try rw [show ((0 : Int)).toNat = 0 from rfl] at hf47_2)
                              (try simp only [Nat.reduceMul, Nat.zero_mul, Nat.zero_add, Nat.reduceAdd] at hf47_2)
                              (try rw [show ((0 : Int)).toNat = 0 from rfl] at hx47_3)
                              (try simp only [Nat.reduceMul, Nat.zero_mul, Nat.zero_add, Nat.reduceAdd] at hx47_3)
                              (try rw [show ((0 : Int)).toNat = 0 from rfl] at hf47_3)
                              (try simp only [Nat.reduceMul, Nat.zero_mul, Nat.zero_add, Nat.reduceAdd] at hf47_3)
                              (try rw [show ((0 : Int)).toNat = 0 from rfl] at hx47_4)
                              (try simp only [Nat.reduceMul, Nat.zero_mul, Nat.zero_add, Nat.reduceAdd] at hx47_4)
                              (try rw [show ((0 : Int)).toNat = 0 from rfl] at hf47_4)
                              (try simp only [Nat.reduceMul, Nat.zero_mul, Nat.zero_add, Nat.reduceAdd] at hf47_4)
                              replace p47 := eq_true p47
                              replace q47 := eq_true q47
                              have HX59 := Aside0.mk (show Kd.R k41 41 wc w.heap.size (fun _ => True) (.slice (some ⟨go47, 0, none⟩) y188.length co47) y188 from (by (with_reducible repeat (first | apply Kd.R_alloc | apply Kd.R_drewN | apply Kd.R_drew)); exact HO_5.out))
                              obtain ⟨ce59, hcl59, hM59, hcc59, hfr59⟩ := Kd.R_elem HX59.out z41 (0 : Int) (by omega) (by have h_ : (0 : Int) < ((y188.length : Int) : Int) := of_decide_eq_true (by first | (with_reducible assumption) | assumption); first | exact h_ | (have e_ := (Kd.R_reads' HO_5.out).1; omega) | simpa using h_)
                              obtain rfl := k41_openM hM59
                              have HP59 := Kd.R_seg HX59.out (0 : Int) (by omega) (by have h_ : (0 : Int) < ((y188.length : Int) : Int) := of_decide_eq_true (by first | (with_reducible assumption) | assumption); first | exact h_ | (have e_ := (Kd.R_reads' HO_5.out).1; omega) | simpa using h_) (seg := [.bool false]) (j := 4) hcl59 hcc59 (show 5 ≤ 5 from by decide) (x' := (⟨(rd_T41 y188 0).f0, (rd_T41 y188 0).f1, (⟨(rd_T41 y188 0).f2.f0, (rd_T41 y188 0).f2.f1⟩ : S25), false⟩ : S41)) (k41_mkM _ _ _ (⟨(rd_T41 y188 0).f0, (rd_T41 y188 0).f1, (⟨(rd_T41 y188 0).f2.f0, (rd_T41 y188 0).f2.f1⟩ : S25), false⟩ : S41) ) (fun _ hk => hk)
                              have hx59_4 := hcc59 4 _ rfl
                              (try simp only [show (k41).sz = 5 from rfl, Nat.mul_one, Nat.add_zero] at hx59_4)
                              (try rw [show ((0 : Int)).toNat = 0 from rfl] at hx59_4)
                              (try simp only [Nat.reduceMul, Nat.zero_mul, Nat.zero_add, Nat.reduceAdd] at hx59_4)
                              have hf59_4 := hfr59 4
                              (try simp only [show (k41).sz = 5 from rfl, Nat.mul_one, Nat.add_zero] at hf59_4)
                              (try rw [show ((0 : Int)).toNat = 0 from rfl] at hf59_4)
                              (try simp only [Nat.reduceMul, Nat.zero_mul, Nat.zero_add, Nat.reduceAdd] at hf59_4)
                              clear hcl59 hcc59 hfr59 hM59
                              go_wp2_with (first | ((with_reducible refine gate_store (t := 4) (p := 42) rfl ?_); refine store_event (t := 4) (p := 42) (v := ?vo_w60) (w1 := (wc.setCell ⟨go47, 4, none⟩ (.bool false))) ?hg ?ho ?hn ?hr ?_; (case ho => rfl); (case hg => rfl); (case hn => rfl); (case hr => first | (go_simp; done) | (go_simp; rfl)); intro w60 hw; have hg : wc.grownBy w60 (some go47) := (by rw [hw]; exact HP59.2); have hp_ : Kd.R k41 41 w60 w.heap.size (fun _ => True) (.slice (some ⟨go47, 0, none⟩) y188.length co47) y198 := (by rw [hw, Ny198.out]; exact HP59.1); clear HP59; have n0_ := Aside0.mk (hp_); have n1_ := Aside0.mk (Kd.R_over' (v := (.slice (some ⟨go47, 0, none⟩) y188.length co47)) (by (with_reducible repeat (first | apply Kd.R_alloc | apply Kd.R_drewN | apply Kd.R_drew)); exact HO_184004.out) (Kd.R_typed HO_5.out) (by decide) hg); have n2_ := Aside0.mk (Kd.R_over' (v := (.slice (some ⟨go47, 0, none⟩) y188.length co47)) (by (with_reducible repeat (first | apply Kd.R_alloc | apply Kd.R_drewN | apply Kd.R_drew)); exact HO_184005.out) (Kd.R_typed HO_5.out) (by decide) hg); have n3_ := Aside0.mk (Kd.R_over' (v := (.slice (some ⟨go47, 0, none⟩) y188.length co47)) (by (with_reducible repeat (first | apply Kd.R_alloc | apply Kd.R_drewN | apply Kd.R_drew)); exact HO_188003.out) (Kd.R_typed HO_5.out) (by decide) hg); have n4_ := Aside0.mk (Kd.R_over' (v := (.slice (some ⟨go47, 0, none⟩) y188.length co47)) (by (with_reducible repeat (first | apply Kd.R_alloc | apply Kd.R_drewN | apply Kd.R_drew)); exact HO_188004.out) (Kd.R_typed HO_5.out) (by decide) hg); have n5_ := Aside0.mk (blk_grown (g := gb183) (o := .cells #[.string (⟨#[112]⟩ : ByteArray), .int .i64 0, .int .i64 3, .int .i64 0, .slice Ao9 y180.length co9, u184005, .bool x184006_40] 28 (0, 0)) (by (with_reducible repeat (first | refine blk_drewN ?_ _ | refine blk_drew ?_ | refine blk_alloc ?_ _)); exact BK183.out) hg (Kd.R_ne HO_5.out BK183.out (by decide))); have n6_ := Aside0.mk (blk_grown (g := gb187) (o := .cells #[.string (⟨#[110]⟩ : ByteArray), .int .i64 x188001_36, .int .i64 0, u188003, .slice Ao14 y184.length co14, .bool x188005_4] 31 (0, 0)) (by (with_reducible repeat (first | refine blk_drewN ?_ _ | refine blk_drew ?_ | refine blk_alloc ?_ _)); exact BK187.out) hg (Kd.R_ne HO_5.out BK187.out (by decide))); have n7_ := Aside0.mk ((by rw [hw]; exact below_set (HB.out) GB47.out : Below w.heap.size w w60)); clear HO_5; clear HO_184004; clear HO_184005; clear HO_188003; clear HO_188004; clear BK183; clear BK187; clear HB; have HO_5 := n0_; have HO_184004 := n1_; have HO_184005 := n2_; have HO_188003 := n3_; have HO_188004 := n4_; have BK183 := n5_; have BK187 := n6_; have HB := n7_; clear n0_ n1_ n2_ n3_ n4_ n5_ n6_ n7_; clear hg hw hp_; have hnb61 := NB183_187.out; have hnc61 := NB187_183.out; have hcz62_0 : w60.cell? ⟨gb183, 0, none⟩ = some (.string (⟨#[112]⟩ : ByteArray)) := (blk_cell BK183.out 0).trans rfl; have hcz62_1 : w60.cell? ⟨gb183, 1, none⟩ = some (.int .i64 0) := (blk_cell BK183.out 1).trans rfl; have hcz62_2 : w60.cell? ⟨gb183, 2, none⟩ = some (.int .i64 3) := (blk_cell BK183.out 2).trans rfl; have hcz62_3 : w60.cell? ⟨gb183, 3, none⟩ = some (.int .i64 0) := (blk_cell BK183.out 3).trans rfl; have hcz62_4 : w60.cell? ⟨gb183, 4, none⟩ = some (.slice Ao9 y180.length co9) := (blk_cell BK183.out 4).trans rfl; have hcz62_5 : w60.cell? ⟨gb183, 5, none⟩ = some (u184005) := (blk_cell BK183.out 5).trans rfl; have hcz62_6 : w60.cell? ⟨gb183, 6, none⟩ = some (.bool x184006_40) := (blk_cell BK183.out 6).trans rfl; have hfz62_0 := blk_frozen BK183.out 0; have hfz62_1 := blk_frozen BK183.out 1; have hfz62_2 := blk_frozen BK183.out 2; have hfz62_3 := blk_frozen BK183.out 3; have hfz62_4 := blk_frozen BK183.out 4; have hfz62_5 := blk_frozen BK183.out 5; have hfz62_6 := blk_frozen BK183.out 6; have hcz63_0 : w60.cell? ⟨gb187, 0, none⟩ = some (.string (⟨#[110]⟩ : ByteArray)) := (blk_cell BK187.out 0).trans rfl; have hcz63_1 : w60.cell? ⟨gb187, 1, none⟩ = some (.int .i64 x188001_36) := (blk_cell BK187.out 1).trans rfl; have hcz63_2 : w60.cell? ⟨gb187, 2, none⟩ = some (.int .i64 0) := (blk_cell BK187.out 2).trans rfl; have hcz63_3 : w60.cell? ⟨gb187, 3, none⟩ = some (u188003) := (blk_cell BK187.out 3).trans rfl; have hcz63_4 : w60.cell? ⟨gb187, 4, none⟩ = some (.slice Ao14 y184.length co14) := (blk_cell BK187.out 4).trans rfl; have hcz63_5 : w60.cell? ⟨gb187, 5, none⟩ = some (.bool x188005_4) := (blk_cell BK187.out 5).trans rfl; have hfz63_0 := blk_frozen BK187.out 0; have hfz63_1 := blk_frozen BK187.out 1; have hfz63_2 := blk_frozen BK187.out 2; have hfz63_3 := blk_frozen BK187.out 3; have hfz63_4 := blk_frozen BK187.out 4; have hfz63_5 := blk_frozen BK187.out 5; obtain ⟨Ao64, co64, eo64⟩ := Kd.R_slice HO_184005.out; subst eo64; obtain ⟨Ao65, co65, eo65⟩ := Kd.R_slice HO_188003.out; subst eo65) | ((with_reducible refine gate_callee (f := 16) rfl ?_); refine goesL_ (some 51) rfl rfl Try.func16 (by kernel_rfl) rfl #[.agg #[.string (⟨#[112]⟩ : ByteArray), .int .i64 0, .int .i64 3, .int .i64 0, .slice Ao9 y180.length co9, .slice Ao64 x184005_29.length co64, .bool x184006_40], .agg #[.string (⟨#[110]⟩ : ByteArray), .int .i64 x188001_36, .int .i64 0, .slice Ao65 x188003_22.length co65, .slice Ao14 y184.length co14, .bool x188005_4], .agg #[.int .i64 0, .int .i64 0], .slice (some ⟨go47, 0, none⟩) y198.length co47] rfl (by (try simp only [List.map_toArray, List.map_cons, List.map_nil]); first | done | (rw [show y198.length = y188.length from (Kd.R_reads' HO_5.out).1.symm] <;> rfl) | rfl | (simp only [List.length_drop, List.length_take]; rfl)) ?_; (with_reducible refine (fit_Why.calls kj40 (⟨#[112]⟩ : ByteArray) 0 3 0 _ _ y180 _ _ x184005_29 x184006_40 (⟨#[110]⟩ : ByteArray) x188001_36 0 _ _ x188003_22 _ _ y184 x188005_4 0 0 _ _ y198 t200 _ ?side1 ?side2 ?side3 ?side4 ?side5 ?side6 ?side7 ?side8 ?side9 ?side10 A58.out).mono ?_); (case side1 => repeat (first | exact (Kd.R_reads' HO_184004.out).2.2 | (with_reducible refine Kd.C_alloc ?_ _) | (with_reducible refine Kd.C_drewN ?_ _) | (with_reducible refine Kd.C_drew ?_))); (case side2 => exact (Kd.R_reads' HO_184004.out).2.1); (case side3 => repeat (first | exact (Kd.R_reads' HO_184005.out).2.2 | (with_reducible refine Kd.C_alloc ?_ _) | (with_reducible refine Kd.C_drewN ?_ _) | (with_reducible refine Kd.C_drew ?_))); (case side4 => exact (Kd.R_reads' HO_184005.out).2.1); (case side5 => repeat (first | exact (Kd.R_reads' HO_188003.out).2.2 | (with_reducible refine Kd.C_alloc ?_ _) | (with_reducible refine Kd.C_drewN ?_ _) | (with_reducible refine Kd.C_drew ?_))); (case side6 => exact (Kd.R_reads' HO_188003.out).2.1); (case side7 => repeat (first | exact (Kd.R_reads' HO_188004.out).2.2 | (with_reducible refine Kd.C_alloc ?_ _) | (with_reducible refine Kd.C_drewN ?_ _) | (with_reducible refine Kd.C_drew ?_))); (case side8 => exact (Kd.R_reads' HO_188004.out).2.1); (case side9 => repeat (first | exact (Kd.R_reads' HO_5.out).2.2 | (with_reducible refine Kd.C_alloc ?_ _) | (with_reducible refine Kd.C_drewN ?_ _) | (with_reducible refine Kd.C_drew ?_))); (case side10 => rw [show y198.length = y188.length from (Kd.R_reads' HO_5.out).1.symm]; exact (Kd.R_reads' HO_5.out).2.1); rintro e w66 ⟨rfl, hb⟩; refine ⟨_, rfl, ?_⟩; have n0_ := Aside0.mk (Kd.R_below (by (with_reducible repeat (first | apply Kd.R_alloc | apply Kd.R_drewN | apply Kd.R_drew)); exact HO_5.out) hb); have n1_ := Aside0.mk (Kd.R_below (by (with_reducible repeat (first | apply Kd.R_alloc | apply Kd.R_drewN | apply Kd.R_drew)); exact HO_184004.out) hb); have n2_ := Aside0.mk (Kd.R_below (by (with_reducible repeat (first | apply Kd.R_alloc | apply Kd.R_drewN | apply Kd.R_drew)); exact HO_184005.out) hb); have n3_ := Aside0.mk (Kd.R_below (by (with_reducible repeat (first | apply Kd.R_alloc | apply Kd.R_drewN | apply Kd.R_drew)); exact HO_188003.out) hb); have n4_ := Aside0.mk (Kd.R_below (by (with_reducible repeat (first | apply Kd.R_alloc | apply Kd.R_drewN | apply Kd.R_drew)); exact HO_188004.out) hb); have n5_ := Aside0.mk (blk_below (g := gb183) (o := .cells #[.string (⟨#[112]⟩ : ByteArray), .int .i64 0, .int .i64 3, .int .i64 0, .slice Ao9 y180.length co9, .slice Ao64 x184005_29.length co64, .bool x184006_40] 28 (0, 0)) (by (with_reducible repeat (first | refine blk_drewN ?_ _ | refine blk_drew ?_ | refine blk_alloc ?_ _)); exact BK183.out) hb); have n6_ := Aside0.mk (blk_below (g := gb187) (o := .cells #[.string (⟨#[110]⟩ : ByteArray), .int .i64 x188001_36, .int .i64 0, .slice Ao65 x188003_22.length co65, .slice Ao14 y184.length co14, .bool x188005_4] 31 (0, 0)) (by (with_reducible repeat (first | refine blk_drewN ?_ _ | refine blk_drew ?_ | refine blk_alloc ?_ _)); exact BK187.out) hb); have n7_ := Aside0.mk (below_step (by repeat (first | (with_reducible first | exact HB.out | apply below_alloc | apply pw_below_drewN | apply below_drew1 | refine below_set ?_ GE183.out | refine below_set ?_ GE187.out) | exact HB.out)) hb); clear HO_5; clear HO_184004; clear HO_184005; clear HO_188003; clear HO_188004; clear BK183; clear BK187; clear HB; have HO_5 := n0_; have HO_184004 := n1_; have HO_184005 := n2_; have HO_188003 := n3_; have HO_188004 := n4_; have BK183 := n5_; have BK187 := n6_; have HB := n7_; clear n0_ n1_ n2_ n3_ n4_ n5_ n6_ n7_; (try clear hb); (try clear hb2); (try clear hk); (try clear hi)))
                              go_ret
                              exact ⟨by first | rfl | (simp [errW_none, errW_some] <;> rfl) | (simp [*, errW_none, errW_some] <;> rfl), by repeat (first | (with_reducible first | exact HB.out | apply below_alloc | apply pw_below_drewN | apply below_drew1 | refine below_set ?_ GE183.out | refine below_set ?_ GE187.out) | exact HB.out)⟩
                          · rw [if_neg c46] at H
                            exact absurd H (by simp)
                        · rw [if_neg c45] at H
                          have c45b0 : decide (5 < t191) = false := decide_eq_false c45
                          clear c45
                          by_cases c67 : t191 = 6
                          · rw [if_pos c67] at H
                            have c67b0 : (t191 == 6) = true := beq_iff_eq.mpr c67
                            have c67b1 : (t191 != 6) = false := bne_eq_false_iff_eq.mpr c67
                            clear c67
                            replace H := Option.bind_eq_some_iff.mp H
                            obtain ⟨t201, A680, H⟩ := H
                            replace H : (some (t201 == 0)) = some r := H
                            have A68 := Aside0.mk A680
                            clear A680
                            obtain rfl := Option.some.inj H
                            have hnb69 := NB183_187.out
                            have hnc69 := NB187_183.out
                            have hcz70_0 : wc.cell? ⟨gb183, 0, none⟩ = some (.string (⟨#[112]⟩ : ByteArray)) := (blk_cell BK183.out 0).trans rfl
                            have hcz70_1 : wc.cell? ⟨gb183, 1, none⟩ = some (.int .i64 0) := (blk_cell BK183.out 1).trans rfl
                            have hcz70_2 : wc.cell? ⟨gb183, 2, none⟩ = some (.int .i64 3) := (blk_cell BK183.out 2).trans rfl
                            have hcz70_3 : wc.cell? ⟨gb183, 3, none⟩ = some (.int .i64 0) := (blk_cell BK183.out 3).trans rfl
                            have hcz70_4 : wc.cell? ⟨gb183, 4, none⟩ = some (.slice Ao9 y180.length co9) := (blk_cell BK183.out 4).trans rfl
                            have hcz70_5 : wc.cell? ⟨gb183, 5, none⟩ = some (u184005) := (blk_cell BK183.out 5).trans rfl
                            have hcz70_6 : wc.cell? ⟨gb183, 6, none⟩ = some (.bool x184006_40) := (blk_cell BK183.out 6).trans rfl
                            have hfz70_0 := blk_frozen BK183.out 0
                            have hfz70_1 := blk_frozen BK183.out 1
                            have hfz70_2 := blk_frozen BK183.out 2
                            have hfz70_3 := blk_frozen BK183.out 3
                            have hfz70_4 := blk_frozen BK183.out 4
                            have hfz70_5 := blk_frozen BK183.out 5
                            have hfz70_6 := blk_frozen BK183.out 6
                            have hcz71_0 : wc.cell? ⟨gb187, 0, none⟩ = some (.string (⟨#[110]⟩ : ByteArray)) := (blk_cell BK187.out 0).trans rfl
                            have hcz71_1 : wc.cell? ⟨gb187, 1, none⟩ = some (.int .i64 x188001_36) := (blk_cell BK187.out 1).trans rfl
                            have hcz71_2 : wc.cell? ⟨gb187, 2, none⟩ = some (.int .i64 0) := (blk_cell BK187.out 2).trans rfl
                            have hcz71_3 : wc.cell? ⟨gb187, 3, none⟩ = some (u188003) := (blk_cell BK187.out 3).trans rfl
                            have hcz71_4 : wc.cell? ⟨gb187, 4, none⟩ = some (.slice Ao14 y184.length co14) := (blk_cell BK187.out 4).trans rfl
                            have hcz71_5 : wc.cell? ⟨gb187, 5, none⟩ = some (.bool x188005_4) := (blk_cell BK187.out 5).trans rfl
                            have hfz71_0 := blk_frozen BK187.out 0
                            have hfz71_1 := blk_frozen BK187.out 1
                            have hfz71_2 := blk_frozen BK187.out 2
                            have hfz71_3 := blk_frozen BK187.out 3
                            have hfz71_4 := blk_frozen BK187.out 4
                            have hfz71_5 := blk_frozen BK187.out 5
                            obtain ⟨Ao72, co72, eo72⟩ := Kd.R_slice HO_184005.out
                            subst eo72
                            obtain ⟨Ao73, co73, eo73⟩ := Kd.R_slice HO_188003.out
                            subst eo73
                            obtain ⟨Ao74, co74, eo74⟩ := Kd.R_slice HO_5.out
                            subst eo74
                            go_wp2_with (first | ((with_reducible refine gate_callee (f := 16) rfl ?_); refine goesL_ (some 51) rfl rfl Try.func16 (by kernel_rfl) rfl #[.agg #[.string (⟨#[112]⟩ : ByteArray), .int .i64 0, .int .i64 3, .int .i64 0, .slice Ao9 y180.length co9, .slice Ao72 x184005_29.length co72, .bool x184006_40], .agg #[.string (⟨#[110]⟩ : ByteArray), .int .i64 x188001_36, .int .i64 0, .slice Ao73 x188003_22.length co73, .slice Ao14 y184.length co14, .bool x188005_4], .agg #[.int .i64 0, .int .i64 0], .slice Ao74 y188.length co74] rfl (by (try simp only [List.map_toArray, List.map_cons, List.map_nil]); first | done | rfl | (simp only [List.length_drop, List.length_take]; rfl)) ?_; (with_reducible refine (fit_Why.calls kj40 (⟨#[112]⟩ : ByteArray) 0 3 0 _ _ y180 _ _ x184005_29 x184006_40 (⟨#[110]⟩ : ByteArray) x188001_36 0 _ _ x188003_22 _ _ y184 x188005_4 0 0 _ _ y188 t201 _ ?side1 ?side2 ?side3 ?side4 ?side5 ?side6 ?side7 ?side8 ?side9 ?side10 A68.out).mono ?_); (case side1 => repeat (first | exact (Kd.R_reads' HO_184004.out).2.2 | (with_reducible refine Kd.C_alloc ?_ _) | (with_reducible refine Kd.C_drewN ?_ _) | (with_reducible refine Kd.C_drew ?_))); (case side2 => exact (Kd.R_reads' HO_184004.out).2.1); (case side3 => repeat (first | exact (Kd.R_reads' HO_184005.out).2.2 | (with_reducible refine Kd.C_alloc ?_ _) | (with_reducible refine Kd.C_drewN ?_ _) | (with_reducible refine Kd.C_drew ?_))); (case side4 => exact (Kd.R_reads' HO_184005.out).2.1); (case side5 => repeat (first | exact (Kd.R_reads' HO_188003.out).2.2 | (with_reducible refine Kd.C_alloc ?_ _) | (with_reducible refine Kd.C_drewN ?_ _) | (with_reducible refine Kd.C_drew ?_))); (case side6 => exact (Kd.R_reads' HO_188003.out).2.1); (case side7 => repeat (first | exact (Kd.R_reads' HO_188004.out).2.2 | (with_reducible refine Kd.C_alloc ?_ _) | (with_reducible refine Kd.C_drewN ?_ _) | (with_reducible refine Kd.C_drew ?_))); (case side8 => exact (Kd.R_reads' HO_188004.out).2.1); (case side9 => repeat (first | exact (Kd.R_reads' HO_5.out).2.2 | (with_reducible refine Kd.C_alloc ?_ _) | (with_reducible refine Kd.C_drewN ?_ _) | (with_reducible refine Kd.C_drew ?_))); (case side10 => exact (Kd.R_reads' HO_5.out).2.1); rintro e w75 ⟨rfl, hb⟩; refine ⟨_, rfl, ?_⟩; have n0_ := Aside0.mk (Kd.R_below (by (with_reducible repeat (first | apply Kd.R_alloc | apply Kd.R_drewN | apply Kd.R_drew)); exact HO_5.out) hb); have n1_ := Aside0.mk (Kd.R_below (by (with_reducible repeat (first | apply Kd.R_alloc | apply Kd.R_drewN | apply Kd.R_drew)); exact HO_184004.out) hb); have n2_ := Aside0.mk (Kd.R_below (by (with_reducible repeat (first | apply Kd.R_alloc | apply Kd.R_drewN | apply Kd.R_drew)); exact HO_184005.out) hb); have n3_ := Aside0.mk (Kd.R_below (by (with_reducible repeat (first | apply Kd.R_alloc | apply Kd.R_drewN | apply Kd.R_drew)); exact HO_188003.out) hb); have n4_ := Aside0.mk (Kd.R_below (by (with_reducible repeat (first | apply Kd.R_alloc | apply Kd.R_drewN | apply Kd.R_drew)); exact HO_188004.out) hb); have n5_ := Aside0.mk (blk_below (g := gb183) (o := .cells #[.string (⟨#[112]⟩ : ByteArray), .int .i64 0, .int .i64 3, .int .i64 0, .slice Ao9 y180.length co9, .slice Ao72 x184005_29.length co72, .bool x184006_40] 28 (0, 0)) (by (with_reducible repeat (first | refine blk_drewN ?_ _ | refine blk_drew ?_ | refine blk_alloc ?_ _)); exact BK183.out) hb); have n6_ := Aside0.mk (blk_below (g := gb187) (o := .cells #[.string (⟨#[110]⟩ : ByteArray), .int .i64 x188001_36, .int .i64 0, .slice Ao73 x188003_22.length co73, .slice Ao14 y184.length co14, .bool x188005_4] 31 (0, 0)) (by (with_reducible repeat (first | refine blk_drewN ?_ _ | refine blk_drew ?_ | refine blk_alloc ?_ _)); exact BK187.out) hb); have n7_ := Aside0.mk (below_step (by repeat (first | (with_reducible first | exact HB.out | apply below_alloc | apply pw_below_drewN | apply below_drew1 | refine below_set ?_ GE183.out | refine below_set ?_ GE187.out) | exact HB.out)) hb); clear HO_5; clear HO_184004; clear HO_184005; clear HO_188003; clear HO_188004; clear BK183; clear BK187; clear HB; have HO_5 := n0_; have HO_184004 := n1_; have HO_184005 := n2_; have HO_188003 := n3_; have HO_188004 := n4_; have BK183 := n5_; have BK187 := n6_; have HB := n7_; clear n0_ n1_ n2_ n3_ n4_ n5_ n6_ n7_; (try clear hb); (try clear hb2); (try clear hk); (try clear hi)))
                            go_ret
                            exact ⟨by first | rfl | (simp [errW_none, errW_some] <;> rfl) | (simp [*, errW_none, errW_some] <;> rfl), by repeat (first | (with_reducible first | exact HB.out | apply below_alloc | apply pw_below_drewN | apply below_drew1 | refine below_set ?_ GE183.out | refine below_set ?_ GE187.out) | exact HB.out)⟩
                          · rw [if_neg c67] at H
                            have c67b0 : (t191 == 6) = false := beq_eq_false_iff_ne.mpr c67
                            have c67b1 : (t191 != 6) = true := bne_iff_ne.mpr c67
                            replace H := Option.bind_eq_some_iff.mp H
                            obtain ⟨t202, A760, H⟩ := H
                            replace H : (some (t202 == (wrap64 (t191 + 1)))) = some r := H
                            have A76 := Aside0.mk A760
                            clear A760
                            obtain rfl := Option.some.inj H
                            have hnb77 := NB183_187.out
                            have hnc77 := NB187_183.out
                            have hcz78_0 : wc.cell? ⟨gb183, 0, none⟩ = some (.string (⟨#[112]⟩ : ByteArray)) := (blk_cell BK183.out 0).trans rfl
                            have hcz78_1 : wc.cell? ⟨gb183, 1, none⟩ = some (.int .i64 0) := (blk_cell BK183.out 1).trans rfl
                            have hcz78_2 : wc.cell? ⟨gb183, 2, none⟩ = some (.int .i64 3) := (blk_cell BK183.out 2).trans rfl
                            have hcz78_3 : wc.cell? ⟨gb183, 3, none⟩ = some (.int .i64 0) := (blk_cell BK183.out 3).trans rfl
                            have hcz78_4 : wc.cell? ⟨gb183, 4, none⟩ = some (.slice Ao9 y180.length co9) := (blk_cell BK183.out 4).trans rfl
                            have hcz78_5 : wc.cell? ⟨gb183, 5, none⟩ = some (u184005) := (blk_cell BK183.out 5).trans rfl
                            have hcz78_6 : wc.cell? ⟨gb183, 6, none⟩ = some (.bool x184006_40) := (blk_cell BK183.out 6).trans rfl
                            have hfz78_0 := blk_frozen BK183.out 0
                            have hfz78_1 := blk_frozen BK183.out 1
                            have hfz78_2 := blk_frozen BK183.out 2
                            have hfz78_3 := blk_frozen BK183.out 3
                            have hfz78_4 := blk_frozen BK183.out 4
                            have hfz78_5 := blk_frozen BK183.out 5
                            have hfz78_6 := blk_frozen BK183.out 6
                            have hcz79_0 : wc.cell? ⟨gb187, 0, none⟩ = some (.string (⟨#[110]⟩ : ByteArray)) := (blk_cell BK187.out 0).trans rfl
                            have hcz79_1 : wc.cell? ⟨gb187, 1, none⟩ = some (.int .i64 x188001_36) := (blk_cell BK187.out 1).trans rfl
                            have hcz79_2 : wc.cell? ⟨gb187, 2, none⟩ = some (.int .i64 0) := (blk_cell BK187.out 2).trans rfl
                            have hcz79_3 : wc.cell? ⟨gb187, 3, none⟩ = some (u188003) := (blk_cell BK187.out 3).trans rfl
                            have hcz79_4 : wc.cell? ⟨gb187, 4, none⟩ = some (.slice Ao14 y184.length co14) := (blk_cell BK187.out 4).trans rfl
                            have hcz79_5 : wc.cell? ⟨gb187, 5, none⟩ = some (.bool x188005_4) := (blk_cell BK187.out 5).trans rfl
                            have hfz79_0 := blk_frozen BK187.out 0
                            have hfz79_1 := blk_frozen BK187.out 1
                            have hfz79_2 := blk_frozen BK187.out 2
                            have hfz79_3 := blk_frozen BK187.out 3
                            have hfz79_4 := blk_frozen BK187.out 4
                            have hfz79_5 := blk_frozen BK187.out 5
                            obtain ⟨Ao80, co80, eo80⟩ := Kd.R_slice HO_184005.out
                            subst eo80
                            obtain ⟨Ao81, co81, eo81⟩ := Kd.R_slice HO_188003.out
                            subst eo81
                            obtain ⟨Ao82, co82, eo82⟩ := Kd.R_slice HO_5.out
                            subst eo82
                            go_wp2_with (first | ((with_reducible refine gate_callee (f := 16) rfl ?_); refine goesL_ (some 51) rfl rfl Try.func16 (by kernel_rfl) rfl #[.agg #[.string (⟨#[112]⟩ : ByteArray), .int .i64 0, .int .i64 3, .int .i64 0, .slice Ao9 y180.length co9, .slice Ao80 x184005_29.length co80, .bool x184006_40], .agg #[.string (⟨#[110]⟩ : ByteArray), .int .i64 x188001_36, .int .i64 0, .slice Ao81 x188003_22.length co81, .slice Ao14 y184.length co14, .bool x188005_4], .agg #[.int .i64 0, .int .i64 0], .slice Ao82 y188.length co82] rfl (by (try simp only [List.map_toArray, List.map_cons, List.map_nil]); first | done | rfl | (simp only [List.length_drop, List.length_take]; rfl)) ?_; (with_reducible refine (fit_Why.calls kj40 (⟨#[112]⟩ : ByteArray) 0 3 0 _ _ y180 _ _ x184005_29 x184006_40 (⟨#[110]⟩ : ByteArray) x188001_36 0 _ _ x188003_22 _ _ y184 x188005_4 0 0 _ _ y188 t202 _ ?side1 ?side2 ?side3 ?side4 ?side5 ?side6 ?side7 ?side8 ?side9 ?side10 A76.out).mono ?_); (case side1 => repeat (first | exact (Kd.R_reads' HO_184004.out).2.2 | (with_reducible refine Kd.C_alloc ?_ _) | (with_reducible refine Kd.C_drewN ?_ _) | (with_reducible refine Kd.C_drew ?_))); (case side2 => exact (Kd.R_reads' HO_184004.out).2.1); (case side3 => repeat (first | exact (Kd.R_reads' HO_184005.out).2.2 | (with_reducible refine Kd.C_alloc ?_ _) | (with_reducible refine Kd.C_drewN ?_ _) | (with_reducible refine Kd.C_drew ?_))); (case side4 => exact (Kd.R_reads' HO_184005.out).2.1); (case side5 => repeat (first | exact (Kd.R_reads' HO_188003.out).2.2 | (with_reducible refine Kd.C_alloc ?_ _) | (with_reducible refine Kd.C_drewN ?_ _) | (with_reducible refine Kd.C_drew ?_))); (case side6 => exact (Kd.R_reads' HO_188003.out).2.1); (case side7 => repeat (first | exact (Kd.R_reads' HO_188004.out).2.2 | (with_reducible refine Kd.C_alloc ?_ _) | (with_reducible refine Kd.C_drewN ?_ _) | (with_reducible refine Kd.C_drew ?_))); (case side8 => exact (Kd.R_reads' HO_188004.out).2.1); (case side9 => repeat (first | exact (Kd.R_reads' HO_5.out).2.2 | (with_reducible refine Kd.C_alloc ?_ _) | (with_reducible refine Kd.C_drewN ?_ _) | (with_reducible refine Kd.C_drew ?_))); (case side10 => exact (Kd.R_reads' HO_5.out).2.1); rintro e w83 ⟨rfl, hb⟩; refine ⟨_, rfl, ?_⟩; have n0_ := Aside0.mk (Kd.R_below (by (with_reducible repeat (first | apply Kd.R_alloc | apply Kd.R_drewN | apply Kd.R_drew)); exact HO_5.out) hb); have n1_ := Aside0.mk (Kd.R_below (by (with_reducible repeat (first | apply Kd.R_alloc | apply Kd.R_drewN | apply Kd.R_drew)); exact HO_184004.out) hb); have n2_ := Aside0.mk (Kd.R_below (by (with_reducible repeat (first | apply Kd.R_alloc | apply Kd.R_drewN | apply Kd.R_drew)); exact HO_184005.out) hb); have n3_ := Aside0.mk (Kd.R_below (by (with_reducible repeat (first | apply Kd.R_alloc | apply Kd.R_drewN | apply Kd.R_drew)); exact HO_188003.out) hb); have n4_ := Aside0.mk (Kd.R_below (by (with_reducible repeat (first | apply Kd.R_alloc | apply Kd.R_drewN | apply Kd.R_drew)); exact HO_188004.out) hb); have n5_ := Aside0.mk (blk_below (g := gb183) (o := .cells #[.string (⟨#[112]⟩ : ByteArray), .int .i64 0, .int .i64 3, .int .i64 0, .slice Ao9 y180.length co9, .slice Ao80 x184005_29.length co80, .bool x184006_40] 28 (0, 0)) (by (with_reducible repeat (first | refine blk_drewN ?_ _ | refine blk_drew ?_ | refine blk_alloc ?_ _)); exact BK183.out) hb); have n6_ := Aside0.mk (blk_below (g := gb187) (o := .cells #[.string (⟨#[110]⟩ : ByteArray), .int .i64 x188001_36, .int .i64 0, .slice Ao81 x188003_22.length co81, .slice Ao14 y184.length co14, .bool x188005_4] 31 (0, 0)) (by (with_reducible repeat (first | refine blk_drewN ?_ _ | refine blk_drew ?_ | refine blk_alloc ?_ _)); exact BK187.out) hb); have n7_ := Aside0.mk (below_step (by repeat (first | (with_reducible first | exact HB.out | apply below_alloc | apply pw_below_drewN | apply below_drew1 | refine below_set ?_ GE183.out | refine below_set ?_ GE187.out) | exact HB.out)) hb); clear HO_5; clear HO_184004; clear HO_184005; clear HO_188003; clear HO_188004; clear BK183; clear BK187; clear HB; have HO_5 := n0_; have HO_184004 := n1_; have HO_184005 := n2_; have HO_188003 := n3_; have HO_188004 := n4_; have BK183 := n5_; have BK187 := n6_; have HB := n7_; clear n0_ n1_ n2_ n3_ n4_ n5_ n6_ n7_; (try clear hb); (try clear hb2); (try clear hk); (try clear hi)))
                            go_ret
                            exact ⟨by first | rfl | (simp [errW_none, errW_some] <;> rfl) | (simp [*, errW_none, errW_some] <;> rfl), by repeat (first | (with_reducible first | exact HB.out | apply below_alloc | apply pw_below_drewN | apply below_drew1 | refine below_set ?_ GE183.out | refine below_set ?_ GE187.out) | exact HB.out)⟩
  · replace c3 := Bool.eq_false_iff.mpr c3
    subst c3
    have H1 : (some false) = some r := by rw [if_neg (show ¬ (false = true) by decide)] at H; exact H
    clear H
    have H := H1
    clear H1
    obtain rfl := Option.some.inj H
    exact absurd hT_.out (by simp)

/-- THE ONE PURE STATEMENT of joinerylaw5_FitFirst: yours. -/
def joinerylaw5_FitFirst.Pure : Prop := ∀ (a0 : Int), (Lit.int .i64 a0).wf = true → ∃ k, joinerylaw5_FitFirst.f k a0 = some true
theorem joinerylaw5_FitFirst.walk (P : joinerylaw5_FitFirst.Pure) (a0 : Int) (w : World) (w0 : (Lit.int .i64 a0).wf = true) :
    Calls Try.prog 9 #[.int .i64 a0] w fun e w' => e = .returned (.bool true) ∧ Below w.heap.size w w' := by
  obtain ⟨k, h⟩ := P a0 w0
  refine (joinerylaw5_FitFirst.calls k a0 true w ⟨rfl⟩ h).mono ?_
  rintro e w' ⟨rfl, hd⟩
  exact ⟨rfl, hd⟩

end Go.Proofs.Ytciedbaeenhgkaa.P
