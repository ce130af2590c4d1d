-- Printed by wip/tools/gprint.py (the kit's print, hand-proved contracts laid in): functions of the program as Lean functions, each with the proof that the machine's call comes to its answer.
import Derived.Test.YtocndmgimcmfaaaSx0
import Derived.Test.YtocndmgimcmfaaaSx1
import Derived.Test.YtocndmgimcmfaaaSx2
import Derived.Test.YtocndmgimcmfaaaSx3
namespace Go.Proofs.Ytocndmgimcmfaaa.S
open Go.RowKit Go.Proofs.Ytocndmgimcmfaaa.Base Go.Proofs.YtocndmgimcmfaaaW.PrintWords Go.Proofs.YtocndmgimcmfaaaW.PrintLast Go.Proofs.YtocndmgimcmfaaaW.PrintMore
attribute [local go_sem] max2_int min2_int max_two min_two max_three min_three max_four min_four   -- for this text's walks alone
set_option linter.unusedVariables false
set_option linter.unusedSimpArgs false

/-! ### joinerylaw2_MarkSets: function 10 -/
mutual
def joinerylaw2_MarkSets.j1 : Nat → List Int → ByteArray → Int → List ByteArray → List ByteArray → Option (Bool)
  | 0, _, _, _, _, _ => none
  | k + 1, x1, x2, x3, x9, x10 => joinerylaw2_MarkSets.l1 k x1 x2 x3 x9 x10 0
def joinerylaw2_MarkSets.j3 : Nat → ByteArray → Int → List ByteArray → List ByteArray → Option (Bool)
  | 0, _, _, _, _ => none
  | k + 1, x2, x3, x9, x10 => (some (([] : List ByteArray) : List ByteArray)).bind fun y136 => (if y136.length + x9.length < 8796093022208 then ((some (y136 ++ x9 : List ByteArray)).bind fun y139 => (if (y139.length : Int) > 0 then ((joinerylaw2_within.f x3 (y139.length : Int)).bind fun t142 => (if 0 ≤ t142 then (if t142 < (y139.length : Int) then (joinerylaw2_MarkSets.j4 k x3 x9 x10 (y139.set (t142 : Int).toNat x2)) else (none)) else (none))) else (joinerylaw2_MarkSets.j4 k x3 x9 x10 y139))) else (none))
def joinerylaw2_MarkSets.j4 : Nat → Int → List ByteArray → List ByteArray → List ByteArray → Option (Bool)
  | 0, _, _, _, _ => none
  | k + 1, x3, x9, x10, x13 => (joinerylaw2_Set.f k x3).bind fun t144 => (joinerylaw2_MarkSets.l2 k x9 x10 (([x9, x10, x13, [], t144, (([(⟨#[97]⟩ : ByteArray), (⟨#[98]⟩ : ByteArray), (⟨#[99]⟩ : ByteArray), (⟨#[100]⟩ : ByteArray), (⟨#[101]⟩ : ByteArray)] : List ByteArray)), (([(⟨#[97]⟩ : ByteArray), (⟨#[98]⟩ : ByteArray), (⟨#[99]⟩ : ByteArray), (⟨#[100]⟩ : ByteArray)] : List ByteArray))] : List (List ByteArray))) 0)
def joinerylaw2_MarkSets.l2 : Nat → List ByteArray → List ByteArray → List (List ByteArray) → Int → Option (Bool)
  | 0, _, _, _, _ => none
  | k + 1, x9, x10, x14, x15 => if x15 < (x14.length : Int) then (if 0 ≤ x15 then ((mark_Set.f (rd_L1 x14 x15)).bind fun t157 => ((joineryref2_Set.f k (rd_L1 x14 x15)).bind fun t159 => (if (t157 != t159) = true then (some false) else ((mark_All.f (rd_L1 x14 x15) x9).bind fun t161 => ((joineryref2_All.f k (rd_L1 x14 x15) x9).bind fun t163 => (if (t161 != t163) = true then (some false) else ((mark_All.f x10 (rd_L1 x14 x15)).bind fun t165 => ((joineryref2_All.f k x10 (rd_L1 x14 x15)).bind fun t167 => (if (t165 != t167) = true then (some false) else (joinerylaw2_MarkSets.l2 k x9 x10 x14 (wrap64 (x15 + 1)))))))))))) else (none)) else (some true)
def joinerylaw2_MarkSets.l1 : Nat → List Int → ByteArray → Int → List ByteArray → List ByteArray → Int → Option (Bool)
  | 0, _, _, _, _, _, _ => none
  | k + 1, x1, x2, x3, x9, x10, x12 => if x12 < (x1.length : Int) then (if x12 < 6 then (if 0 ≤ x12 then ((joinerylaw2_Name.f (rd x1 x12)).bind fun t132 => (if x10.length < 8796093022208 then (joinerylaw2_MarkSets.l1 k x1 x2 x3 x9 (x10 ++ [t132]) (wrap64 (x12 + 1))) else (none))) else (none)) else (joinerylaw2_MarkSets.j3 k x2 x3 x9 x10)) else (joinerylaw2_MarkSets.j3 k x2 x3 x9 x10)
def joinerylaw2_MarkSets.l0 : Nat → List Int → List Int → ByteArray → Int → List ByteArray → Int → Option (Bool)
  | 0, _, _, _, _, _, _ => none
  | k + 1, x0, x1, x2, x3, x9, x11 => if x11 < (x0.length : Int) then (if x11 < 6 then (if 0 ≤ x11 then ((joinerylaw2_Name.f (rd x0 x11)).bind fun t127 => (if x9.length < 8796093022208 then (joinerylaw2_MarkSets.l0 k x0 x1 x2 x3 (x9 ++ [t127]) (wrap64 (x11 + 1))) else (none))) else (none)) else (joinerylaw2_MarkSets.j1 k x1 x2 x3 x9 ([] : List ByteArray))) else (joinerylaw2_MarkSets.j1 k x1 x2 x3 x9 ([] : List ByteArray))
end
def joinerylaw2_MarkSets.f (k : Nat) (l0 : List Int) (l1 : List Int) (a2 : ByteArray) (a3 : Int) : Option (Bool) := (joinerylaw2_known.f).bind fun t125 => (if t125 = true then (if (a2.size : Int) > 100 then (some true) else (joinerylaw2_MarkSets.l0 k l0 l1 a2 a3 ([] : List ByteArray) 0)) else (some false))
theorem joinerylaw2_MarkSets.mono_l : ∀ k, (∀ y0 y1 y2 y3 y4, LeO (joinerylaw2_MarkSets.j1 k y0 y1 y2 y3 y4) (joinerylaw2_MarkSets.j1 (k + 1) y0 y1 y2 y3 y4)) ∧ (∀ y0 y1 y2 y3, LeO (joinerylaw2_MarkSets.j3 k y0 y1 y2 y3) (joinerylaw2_MarkSets.j3 (k + 1) y0 y1 y2 y3)) ∧ (∀ y0 y1 y2 y3, LeO (joinerylaw2_MarkSets.j4 k y0 y1 y2 y3) (joinerylaw2_MarkSets.j4 (k + 1) y0 y1 y2 y3)) ∧ (∀ y0 y1 y2 y3, LeO (joinerylaw2_MarkSets.l2 k y0 y1 y2 y3) (joinerylaw2_MarkSets.l2 (k + 1) y0 y1 y2 y3)) ∧ (∀ y0 y1 y2 y3 y4 y5, LeO (joinerylaw2_MarkSets.l1 k y0 y1 y2 y3 y4 y5) (joinerylaw2_MarkSets.l1 (k + 1) y0 y1 y2 y3 y4 y5)) ∧ (∀ y0 y1 y2 y3 y4 y5, LeO (joinerylaw2_MarkSets.l0 k y0 y1 y2 y3 y4 y5) (joinerylaw2_MarkSets.l0 (k + 1) y0 y1 y2 y3 y4 y5))
  | 0 => ⟨fun _ _ _ _ _ r h => by simp [joinerylaw2_MarkSets.j1] at h, fun _ _ _ _ r h => by simp [joinerylaw2_MarkSets.j3] at h, fun _ _ _ _ r h => by simp [joinerylaw2_MarkSets.j4] at h, fun _ _ _ _ r h => by simp [joinerylaw2_MarkSets.l2] at h, fun _ _ _ _ _ _ r h => by simp [joinerylaw2_MarkSets.l1] at h, fun _ _ _ _ _ _ r h => by simp [joinerylaw2_MarkSets.l0] at h⟩
  | k + 1 => by
    obtain ⟨ih0, ih1, ih2, ih3, ih4, ih5⟩ := joinerylaw2_MarkSets.mono_l k
    refine ⟨?_, ?_, ?_, ?_, ?_, ?_⟩
    · intro y0 y1 y2 y3 y4
      unfold joinerylaw2_MarkSets.j1
      repeat' first
      | (with_reducible exact ih0 _ _ _ _ _)
      | (with_reducible exact ih1 _ _ _ _)
      | (with_reducible exact ih2 _ _ _ _)
      | (with_reducible exact ih3 _ _ _ _)
      | (with_reducible exact ih4 _ _ _ _ _ _)
      | (with_reducible exact ih5 _ _ _ _ _ _)
      | (with_reducible exact joinerylaw2_Set.mono _ _)
      | (with_reducible exact joineryref2_All.mono _ _ _)
      | (with_reducible exact joineryref2_Set.mono _ _)
      | (with_reducible exact LeO.refl _)
      | (with_reducible exact LeO.none _)
      | (with_reducible refine LeO.ite ?_ ?_)
      | (with_reducible refine LeO.bind ?_ (fun _ => ?_))
      | exact ih0 _ _ _ _ _
      | exact ih1 _ _ _ _
      | exact ih2 _ _ _ _
      | exact ih3 _ _ _ _
      | exact ih4 _ _ _ _ _ _
      | exact ih5 _ _ _ _ _ _
      | exact joinerylaw2_Set.mono _ _
      | exact joineryref2_All.mono _ _ _
      | exact joineryref2_Set.mono _ _
      | exact LeO.none _
      | refine LeO.ite ?_ ?_
      | refine LeO.bind ?_ (fun _ => ?_)
    · intro y0 y1 y2 y3
      unfold joinerylaw2_MarkSets.j3
      repeat' first
      | (with_reducible exact ih0 _ _ _ _ _)
      | (with_reducible exact ih1 _ _ _ _)
      | (with_reducible exact ih2 _ _ _ _)
      | (with_reducible exact ih3 _ _ _ _)
      | (with_reducible exact ih4 _ _ _ _ _ _)
      | (with_reducible exact ih5 _ _ _ _ _ _)
      | (with_reducible exact joinerylaw2_Set.mono _ _)
      | (with_reducible exact joineryref2_All.mono _ _ _)
      | (with_reducible exact joineryref2_Set.mono _ _)
      | (with_reducible exact LeO.refl _)
      | (with_reducible exact LeO.none _)
      | (with_reducible refine LeO.ite ?_ ?_)
      | (with_reducible refine LeO.bind ?_ (fun _ => ?_))
      | exact ih0 _ _ _ _ _
      | exact ih1 _ _ _ _
      | exact ih2 _ _ _ _
      | exact ih3 _ _ _ _
      | exact ih4 _ _ _ _ _ _
      | exact ih5 _ _ _ _ _ _
      | exact joinerylaw2_Set.mono _ _
      | exact joineryref2_All.mono _ _ _
      | exact joineryref2_Set.mono _ _
      | exact LeO.none _
      | refine LeO.ite ?_ ?_
      | refine LeO.bind ?_ (fun _ => ?_)
    · intro y0 y1 y2 y3
      unfold joinerylaw2_MarkSets.j4
      repeat' first
      | (with_reducible exact ih0 _ _ _ _ _)
      | (with_reducible exact ih1 _ _ _ _)
      | (with_reducible exact ih2 _ _ _ _)
      | (with_reducible exact ih3 _ _ _ _)
      | (with_reducible exact ih4 _ _ _ _ _ _)
      | (with_reducible exact ih5 _ _ _ _ _ _)
      | (with_reducible exact joinerylaw2_Set.mono _ _)
      | (with_reducible exact joineryref2_All.mono _ _ _)
      | (with_reducible exact joineryref2_Set.mono _ _)
      | (with_reducible exact LeO.refl _)
      | (with_reducible exact LeO.none _)
      | (with_reducible refine LeO.ite ?_ ?_)
      | (with_reducible refine LeO.bind ?_ (fun _ => ?_))
      | exact ih0 _ _ _ _ _
      | exact ih1 _ _ _ _
      | exact ih2 _ _ _ _
      | exact ih3 _ _ _ _
      | exact ih4 _ _ _ _ _ _
      | exact ih5 _ _ _ _ _ _
      | exact joinerylaw2_Set.mono _ _
      | exact joineryref2_All.mono _ _ _
      | exact joineryref2_Set.mono _ _
      | exact LeO.none _
      | refine LeO.ite ?_ ?_
      | refine LeO.bind ?_ (fun _ => ?_)
    · intro y0 y1 y2 y3
      unfold joinerylaw2_MarkSets.l2
      repeat' first
      | (with_reducible exact ih0 _ _ _ _ _)
      | (with_reducible exact ih1 _ _ _ _)
      | (with_reducible exact ih2 _ _ _ _)
      | (with_reducible exact ih3 _ _ _ _)
      | (with_reducible exact ih4 _ _ _ _ _ _)
      | (with_reducible exact ih5 _ _ _ _ _ _)
      | (with_reducible exact joinerylaw2_Set.mono _ _)
      | (with_reducible exact joineryref2_All.mono _ _ _)
      | (with_reducible exact joineryref2_Set.mono _ _)
      | (with_reducible exact LeO.refl _)
      | (with_reducible exact LeO.none _)
      | (with_reducible refine LeO.ite ?_ ?_)
      | (with_reducible refine LeO.bind ?_ (fun _ => ?_))
      | exact ih0 _ _ _ _ _
      | exact ih1 _ _ _ _
      | exact ih2 _ _ _ _
      | exact ih3 _ _ _ _
      | exact ih4 _ _ _ _ _ _
      | exact ih5 _ _ _ _ _ _
      | exact joinerylaw2_Set.mono _ _
      | exact joineryref2_All.mono _ _ _
      | exact joineryref2_Set.mono _ _
      | exact LeO.none _
      | refine LeO.ite ?_ ?_
      | refine LeO.bind ?_ (fun _ => ?_)
    · intro y0 y1 y2 y3 y4 y5
      unfold joinerylaw2_MarkSets.l1
      repeat' first
      | (with_reducible exact ih0 _ _ _ _ _)
      | (with_reducible exact ih1 _ _ _ _)
      | (with_reducible exact ih2 _ _ _ _)
      | (with_reducible exact ih3 _ _ _ _)
      | (with_reducible exact ih4 _ _ _ _ _ _)
      | (with_reducible exact ih5 _ _ _ _ _ _)
      | (with_reducible exact joinerylaw2_Set.mono _ _)
      | (with_reducible exact joineryref2_All.mono _ _ _)
      | (with_reducible exact joineryref2_Set.mono _ _)
      | (with_reducible exact LeO.refl _)
      | (with_reducible exact LeO.none _)
      | (with_reducible refine LeO.ite ?_ ?_)
      | (with_reducible refine LeO.bind ?_ (fun _ => ?_))
      | exact ih0 _ _ _ _ _
      | exact ih1 _ _ _ _
      | exact ih2 _ _ _ _
      | exact ih3 _ _ _ _
      | exact ih4 _ _ _ _ _ _
      | exact ih5 _ _ _ _ _ _
      | exact joinerylaw2_Set.mono _ _
      | exact joineryref2_All.mono _ _ _
      | exact joineryref2_Set.mono _ _
      | exact LeO.none _
      | refine LeO.ite ?_ ?_
      | refine LeO.bind ?_ (fun _ => ?_)
    · intro y0 y1 y2 y3 y4 y5
      unfold joinerylaw2_MarkSets.l0
      repeat' first
      | (with_reducible exact ih0 _ _ _ _ _)
      | (with_reducible exact ih1 _ _ _ _)
      | (with_reducible exact ih2 _ _ _ _)
      | (with_reducible exact ih3 _ _ _ _)
      | (with_reducible exact ih4 _ _ _ _ _ _)
      | (with_reducible exact ih5 _ _ _ _ _ _)
      | (with_reducible exact joinerylaw2_Set.mono _ _)
      | (with_reducible exact joineryref2_All.mono _ _ _)
      | (with_reducible exact joineryref2_Set.mono _ _)
      | (with_reducible exact LeO.refl _)
      | (with_reducible exact LeO.none _)
      | (with_reducible refine LeO.ite ?_ ?_)
      | (with_reducible refine LeO.bind ?_ (fun _ => ?_))
      | exact ih0 _ _ _ _ _
      | exact ih1 _ _ _ _
      | exact ih2 _ _ _ _
      | exact ih3 _ _ _ _
      | exact ih4 _ _ _ _ _ _
      | exact ih5 _ _ _ _ _ _
      | exact joinerylaw2_Set.mono _ _
      | exact joineryref2_All.mono _ _ _
      | exact joineryref2_Set.mono _ _
      | exact LeO.none _
      | refine LeO.ite ?_ ?_
      | refine LeO.bind ?_ (fun _ => ?_)
theorem joinerylaw2_MarkSets.mono : ∀ a0 a1 a2 a3 k, LeO (joinerylaw2_MarkSets.f k a0 a1 a2 a3) (joinerylaw2_MarkSets.f (k + 1) a0 a1 a2 a3) := by
  intro a0 a1 a2 a3 k
  obtain ⟨ih0, ih1, ih2, ih3, ih4, ih5⟩ := joinerylaw2_MarkSets.mono_l k
  unfold joinerylaw2_MarkSets.f
  repeat' first
      | (with_reducible exact ih0 _ _ _ _ _)
      | (with_reducible exact ih1 _ _ _ _)
      | (with_reducible exact ih2 _ _ _ _)
      | (with_reducible exact ih3 _ _ _ _)
      | (with_reducible exact ih4 _ _ _ _ _ _)
      | (with_reducible exact ih5 _ _ _ _ _ _)
      | (with_reducible exact joinerylaw2_Set.mono _ _)
      | (with_reducible exact joineryref2_All.mono _ _ _)
      | (with_reducible exact joineryref2_Set.mono _ _)
      | (with_reducible exact LeO.refl _)
      | (with_reducible exact LeO.none _)
      | (with_reducible refine LeO.ite ?_ ?_)
      | (with_reducible refine LeO.bind ?_ (fun _ => ?_))
      | exact ih0 _ _ _ _ _
      | exact ih1 _ _ _ _
      | exact ih2 _ _ _ _
      | exact ih3 _ _ _ _
      | exact ih4 _ _ _ _ _ _
      | exact ih5 _ _ _ _ _ _
      | exact joinerylaw2_Set.mono _ _
      | exact joineryref2_All.mono _ _ _
      | exact joineryref2_Set.mono _ _
      | exact LeO.none _
      | refine LeO.ite ?_ ?_
      | refine LeO.bind ?_ (fun _ => ?_)
def joinerylaw2_MarkSets.T21 : Bool × List (List Nat × List Nat) := (true, [([], []), ([], []), ([0, 1], [0, 1]), ([2], [2]), ([3], [3]), ([], []), ([], []), ([5, 6], [5, 6]), ([7], [7]), ([8, 4], [8]), ([4, 9], [4, 9]), ([10, 9], [10]), ([11], [11]), ([11], [11]), ([12, 13, 11], [11, 12, 13]), ([14, 11], [11, 14]), ([11], [11]), ([15, 16, 11, 11], [11, 15, 16]), ([11], [11]), ([11], [11]), ([18, 19, 11], [11, 18, 19]), ([20, 11], [11, 20]), ([11], [11]), ([21, 22, 17, 11], [11, 21, 22]), ([17, 23, 11], [11, 17, 23]), ([11, 24], [11, 24]), ([25, 23], [25]), ([26], [26]), ([26], [26]), ([26], [26]), ([28, 29, 26], [26, 28, 29]), ([30, 26], [26, 30]), ([27, 31, 26, 26], [26, 27, 31]), ([26], [26]), ([26], [26]), ([26], [26]), ([34, 35, 26], [26, 34, 35]), ([36, 26], [26, 36]), ([33, 37, 32, 26], [26, 33, 37]), ([32, 38, 26], [26, 32, 38]), ([26, 39], [26, 39])])
def joinerylaw2_MarkSets.B21 : List Nat := [0, 0, 3, 7, 15, 0, 0, 96, 224, 511, 1023, 2047, 4095, 4095, 16383, 32767, 4095, 131071, 4095, 4095, 790527, 1839103, 4095, 8388607, 16777215, 33554431, 67108863, 134217727, 134217727, 134217727, 939524095, 2013265919, 4294967295, 134217727, 134217727, 134217727, 51673825279, 120393302015, 274877906943, 549755813887, 1099511627775]
theorem joinerylaw2_MarkSets.tab21 : rtab .any (opsOf Try.f10 21) = joinerylaw2_MarkSets.T21 := by kernel_rfl
theorem joinerylaw2_MarkSets.bits21 : waitsOk joinerylaw2_MarkSets.T21.2 joinerylaw2_MarkSets.B21 = true := by kernel_rfl
set_option maxHeartbeats 8000000 in
set_option maxRecDepth 100000 in
theorem joinerylaw2_MarkSets.calls (k : Nat) (A0 : Option Addr) (c0 : Nat) (l0 : List Int) (A1 : Option Addr) (c1 : Nat) (l1 : List Int) (a2 : ByteArray) (a3 : Int) (r : Bool) (w : World) (hr0 : Kd.C (Kd.int .i64) w A0 l0.length l0) (hc0 : l0.length ≤ c0) (hr1 : Kd.C (Kd.int .i64) w A1 l1.length l1) (hc1 : l1.length ≤ c1) (hT_ : Aside0 (r = true)) (h : joinerylaw2_MarkSets.f k l0 l1 a2 a3 = some r) :
    Calls Try.prog 10 #[.slice A0 l0.length c0, .slice A1 l1.length c1, .string a2, .int .i64 a3] w fun e w' => e = .returned (.bool r) ∧ Below w.heap.size w w' := by
  have HR0 := Aside0.mk hr0
  have HC0 := Aside0.mk hc0
  clear hr0 hc0
  have HR1 := Aside0.mk hr1
  have HC1 := Aside0.mk hc1
  clear hr1 hc1
  have HB := Aside0.mk (Below.refl w.heap.size w)
  have H : ((joinerylaw2_known.f).bind fun t125 => (if t125 = true then (if (a2.size : Int) > 100 then (some true) else (joinerylaw2_MarkSets.l0 k l0 l1 a2 a3 ([] : List ByteArray) 0)) else (some false))) = some r := h
  clear h
  replace H := Option.bind_eq_some_iff.mp H
  obtain ⟨t125, A50, H⟩ := H
  replace H : (if t125 = true then (if (a2.size : Int) > 100 then (some true) else (joinerylaw2_MarkSets.l0 k l0 l1 a2 a3 ([] : List ByteArray) 0)) else (some false)) = some r := H
  have A5 := Aside0.mk A50
  clear A50
  by_cases c6 : t125 = true
  · subst c6
    have H1 : (if (a2.size : Int) > 100 then (some true) else (joinerylaw2_MarkSets.l0 k l0 l1 a2 a3 ([] : List ByteArray) 0)) = some r := by rw [if_pos rfl] at H; exact H
    clear H
    have H := H1
    clear H1
    by_cases c7 : (a2.size : Int) > 100
    · rw [if_pos c7] at H
      have c7b0 : decide (100 < (a2.size : Int)) = true := decide_eq_true c7
      have c7b1 : decide (100 < a2.size) = true := decide_eq_true (by omega)
      clear c7
      obtain rfl := Option.some.inj H
      go_enter Try.func10, Try.ntmps10
      go_wp2_with (first | ((with_reducible refine gate_callee (f := 13) rfl ?_); refine goesL_ (some 16) rfl rfl Try.func13 (by kernel_rfl) rfl #[] rfl (by (try simp only [List.map_toArray, List.map_cons, List.map_nil]); first | done | rfl | (simp only [List.length_drop, List.length_take]; rfl)) ?_; (with_reducible refine (joinerylaw2_known.calls  true _ A5.out).mono ?_); rintro e w8 ⟨rfl, hb⟩; refine ⟨_, rfl, ?_⟩; have n0_ := Aside0.mk (below_step (by repeat (first | (with_reducible first | exact HB.out | apply below_alloc | apply pw_below_drewN | apply below_drew1) | exact HB.out)) hb); clear HB; have HB := n0_; clear n0_; (try clear hb); (try clear hb2); (try clear hk); (try clear hi)))
      go_ret
      exact ⟨by first | rfl | (simp [errW_none, errW_some] <;> rfl) | (simp [*, errW_none, errW_some] <;> rfl), by repeat (first | (with_reducible first | exact HB.out | apply below_alloc | apply pw_below_drewN | apply below_drew1) | exact HB.out)⟩
    · rw [if_neg c7] at H
      have c7b0 : decide (100 < (a2.size : Int)) = false := decide_eq_false c7
      have c7b1 : decide (100 < a2.size) = false := decide_eq_false (by omega)
      clear c7
      have HC9 := Aside0.mk H
      clear H
      go_enter Try.func10, Try.ntmps10
      go_upto_block 0 with (first | ((with_reducible refine gate_callee (f := 13) rfl ?_); refine goesL_ (some 16) rfl rfl Try.func13 (by kernel_rfl) rfl #[] rfl (by (try simp only [List.map_toArray, List.map_cons, List.map_nil]); first | done | rfl | (simp only [List.length_drop, List.length_take]; rfl)) ?_; (with_reducible refine (joinerylaw2_known.calls  true _ A5.out).mono ?_); rintro e w10 ⟨rfl, hb⟩; refine ⟨_, rfl, ?_⟩; have n0_ := Aside0.mk (below_step (by repeat (first | (with_reducible first | exact HB.out | apply below_alloc | apply pw_below_drewN | apply below_drew1) | exact HB.out)) hb); clear HB; have HB := n0_; clear n0_; (try clear hb); (try clear hb2); (try clear hk); (try clear hi)))
      (try simp only [Act.put, List.setIfInBounds_toArray, List.set_cons_zero, List.set_cons_succ])
      go_cut [9] (fun v9 wc => ∃ (kq : Nat) (x9_8 : List ByteArray), Aside0 (joinerylaw2_MarkSets.j1 kq l1 a2 a3 x9_8 ([] : List ByteArray) = some r) ∧ Aside0 (kq ≤ k) ∧ Aside0 (Kd.R Kd.string 9 wc w.heap.size (fun k_ => some k_ ≠ ((.slice none 0 0) : Value).ownBlock) v9 x9_8) ∧ Aside0 (Kd.R Kd.string 9 wc w.heap.size (fun k_ => some k_ ≠ (v9 : Value).ownBlock) (.slice none 0 0) ([] : List ByteArray)) ∧ Aside0 (Below w.heap.size w wc))
      case first =>
        have H := HC9.out
        clear HC9
        have H' := Aside0.mk H
        clear H
        go_wp2
        go_loopg [9, 11] k (fun kq v9 v11 w' => ∃ (x9_1 : List ByteArray) (x11_1 : Int), v11 = .int .i64 x11_1 ∧ Aside0 (joinerylaw2_MarkSets.l0 kq l0 l1 a2 a3 x9_1 x11_1 = some r) ∧ Aside0 (kq ≤ k) ∧ Aside0 (Kd.R Kd.string 9 w' w.heap.size (fun _ => True) v9 x9_1) ∧ Aside0 (Below w.heap.size w w'))
        case atStart => exact ⟨(([] : List ByteArray)), (0), (by first | rfl | (simp; done) | (simp [*]; done)), H', ⟨Nat.le_refl _⟩, ⟨by first | exact Kd.R_nil _ _ _ _ _ | exact Kd.N_nil _ _ _ _ _ | exact Kd.V_nil _ _ _ _ _ | exact Kd.Q_nil _ _ _ _ _ | exact Kd.S_nil _ _ _ _ _⟩, ⟨by repeat (first | (with_reducible first | exact HB.out | apply below_alloc | apply pw_below_drewN | apply below_drew1) | exact HB.out)⟩⟩
        case round =>
          clear H'
          try clear c1
          try clear p2
          try clear c6
          try clear c7
          try clear c7b0
          try clear c7b1
          try clear c10
          obtain ⟨x9_1, x11_1, rfl, HA, HK1, HO_9, HB⟩ := hrel
          cases gk with
          | zero => exact absurd HA.out (by simp [joinerylaw2_MarkSets.l0])
          | succ k1 =>
            have H := HA.out
            clear HA
            simp only [joinerylaw2_MarkSets.l0] at H
            by_cases c11 : x11_1 < (l0.length : Int)
            · rw [if_pos c11] at H
              have c11b0 : decide (x11_1 < (l0.length : Int)) = true := decide_eq_true c11
              clear c11
              (first | rw [c11b1] | rw [c11b0] | (simp only [i64_w, i32_w]; rw [c11b0]) | skip)
              by_cases c12 : x11_1 < 6
              · rw [if_pos c12] at H
                have c12b0 : decide (x11_1 < 6) = true := decide_eq_true c12
                clear c12
                by_cases c13 : 0 ≤ x11_1
                · rw [if_pos c13] at H
                  have c13b0 : decide (0 ≤ x11_1) = true := decide_eq_true c13
                  clear c13
                  replace H := Option.bind_eq_some_iff.mp H
                  obtain ⟨t127, A140, H⟩ := H
                  replace H : (if x9_1.length < 8796093022208 then (joinerylaw2_MarkSets.l0 k1 l0 l1 a2 a3 (x9_1 ++ [t127]) (wrap64 (x11_1 + 1))) else (none)) = some r := H
                  have A14 := Aside0.mk A140
                  clear A140
                  by_cases c15 : x9_1.length < 8796093022208
                  · rw [if_pos c15] at H
                    have LMc15 := Aside0.mk c15
                    clear c15
                    obtain ⟨y128, hy128⟩ : ∃ y_ : List ByteArray, y_ = (x9_1 ++ [t127]) := ⟨_, rfl⟩
                    replace H : (joinerylaw2_MarkSets.l0 k1 l0 l1 a2 a3 y128 (wrap64 (x11_1 + 1))) = some r := by first | (rw [hy128]; with_reducible exact H) | (have H2_ := (Option.bind_some _ _).symm.trans H; rw [hy128]; with_reducible exact H2_) | (have H2_ := (Option.bind_some _ _).symm.trans H; with_reducible exact H2_) | with_reducible exact H | (rw [hy128]; exact H) | exact H
                    have Ny128 := Aside0.mk hy128
                    clear hy128
                    have H' := Aside0.mk H
                    clear H
                    have p126 : 0 ≤ (x11_1 : Int) := of_decide_eq_true (by first | (with_reducible assumption) | assumption)
                    have q126 : x11_1 < (l0.length : Int) := of_decide_eq_true (by first | (with_reducible assumption) | assumption)
                    obtain ⟨ad126, e126, hx126_0⟩ := Kd.at_int HR0.out x11_1 p126 q126
                    cases e126
                    replace hx126_0 := (HB.out.cell (World.block_lt_of_cell? w _ hx126_0)).trans hx126_0
                    replace p126 := eq_true p126
                    replace q126 := eq_true q126
                    go_wp2_with (first | ((with_reducible refine gate_callee (f := 20) rfl ?_); refine goesL_ (some 36) rfl rfl Try.func20 (by kernel_rfl) rfl #[.int .i64 (rd l0 x11_1)] rfl (by (try simp only [List.map_toArray, List.map_cons, List.map_nil]); first | done | rfl | (simp only [List.length_drop, List.length_take]; rfl)) ?_; (with_reducible refine (joinerylaw2_Name.calls (rd l0 x11_1) t127 _ A14.out).mono ?_); rintro e w16 ⟨rfl, hb⟩; refine ⟨_, rfl, ?_⟩; have n0_ := Aside0.mk (Kd.R_below (by (with_reducible repeat (first | apply Kd.R_alloc | apply Kd.R_drewN | apply Kd.R_drew)); exact HO_9.out) hb); have n1_ := Aside0.mk (below_step (by repeat (first | (with_reducible first | exact HB.out | apply below_alloc | apply pw_below_drewN | apply below_drew1) | exact HB.out)) hb); clear HO_9; clear HB; have HO_9 := n0_; have HB := n1_; clear n0_ n1_; (try clear hb); (try clear hb2); (try clear hk); (try clear hi)) | ((with_reducible refine gate_builtin (b := .append) (xs := #[.tmp 31, .tmp 37]) rfl ?_); at_builtin; refine Kd.R_append Kd.string (w0 := w) w.heap.size rfl (.tmp 31) (.tmp 37) 26 9 (.string ⟨#[]⟩) 16 rfl Try.underlying26 info9 rfl (by decide) (by omega) u9 x9_1 t127 [.string t127] (fun _ => True) (fun _ => False) rfl rfl ?aP (fun _ hk => hk.elim) ?aF ?aO ?aB ?aS ?aL ?_; (case aP => exact rfl); (case aB => exact (by repeat (first | (with_reducible first | exact HB.out | apply below_alloc | apply pw_below_drewN | apply below_drew1) | exact HB.out))); (case aF => exact (fun _ _ => trivial)); (case aO => exact (by (with_reducible repeat (first | apply Kd.R_alloc | apply Kd.R_drewN | apply Kd.R_drew)); exact HO_9.out)); (case aS => exact (below_size (by repeat (first | (with_reducible first | exact HB.out | apply below_alloc | apply pw_below_drewN | apply below_drew1) | exact HB.out)))); (case aL => have := LMc15.out; omega); intro v129 w17 ho hb hg hat; rw [← Ny128.out] at ho; have n0_ := Aside0.mk (hb); have n1_ := Aside0.mk (ho); clear HB; clear HO_9; have HB := n0_; have HO130 := n1_; clear n0_ n1_; clear ho hb hg hat))
                    go_roundg k1
                    case measure => have := HK1.out; omega
                    case rel => exact ⟨(y128), (wrap64 (x11_1 + 1)), (by first | rfl | (simp; done) | (simp [*]; done)), H', ⟨by have := HK1.out; omega⟩, ⟨by (with_reducible repeat (first | apply Kd.R_alloc | apply Kd.R_drewN | apply Kd.R_drew)); exact HO130.out⟩, ⟨by repeat (first | (with_reducible first | exact HB.out | apply below_alloc | apply pw_below_drewN | apply below_drew1) | exact HB.out)⟩⟩
                  · rw [if_neg c15] at H
                    exact absurd H (by simp)
                · rw [if_neg c13] at H
                  exact absurd H (by simp)
              · rw [if_neg c12] at H
                have c12b0 : decide (x11_1 < 6) = false := decide_eq_false c12
                clear c12
                have H' := Aside0.mk H
                clear H
                go_wp2
                go_meet
                case rel => exact ⟨_, (x9_1), H', ⟨by have := HK1.out; first | omega | exact Nat.le_refl _⟩, ⟨by (with_reducible repeat (first | apply Kd.R_alloc | apply Kd.R_drewN | apply Kd.R_drew)); exact Kd.R_mono HO_9.out (fun _ hk => (by simp [Value.ownBlock]))⟩, ⟨by first | exact Kd.R_nil _ _ _ _ _ | exact Kd.N_nil _ _ _ _ _ | exact Kd.V_nil _ _ _ _ _ | exact Kd.Q_nil _ _ _ _ _ | exact Kd.S_nil _ _ _ _ _⟩, ⟨by repeat (first | (with_reducible first | exact HB.out | apply below_alloc | apply pw_below_drewN | apply below_drew1) | exact HB.out)⟩⟩
            · rw [if_neg c11] at H
              have c11b0 : decide (x11_1 < (l0.length : Int)) = false := decide_eq_false c11
              clear c11
              (first | rw [c11b1] | rw [c11b0] | (simp only [i64_w, i32_w]; rw [c11b0]) | skip)
              have H' := Aside0.mk H
              clear H
              go_wp2
              go_meet
              case rel => exact ⟨_, (x9_1), H', ⟨by have := HK1.out; first | omega | exact Nat.le_refl _⟩, ⟨by (with_reducible repeat (first | apply Kd.R_alloc | apply Kd.R_drewN | apply Kd.R_drew)); exact Kd.R_mono HO_9.out (fun _ hk => (by simp [Value.ownBlock]))⟩, ⟨by first | exact Kd.R_nil _ _ _ _ _ | exact Kd.N_nil _ _ _ _ _ | exact Kd.V_nil _ _ _ _ _ | exact Kd.Q_nil _ _ _ _ _ | exact Kd.S_nil _ _ _ _ _⟩, ⟨by repeat (first | (with_reducible first | exact HB.out | apply below_alloc | apply pw_below_drewN | apply below_drew1) | exact HB.out)⟩⟩
      case rest =>
        clear HC9
        try clear c1
        try clear p1
        try clear q1
        try clear hx1
        try clear c2
        try clear p2
        try clear c6
        try clear p6
        try clear c7
        try clear c7b0
        try clear c7b1
        try clear c10
        try clear c11
        try clear c11b0
        try clear c12
        try clear c12b0
        try clear p12
        try clear q12
        try clear hx12
        try clear c13
        try clear c13b0
        try clear c15
        try clear hx126_0
        try clear p126
        try clear p2
        try clear q126
        obtain ⟨kq, x9_8, HA, HJ8, HO_9, HO_10, HB⟩ := hcut
        cases kq with
        | zero => exact absurd HA.out (by simp [joinerylaw2_MarkSets.j1])
        | succ kj8 =>
          have H := HA.out
          clear HA
          simp only [joinerylaw2_MarkSets.j1] at H
          have HC18 := Aside0.mk H
          clear H
          go_upto_block 2 with (fail)
          go_cut [10] (fun v10 wc => ∃ (kq : Nat) (x10_17 : List ByteArray), Aside0 (joinerylaw2_MarkSets.j3 kq a2 a3 x9_8 x10_17 = some r) ∧ Aside0 (kq ≤ kj8) ∧ Aside0 (Kd.R Kd.string 9 wc w.heap.size (fun k_ => some k_ ≠ (v10 : Value).ownBlock) u9 x9_8) ∧ Aside0 (Kd.R Kd.string 9 wc w.heap.size (fun k_ => some k_ ≠ (u9 : Value).ownBlock) v10 x10_17) ∧ Aside0 (Below w.heap.size w wc))
          case first =>
            have H := HC18.out
            clear HC18
            have H' := Aside0.mk H
            clear H
            go_wp2
            go_loopg [10, 12] kj8 (fun kq v10 v12 w' => ∃ (x10_2 : List ByteArray) (x12_2 : Int), v12 = .int .i64 x12_2 ∧ Aside0 (joinerylaw2_MarkSets.l1 kq l1 a2 a3 x9_8 x10_2 x12_2 = some r) ∧ Aside0 (kq ≤ kj8) ∧ Aside0 (Kd.R Kd.string 9 w' w.heap.size (fun k_ => some k_ ≠ (v10 : Value).ownBlock) u9 x9_8) ∧ Aside0 (Kd.R Kd.string 9 w' w.heap.size (fun k_ => some k_ ≠ (u9 : Value).ownBlock) v10 x10_2) ∧ Aside0 (Below w.heap.size w w'))
            case atStart => exact ⟨(([] : List ByteArray)), (0), (by first | rfl | (simp; done) | (simp [*]; done)), H', ⟨Nat.le_refl _⟩, ⟨by (with_reducible repeat (first | apply Kd.R_alloc | apply Kd.R_drewN | apply Kd.R_drew)); exact HO_9.out⟩, ⟨by (with_reducible repeat (first | apply Kd.R_alloc | apply Kd.R_drewN | apply Kd.R_drew)); exact HO_10.out⟩, ⟨by repeat (first | (with_reducible first | exact HB.out | apply below_alloc | apply pw_below_drewN | apply below_drew1) | exact HB.out)⟩⟩
            case round =>
              clear H'
              try clear c1
              try clear p1
              try clear q1
              try clear hx1
              try clear c2
              try clear p2
              try clear c6
              try clear p6
              try clear c7
              try clear c7b0
              try clear c7b1
              try clear c10
              try clear c11
              try clear c11b0
              try clear c12
              try clear c12b0
              try clear p12
              try clear q12
              try clear hx12
              try clear c13
              try clear c13b0
              try clear c15
              try clear hx126_0
              try clear p1
              try clear p12
              try clear p126
              try clear p2
              try clear p6
              try clear q1
              try clear q12
              try clear q126
              obtain ⟨x10_2, x12_2, rfl, HA, HK2, HO_9, HO_10, HB⟩ := hrel
              cases gk with
              | zero => exact absurd HA.out (by simp [joinerylaw2_MarkSets.l1])
              | succ k2 =>
                have H := HA.out
                clear HA
                simp only [joinerylaw2_MarkSets.l1] at H
                by_cases c19 : x12_2 < (l1.length : Int)
                · rw [if_pos c19] at H
                  have c19b0 : decide (x12_2 < (l1.length : Int)) = true := decide_eq_true c19
                  clear c19
                  (first | rw [c19b1] | rw [c19b0] | (simp only [i64_w, i32_w]; rw [c19b0]) | skip)
                  by_cases c20 : x12_2 < 6
                  · rw [if_pos c20] at H
                    have c20b0 : decide (x12_2 < 6) = true := decide_eq_true c20
                    clear c20
                    by_cases c21 : 0 ≤ x12_2
                    · rw [if_pos c21] at H
                      have c21b0 : decide (0 ≤ x12_2) = true := decide_eq_true c21
                      clear c21
                      replace H := Option.bind_eq_some_iff.mp H
                      obtain ⟨t132, A220, H⟩ := H
                      replace H : (if x10_2.length < 8796093022208 then (joinerylaw2_MarkSets.l1 k2 l1 a2 a3 x9_8 (x10_2 ++ [t132]) (wrap64 (x12_2 + 1))) else (none)) = some r := H
                      have A22 := Aside0.mk A220
                      clear A220
                      by_cases c23 : x10_2.length < 8796093022208
                      · rw [if_pos c23] at H
                        have LMc23 := Aside0.mk c23
                        clear c23
                        obtain ⟨y133, hy133⟩ : ∃ y_ : List ByteArray, y_ = (x10_2 ++ [t132]) := ⟨_, rfl⟩
                        replace H : (joinerylaw2_MarkSets.l1 k2 l1 a2 a3 x9_8 y133 (wrap64 (x12_2 + 1))) = some r := by first | (rw [hy133]; with_reducible exact H) | (have H2_ := (Option.bind_some _ _).symm.trans H; rw [hy133]; with_reducible exact H2_) | (have H2_ := (Option.bind_some _ _).symm.trans H; with_reducible exact H2_) | with_reducible exact H | (rw [hy133]; exact H) | exact H
                        have Ny133 := Aside0.mk hy133
                        clear hy133
                        have H' := Aside0.mk H
                        clear H
                        have p131 : 0 ≤ (x12_2 : Int) := of_decide_eq_true (by first | (with_reducible assumption) | assumption)
                        have q131 : x12_2 < (l1.length : Int) := of_decide_eq_true (by first | (with_reducible assumption) | assumption)
                        obtain ⟨ad131, e131, hx131_0⟩ := Kd.at_int HR1.out x12_2 p131 q131
                        cases e131
                        replace hx131_0 := (HB.out.cell (World.block_lt_of_cell? w _ hx131_0)).trans hx131_0
                        replace p131 := eq_true p131
                        replace q131 := eq_true q131
                        go_wp2_with (first | ((with_reducible refine gate_callee (f := 20) rfl ?_); refine goesL_ (some 54) rfl rfl Try.func20 (by kernel_rfl) rfl #[.int .i64 (rd l1 x12_2)] rfl (by (try simp only [List.map_toArray, List.map_cons, List.map_nil]); first | done | rfl | (simp only [List.length_drop, List.length_take]; rfl)) ?_; (with_reducible refine (joinerylaw2_Name.calls (rd l1 x12_2) t132 _ A22.out).mono ?_); rintro e w24 ⟨rfl, hb⟩; refine ⟨_, rfl, ?_⟩; have n0_ := Aside0.mk (Kd.R_below (by (with_reducible repeat (first | apply Kd.R_alloc | apply Kd.R_drewN | apply Kd.R_drew)); exact HO_9.out) hb); have n1_ := Aside0.mk (Kd.R_below (by (with_reducible repeat (first | apply Kd.R_alloc | apply Kd.R_drewN | apply Kd.R_drew)); exact HO_10.out) hb); have n2_ := Aside0.mk (below_step (by repeat (first | (with_reducible first | exact HB.out | apply below_alloc | apply pw_below_drewN | apply below_drew1) | exact HB.out)) hb); clear HO_9; clear HO_10; clear HB; have HO_9 := n0_; have HO_10 := n1_; have HB := n2_; clear n0_ n1_ n2_; (try clear hb); (try clear hb2); (try clear hk); (try clear hi)) | ((with_reducible refine gate_builtin (b := .append) (xs := #[.tmp 49, .tmp 55]) rfl ?_); at_builtin; refine Kd.R_append Kd.string (w0 := w) w.heap.size rfl (.tmp 49) (.tmp 55) 26 9 (.string ⟨#[]⟩) 16 rfl Try.underlying26 info9 rfl (by decide) (by omega) u10 x10_2 t132 [.string t132] (fun k_ => some k_ ≠ (u9 : Value).ownBlock) (fun _ => False) rfl rfl ?aP (fun _ hk => hk.elim) ?aF ?aO ?aB ?aS ?aL ?_; (case aP => exact rfl); (case aB => exact (by repeat (first | (with_reducible first | exact HB.out | apply below_alloc | apply pw_below_drewN | apply below_drew1) | exact HB.out))); (case aF => exact (fun k_ hk => Kd.fresh' (Kd.R_lt (by (with_reducible repeat (first | apply Kd.R_alloc | apply Kd.R_drewN | apply Kd.R_drew)); exact HO_9.out)) k_ hk)); (case aO => exact (by (with_reducible repeat (first | apply Kd.R_alloc | apply Kd.R_drewN | apply Kd.R_drew)); exact HO_10.out)); (case aS => exact (below_size (by repeat (first | (with_reducible first | exact HB.out | apply below_alloc | apply pw_below_drewN | apply below_drew1) | exact HB.out)))); (case aL => have := LMc23.out; omega); intro v134 w25 ho hb hg hat; rw [← Ny133.out] at ho; have n0_ := Aside0.mk (Kd.R_after (ok := (fun _ => True)) (by (with_reducible repeat (first | apply Kd.R_alloc | apply Kd.R_drewN | apply Kd.R_drew)); exact Kd.R_mono HO_9.out (fun _ hk => ⟨trivial, hk⟩)) hg hat); have n1_ := Aside0.mk (hb); have n2_ := Aside0.mk (ho); clear HO_9; clear HB; clear HO_10; have HO_9 := n0_; have HB := n1_; have HO135 := n2_; clear n0_ n1_ n2_; clear ho hb hg hat))
                        go_roundg k2
                        case measure => have := HJ8.out; have := HK2.out; omega
                        case rel => exact ⟨(y133), (wrap64 (x12_2 + 1)), (by first | rfl | (simp; done) | (simp [*]; done)), H', ⟨by have := HJ8.out; have := HK2.out; omega⟩, ⟨by (with_reducible repeat (first | apply Kd.R_alloc | apply Kd.R_drewN | apply Kd.R_drew)); exact Kd.R_mono HO_9.out (fun _ hk => hk.2)⟩, ⟨by (with_reducible repeat (first | apply Kd.R_alloc | apply Kd.R_drewN | apply Kd.R_drew)); exact HO135.out⟩, ⟨by repeat (first | (with_reducible first | exact HB.out | apply below_alloc | apply pw_below_drewN | apply below_drew1) | exact HB.out)⟩⟩
                      · rw [if_neg c23] at H
                        exact absurd H (by simp)
                    · rw [if_neg c21] at H
                      exact absurd H (by simp)
                  · rw [if_neg c20] at H
                    have c20b0 : decide (x12_2 < 6) = false := decide_eq_false c20
                    clear c20
                    have H' := Aside0.mk H
                    clear H
                    go_wp2
                    go_meet
                    case rel => exact ⟨_, (x10_2), H', ⟨by have := HJ8.out; have := HK2.out; first | omega | exact Nat.le_refl _⟩, ⟨by (with_reducible repeat (first | apply Kd.R_alloc | apply Kd.R_drewN | apply Kd.R_drew)); exact HO_9.out⟩, ⟨by (with_reducible repeat (first | apply Kd.R_alloc | apply Kd.R_drewN | apply Kd.R_drew)); exact HO_10.out⟩, ⟨by repeat (first | (with_reducible first | exact HB.out | apply below_alloc | apply pw_below_drewN | apply below_drew1) | exact HB.out)⟩⟩
                · rw [if_neg c19] at H
                  have c19b0 : decide (x12_2 < (l1.length : Int)) = false := decide_eq_false c19
                  clear c19
                  (first | rw [c19b1] | rw [c19b0] | (simp only [i64_w, i32_w]; rw [c19b0]) | skip)
                  have H' := Aside0.mk H
                  clear H
                  go_wp2
                  go_meet
                  case rel => exact ⟨_, (x10_2), H', ⟨by have := HJ8.out; have := HK2.out; first | omega | exact Nat.le_refl _⟩, ⟨by (with_reducible repeat (first | apply Kd.R_alloc | apply Kd.R_drewN | apply Kd.R_drew)); exact HO_9.out⟩, ⟨by (with_reducible repeat (first | apply Kd.R_alloc | apply Kd.R_drewN | apply Kd.R_drew)); exact HO_10.out⟩, ⟨by repeat (first | (with_reducible first | exact HB.out | apply below_alloc | apply pw_below_drewN | apply below_drew1) | exact HB.out)⟩⟩
          case rest =>
            clear HC18
            try clear c1
            try clear p1
            try clear q1
            try clear hx1
            try clear c2
            try clear p2
            try clear c6
            try clear p6
            try clear c7
            try clear c7b0
            try clear c7b1
            try clear c10
            try clear c11
            try clear c11b0
            try clear c12
            try clear c12b0
            try clear p12
            try clear q12
            try clear hx12
            try clear c13
            try clear c13b0
            try clear p13
            try clear q13
            try clear hx13
            try clear c15
            try clear c19
            try clear c19b0
            try clear c20
            try clear c20b0
            try clear c21
            try clear c21b0
            try clear c23
            try clear hx126_0
            try clear hx131_0
            try clear p1
            try clear p12
            try clear p126
            try clear p131
            try clear p2
            try clear p6
            try clear q1
            try clear q12
            try clear q126
            try clear q131
            obtain ⟨kq, x10_17, HA, HJ17, HO_9, HO_10, HB⟩ := hcut
            cases kq with
            | zero => exact absurd HA.out (by simp [joinerylaw2_MarkSets.j3])
            | succ kj17 =>
              have H := HA.out
              clear HA
              simp only [joinerylaw2_MarkSets.j3] at H
              obtain ⟨y136, hy136⟩ : ∃ y_ : List ByteArray, y_ = (([] : List ByteArray)) := ⟨_, rfl⟩
              replace H : (if y136.length + x9_8.length < 8796093022208 then ((some (y136 ++ x9_8 : List ByteArray)).bind fun y139 => (if (y139.length : Int) > 0 then ((joinerylaw2_within.f a3 (y139.length : Int)).bind fun t142 => (if 0 ≤ t142 then (if t142 < (y139.length : Int) then (joinerylaw2_MarkSets.j4 kj17 a3 x9_8 x10_17 (y139.set (t142 : Int).toNat a2)) else (none)) else (none))) else (joinerylaw2_MarkSets.j4 kj17 a3 x9_8 x10_17 y139))) else (none)) = some r := by first | (rw [hy136]; with_reducible exact H) | (have H2_ := (Option.bind_some _ _).symm.trans H; rw [hy136]; with_reducible exact H2_) | (have H2_ := (Option.bind_some _ _).symm.trans H; with_reducible exact H2_) | with_reducible exact H | (rw [hy136]; exact H) | exact H
              have Ny136 := Aside0.mk hy136
              clear hy136
              by_cases c26 : y136.length + x9_8.length < 8796093022208
              · rw [if_pos c26] at H
                have LMc26 := Aside0.mk c26
                clear c26
                obtain ⟨y139, hy139⟩ : ∃ y_ : List ByteArray, y_ = (y136 ++ x9_8) := ⟨_, rfl⟩
                replace H : (if (y139.length : Int) > 0 then ((joinerylaw2_within.f a3 (y139.length : Int)).bind fun t142 => (if 0 ≤ t142 then (if t142 < (y139.length : Int) then (joinerylaw2_MarkSets.j4 kj17 a3 x9_8 x10_17 (y139.set (t142 : Int).toNat a2)) else (none)) else (none))) else (joinerylaw2_MarkSets.j4 kj17 a3 x9_8 x10_17 y139)) = some r := by first | (rw [hy139]; with_reducible exact H) | (have H2_ := (Option.bind_some _ _).symm.trans H; rw [hy139]; with_reducible exact H2_) | (have H2_ := (Option.bind_some _ _).symm.trans H; with_reducible exact H2_) | with_reducible exact H | (rw [hy139]; exact H) | exact H
                have Ny139 := Aside0.mk hy139
                clear hy139
                have HC27 := Aside0.mk H
                clear H
                go_upto_if 62 with (first | ((with_reducible refine gate_dst (N := 57) rfl ?_); refine Kd.R_lit Kd.string _ 9 ?hg (N := 57) ?hd (xs := ([] : List ByteArray)) (inner := []) (ok := fun _ => True) (okp := fun _ => True) ?hr ?hp (fun _ hk => hk) trivial (Below.refl _ _) (Nat.le_refl _) (by simp) ?_; (case hd => rfl); (case hg => rfl); (case hr => first | (go_simp; done) | (go_simp; rfl)); (case hp => exact (Reps.none _ _)); intro v137 w28 ho29 hb hg_ hnew_; clear hg_ hnew_; (first | rw [← Ny136.out] at ho29 | (simp only [Int.reduceToNat] at ho29; rw [← Ny136.out] at ho29)); have n0_ := Aside0.mk (Kd.R_elder' (by (with_reducible repeat (first | apply Kd.R_alloc | apply Kd.R_drewN | apply Kd.R_drew)); exact HO_9.out) (Kd.R_base ho29) hb); have n1_ := Aside0.mk (Kd.R_elder' (by (with_reducible repeat (first | apply Kd.R_alloc | apply Kd.R_drewN | apply Kd.R_drew)); exact HO_10.out) (Kd.R_base ho29) hb); have n2_ := Aside0.mk (Kd.R_lower (Kd.R_new' (Kd.R_new' ho29 (Kd.R_lt (by (with_reducible repeat (first | apply Kd.R_alloc | apply Kd.R_drewN | apply Kd.R_drew)); exact HO_9.out))) (Kd.R_lt (by (with_reducible repeat (first | apply Kd.R_alloc | apply Kd.R_drewN | apply Kd.R_drew)); exact HO_10.out))) (below_size (by repeat (first | (with_reducible first | exact HB.out | apply below_alloc | apply pw_below_drewN | apply below_drew1) | exact HB.out)))); have n3_ := Aside0.mk (below_step (by repeat (first | (with_reducible first | exact HB.out | apply below_alloc | apply pw_below_drewN | apply below_drew1) | exact HB.out)) hb); clear HO_9; clear HO_10; clear HB; have HO_9 := n0_; have HO_10 := n1_; have HO138 := n2_; have HB := n3_; clear n0_ n1_ n2_ n3_; clear hb ho29; obtain ⟨Ao31, co31, eo31⟩ := Kd.R_slice HO_9.out; subst eo31) | ((with_reducible refine gate_builtin (b := .append) (xs := #[.tmp 57, .tmp 58]) rfl ?_); at_builtin; refine Kd.R_append_rows Kd.string (w0 := w) w.heap.size rfl (.tmp 57) (.tmp 58) 26 9 (.string ⟨#[]⟩) 16 rfl Try.underlying26 info9 rfl (by decide) (by omega) v137 y136 x9_8 _ _ _ (fun k_ => some k_ ≠ (.slice Ao31 x9_8.length co31 : Value).ownBlock ∧ some k_ ≠ (u10 : Value).ownBlock) (fun _ => False) rfl rfl ?aO ?aR (fun _ _ h => h) (fun _ h => h.elim) ?aF ?aB ?aS ?aL ?_; (case aR => repeat (first | exact (Kd.R_reads' HO_9.out).2.2 | (with_reducible refine Kd.C_alloc ?_ _) | (with_reducible refine Kd.C_drewN ?_ _) | (with_reducible refine Kd.C_drew ?_))); (case aB => exact (by repeat (first | (with_reducible first | exact HB.out | apply below_alloc | apply pw_below_drewN | apply below_drew1) | exact HB.out))); (case aF => exact (fun k_ hk => ⟨Kd.fresh' (Kd.R_lt (by (with_reducible repeat (first | apply Kd.R_alloc | apply Kd.R_drewN | apply Kd.R_drew)); exact HO_9.out)) k_ hk, Kd.fresh' (Kd.R_lt (by (with_reducible repeat (first | apply Kd.R_alloc | apply Kd.R_drewN | apply Kd.R_drew)); exact HO_10.out)) k_ hk⟩)); (case aO => exact (by (with_reducible repeat (first | apply Kd.R_alloc | apply Kd.R_drewN | apply Kd.R_drew)); exact Kd.R_mono HO138.out (fun _ hk => ⟨hk.1.2, hk.2⟩))); (case aS => exact (below_size (by repeat (first | (with_reducible first | exact HB.out | apply below_alloc | apply pw_below_drewN | apply below_drew1) | exact HB.out)))); (case aL => have := LMc26.out; omega); intro v140 w30 ho hb hg hat; rw [← Ny139.out] at ho; have n0_ := Aside0.mk (Kd.R_after (ok := (fun k_ => some k_ ≠ (u10 : Value).ownBlock)) (by (with_reducible repeat (first | apply Kd.R_alloc | apply Kd.R_drewN | apply Kd.R_drew)); exact HO_9.out) hg hat); have n1_ := Aside0.mk (Kd.R_after (ok := (fun k_ => some k_ ≠ (.slice Ao31 x9_8.length co31 : Value).ownBlock)) (by (with_reducible repeat (first | apply Kd.R_alloc | apply Kd.R_drewN | apply Kd.R_drew)); exact HO_10.out) hg hat); have n2_ := Aside0.mk (hb); have n3_ := Aside0.mk (ho); clear HO_9; clear HO_10; clear HB; clear HO138; have HO_9 := n0_; have HO_10 := n1_; have HB := n2_; have HO141 := n3_; clear n0_ n1_ n2_ n3_; clear ho hb hg hat; obtain ⟨Ao32, co32, eo32⟩ := Kd.R_slice HO141.out; subst eo32))
                (try simp only [Act.put, List.setIfInBounds_toArray, List.set_cons_zero, List.set_cons_succ])
                go_cut [] (fun wc => ∃ (kq : Nat) (x13_26 : List ByteArray), Aside0 (joinerylaw2_MarkSets.j4 kq a3 x9_8 x10_17 x13_26 = some r) ∧ Aside0 (kq ≤ kj17) ∧ Aside0 (Kd.R Kd.string 9 wc w.heap.size (fun k_ => some k_ ≠ (u10 : Value).ownBlock ∧ some k_ ≠ ((.slice Ao32 y139.length co32) : Value).ownBlock) (.slice Ao31 x9_8.length co31) x9_8) ∧ Aside0 (Kd.R Kd.string 9 wc w.heap.size (fun k_ => some k_ ≠ ((.slice Ao31 x9_8.length co31) : Value).ownBlock ∧ some k_ ≠ ((.slice Ao32 y139.length co32) : Value).ownBlock) u10 x10_17) ∧ Aside0 (Kd.R Kd.string 9 wc w.heap.size (fun k_ => some k_ ≠ ((.slice Ao31 x9_8.length co31) : Value).ownBlock ∧ some k_ ≠ (u10 : Value).ownBlock) (.slice Ao32 y139.length co32) x13_26) ∧ Aside0 (Below w.heap.size w wc))
                case first =>
                  have H := HC27.out
                  clear HC27
                  by_cases c33 : (y139.length : Int) > 0
                  · rw [if_pos c33] at H
                    have c33b0 : decide (0 < (y139.length : Int)) = true := decide_eq_true c33
                    have c33b1 : decide (0 < y139.length) = true := decide_eq_true (by omega)
                    clear c33
                    (first | rw [c33b1] | rw [c33b0] | (simp only [i64_w, i32_w]; rw [c33b0]) | skip)
                    replace H := Option.bind_eq_some_iff.mp H
                    obtain ⟨t142, A340, H⟩ := H
                    replace H : (if 0 ≤ t142 then (if t142 < (y139.length : Int) then (joinerylaw2_MarkSets.j4 kj17 a3 x9_8 x10_17 (y139.set (t142 : Int).toNat a2)) else (none)) else (none)) = some r := H
                    have A34 := Aside0.mk A340
                    clear A340
                    by_cases c35 : 0 ≤ t142
                    · rw [if_pos c35] at H
                      have c35b0 : decide (0 ≤ t142) = true := decide_eq_true c35
                      clear c35
                      by_cases c36 : t142 < (y139.length : Int)
                      · rw [if_pos c36] at H
                        have c36b0 : decide (t142 < (y139.length : Int)) = true := decide_eq_true c36
                        clear c36
                        obtain ⟨y143, hy143⟩ : ∃ y_ : List ByteArray, y_ = (y139.set (t142 : Int).toNat a2) := ⟨_, rfl⟩
                        replace H : (joinerylaw2_MarkSets.j4 kj17 a3 x9_8 x10_17 y143) = some r := by first | (rw [hy143]; with_reducible exact H) | (have H2_ := (Option.bind_some _ _).symm.trans H; rw [hy143]; with_reducible exact H2_) | (have H2_ := (Option.bind_some _ _).symm.trans H; with_reducible exact H2_) | with_reducible exact H | (rw [hy143]; exact H) | exact H
                        have Ny143 := Aside0.mk hy143
                        clear hy143
                        have H' := Aside0.mk H
                        clear H
                        go_wp2_with (first | ((with_reducible refine gate_callee (f := 15) rfl ?_); refine goesL_ (some 67) rfl rfl Try.func15 (by kernel_rfl) rfl #[.int .i64 a3, .int .i64 (y139.length : Int)] rfl (by (try simp only [List.map_toArray, List.map_cons, List.map_nil]); first | done | rfl | (simp only [List.length_drop, List.length_take]; rfl)) ?_; (with_reducible refine (joinerylaw2_within.calls a3 (y139.length : Int) t142 _ A34.out).mono ?_); rintro e w' ⟨rfl, ⟨nd, rfl⟩⟩; refine ⟨_, rfl, ?_⟩; (try (rw [drewN_self w30]; generalize hq_ : World.drewN w30 _ = w30; have n0_ : Aside0 (Kd.R Kd.string 9 w30 w.heap.size (fun k_ => some k_ ≠ (.slice Ao31 x9_8.length co31 : Value).ownBlock ∧ some k_ ≠ (u10 : Value).ownBlock) (.slice Ao32 y139.length co32) y139) := ⟨by rw [← hq_]; exact (by (with_reducible repeat (first | apply Kd.R_alloc | apply Kd.R_drewN | apply Kd.R_drew)); exact HO141.out)⟩; have n1_ : Aside0 (Kd.R Kd.string 9 w30 w.heap.size (fun k_ => some k_ ≠ (.slice Ao31 x9_8.length co31 : Value).ownBlock ∧ some k_ ≠ (.slice Ao32 y139.length co32 : Value).ownBlock) u10 x10_17) := ⟨by rw [← hq_]; exact (by (with_reducible repeat (first | apply Kd.R_alloc | apply Kd.R_drewN | apply Kd.R_drew)); exact HO_10.out)⟩; have n2_ : Aside0 (Kd.R Kd.string 9 w30 w.heap.size (fun k_ => some k_ ≠ (u10 : Value).ownBlock ∧ some k_ ≠ (.slice Ao32 y139.length co32 : Value).ownBlock) (.slice Ao31 x9_8.length co31) x9_8) := ⟨by rw [← hq_]; exact (by (with_reducible repeat (first | apply Kd.R_alloc | apply Kd.R_drewN | apply Kd.R_drew)); exact HO_9.out)⟩; have n3_ : Aside0 (Below w.heap.size w w30) := ⟨by rw [← hq_]; exact (by repeat (first | (with_reducible first | exact HB.out | apply below_alloc | apply pw_below_drewN | apply below_drew1) | exact HB.out))⟩; clear HO141 HO_10 HO_9 HB hq_; have HO141 := n0_; have HO_10 := n1_; have HO_9 := n2_; have HB := n3_; clear n0_ n1_ n2_ n3_)); have p37 : 0 ≤ (t142 : Int) := of_decide_eq_true (by first | (with_reducible assumption) | assumption); have q37 : (t142 : Int) < ((y139.length : Int) : Int) := of_decide_eq_true (by first | (with_reducible assumption) | assumption); obtain ⟨go37, co37, eo37, gb37, gl37, cl37, HG37⟩ := Kd.R_form HO141.out (by omega); (first | cases eo37 | (injection eo37 with ea_ en_ ec_; (first | subst ea_ | (injection ea_ with ea_; subst ea_)); subst ec_; clear en_)); have GB37 := Aside0.mk gb37; have GG37 := Aside0.mk HG37; clear gb37 gl37 HG37; obtain ⟨hx37_0, hf37_0⟩ := Kd.R_celln (⟨#[]⟩ : ByteArray) HO141.out (t142 : Int) p37 q37; replace p37 := eq_true p37; replace q37 := eq_true q37; obtain ⟨hy38_, hz38_⟩ := Kd.R_celln (⟨#[]⟩ : ByteArray) HO141.out (t142 : Int) (of_decide_eq_true (by first | (with_reducible assumption) | assumption)) (of_decide_eq_true (by first | (with_reducible assumption) | assumption)); have HP38 := Kd.R_putg HO141.out (t142 : Int) a2) | ((with_reducible refine gate_store (t := 9) (p := 69) rfl ?_); refine store_event (t := 9) (p := 69) (v := ?vo_w39) (w1 := (w30.setCell ⟨go37, (t142 : Int).toNat, none⟩ (.string a2))) ?hg ?ho ?hn ?hr ?_; (case ho => rfl); (case hg => rfl); (case hn => rfl); (case hr => first | (go_simp; done) | (go_simp; rfl)); intro w39 hw; have hg : w30.grownBy w39 (some go37) := (by rw [hw]; exact HP38.2); have hp_ : Kd.R Kd.string 9 w39 w.heap.size (fun k_ => some k_ ≠ (.slice Ao31 x9_8.length co31 : Value).ownBlock ∧ some k_ ≠ (u10 : Value).ownBlock) (.slice (some ⟨go37, 0, none⟩) y139.length co32) y143 := (by rw [hw, Ny143.out]; exact HP38.1); clear HP38; have n0_ := Aside0.mk (Kd.R_after (v := (.slice (some ⟨go37, 0, none⟩) y139.length co32)) (v1 := (.slice (some ⟨go37, 0, none⟩) y139.length co32)) (ok := (fun k_ => some k_ ≠ (u10 : Value).ownBlock)) (by (with_reducible repeat (first | apply Kd.R_alloc | apply Kd.R_drewN | apply Kd.R_drew)); exact HO_9.out) hg (.inl rfl)); have n1_ := Aside0.mk (Kd.R_after (v := (.slice (some ⟨go37, 0, none⟩) y139.length co32)) (v1 := (.slice (some ⟨go37, 0, none⟩) y139.length co32)) (ok := (fun k_ => some k_ ≠ (.slice Ao31 x9_8.length co31 : Value).ownBlock)) (by (with_reducible repeat (first | apply Kd.R_alloc | apply Kd.R_drewN | apply Kd.R_drew)); exact HO_10.out) hg (.inl rfl)); have n2_ := Aside0.mk (hp_); have n3_ := Aside0.mk ((by rw [hw]; exact below_set (HB.out) GB37.out : Below w.heap.size w w39)); clear HO_9; clear HO_10; clear HO141; clear HB; have HO_9 := n0_; have HO_10 := n1_; have HO141 := n2_; have HB := n3_; clear n0_ n1_ n2_ n3_; clear hg hw hp_))
                        go_meet
                        case rel => exact ⟨_, (y143), H', ⟨by have := HJ8.out; have := HJ17.out; first | omega | exact Nat.le_refl _⟩, ⟨by (with_reducible repeat (first | apply Kd.R_alloc | apply Kd.R_drewN | apply Kd.R_drew)); exact HO_9.out⟩, ⟨by (with_reducible repeat (first | apply Kd.R_alloc | apply Kd.R_drewN | apply Kd.R_drew)); exact HO_10.out⟩, ⟨by (with_reducible repeat (first | apply Kd.R_alloc | apply Kd.R_drewN | apply Kd.R_drew)); exact HO141.out⟩, ⟨by repeat (first | (with_reducible first | exact HB.out | apply below_alloc | apply pw_below_drewN | apply below_drew1) | exact HB.out)⟩⟩
                      · rw [if_neg c36] at H
                        exact absurd H (by simp)
                    · rw [if_neg c35] at H
                      exact absurd H (by simp)
                  · rw [if_neg c33] at H
                    have c33b0 : decide (0 < (y139.length : Int)) = false := decide_eq_false c33
                    have c33b1 : decide (0 < y139.length) = false := decide_eq_false (by omega)
                    clear c33
                    (first | rw [c33b1] | rw [c33b0] | (simp only [i64_w, i32_w]; rw [c33b0]) | skip)
                    have H' := Aside0.mk H
                    clear H
                    go_wp2
                    go_meet
                    case rel => exact ⟨_, (y139), H', ⟨by have := HJ8.out; have := HJ17.out; first | omega | exact Nat.le_refl _⟩, ⟨by (with_reducible repeat (first | apply Kd.R_alloc | apply Kd.R_drewN | apply Kd.R_drew)); exact HO_9.out⟩, ⟨by (with_reducible repeat (first | apply Kd.R_alloc | apply Kd.R_drewN | apply Kd.R_drew)); exact HO_10.out⟩, ⟨by (with_reducible repeat (first | apply Kd.R_alloc | apply Kd.R_drewN | apply Kd.R_drew)); exact HO141.out⟩, ⟨by repeat (first | (with_reducible first | exact HB.out | apply below_alloc | apply pw_below_drewN | apply below_drew1) | exact HB.out)⟩⟩
                case rest =>
                  clear HC27
                  try clear c1
                  try clear p1
                  try clear q1
                  try clear hx1
                  try clear c2
                  try clear p2
                  try clear c3
                  try clear p3
                  try clear q3
                  try clear hx3
                  try clear c6
                  try clear p6
                  try clear c7
                  try clear c7b0
                  try clear c7b1
                  try clear c10
                  try clear c11
                  try clear c11b0
                  try clear c12
                  try clear c12b0
                  try clear p12
                  try clear q12
                  try clear hx12
                  try clear c13
                  try clear c13b0
                  try clear p13
                  try clear q13
                  try clear hx13
                  try clear c15
                  try clear c19
                  try clear c19b0
                  try clear c20
                  try clear c20b0
                  try clear c21
                  try clear c21b0
                  try clear c23
                  try clear c26
                  try clear c33
                  try clear c33b0
                  try clear c33b1
                  try clear c35
                  try clear c35b0
                  try clear c36
                  try clear c36b0
                  try clear p37
                  try clear q37
                  try clear hx37
                  try clear hf37
                  try clear hx126_0
                  try clear hx131_0
                  try clear hx37_0
                  try clear p1
                  try clear p12
                  try clear p126
                  try clear p13
                  try clear p131
                  try clear p2
                  try clear p37
                  try clear p6
                  try clear q1
                  try clear q12
                  try clear q126
                  try clear q13
                  try clear q131
                  try clear q37
                  obtain ⟨kq, x13_26, HA, HJ26, HO_9, HO_10, HO_13, HB⟩ := hcut
                  have hl13_26 := (Kd.R_reads' HO_13.out).1
                  rw [hl13_26] at HO_13
                  (try simp only [hl13_26])
                  (try simp only [hl13_26] at HO_9)
                  (try simp only [hl13_26] at HO_10)
                  cases kq with
                  | zero => exact absurd HA.out (by simp [joinerylaw2_MarkSets.j4])
                  | succ kj26 =>
                    have H := HA.out
                    clear HA
                    simp only [joinerylaw2_MarkSets.j4] at H
                    replace H := Option.bind_eq_some_iff.mp H
                    obtain ⟨t144, A400, H⟩ := H
                    replace H : (joinerylaw2_MarkSets.l2 kj26 x9_8 x10_17 (([x9_8, x10_17, x13_26, [], t144, (([(⟨#[97]⟩ : ByteArray), (⟨#[98]⟩ : ByteArray), (⟨#[99]⟩ : ByteArray), (⟨#[100]⟩ : ByteArray), (⟨#[101]⟩ : ByteArray)] : List ByteArray)), (([(⟨#[97]⟩ : ByteArray), (⟨#[98]⟩ : ByteArray), (⟨#[99]⟩ : ByteArray), (⟨#[100]⟩ : ByteArray)] : List ByteArray))] : List (List ByteArray))) 0) = some r := H
                    have A40 := Aside0.mk A400
                    clear A400
                    obtain ⟨y147, hy147⟩ : ∃ y_ : List ByteArray, y_ = (([(⟨#[97]⟩ : ByteArray), (⟨#[98]⟩ : ByteArray), (⟨#[99]⟩ : ByteArray), (⟨#[100]⟩ : ByteArray), (⟨#[101]⟩ : ByteArray)] : List ByteArray)) := ⟨_, rfl⟩
                    replace H : (joinerylaw2_MarkSets.l2 kj26 x9_8 x10_17 (([x9_8, x10_17, x13_26, [], t144, y147, (([(⟨#[97]⟩ : ByteArray), (⟨#[98]⟩ : ByteArray), (⟨#[99]⟩ : ByteArray), (⟨#[100]⟩ : ByteArray)] : List ByteArray))] : List (List ByteArray))) 0) = some r := by first | (rw [hy147]; with_reducible exact H) | (have H2_ := (Option.bind_some _ _).symm.trans H; rw [hy147]; with_reducible exact H2_) | (have H2_ := (Option.bind_some _ _).symm.trans H; with_reducible exact H2_) | with_reducible exact H | (rw [hy147]; exact H) | exact H
                    have Ny147 := Aside0.mk hy147
                    clear hy147
                    obtain ⟨y150, hy150⟩ : ∃ y_ : List ByteArray, y_ = (([(⟨#[97]⟩ : ByteArray), (⟨#[98]⟩ : ByteArray), (⟨#[99]⟩ : ByteArray), (⟨#[100]⟩ : ByteArray)] : List ByteArray)) := ⟨_, rfl⟩
                    replace H : (joinerylaw2_MarkSets.l2 kj26 x9_8 x10_17 (([x9_8, x10_17, x13_26, [], t144, y147, y150] : List (List ByteArray))) 0) = some r := by first | (rw [hy150]; with_reducible exact H) | (have H2_ := (Option.bind_some _ _).symm.trans H; rw [hy150]; with_reducible exact H2_) | (have H2_ := (Option.bind_some _ _).symm.trans H; with_reducible exact H2_) | with_reducible exact H | (rw [hy150]; exact H) | exact H
                    have Ny150 := Aside0.mk hy150
                    clear hy150
                    obtain ⟨y153, hy153⟩ : ∃ y_ : List (List ByteArray), y_ = (([x9_8, x10_17, x13_26, [], t144, y147, y150] : List (List ByteArray))) := ⟨_, rfl⟩
                    replace H : (joinerylaw2_MarkSets.l2 kj26 x9_8 x10_17 y153 0) = some r := by first | (rw [hy153]; with_reducible exact H) | (have H2_ := (Option.bind_some _ _).symm.trans H; rw [hy153]; with_reducible exact H2_) | (have H2_ := (Option.bind_some _ _).symm.trans H; with_reducible exact H2_) | with_reducible exact H | (rw [hy153]; exact H) | exact H
                    have Ny153 := Aside0.mk hy153
                    clear hy153
                    have H' := Aside0.mk H
                    clear H
                    go_wp2_with (first | ((with_reducible refine gate_callee (f := 21) rfl ?_); refine goesL_ (some 74) rfl rfl Try.func21 (by kernel_rfl) rfl #[.int .i64 a3] rfl (by (try simp only [List.map_toArray, List.map_cons, List.map_nil]); first | done | rfl | (simp only [List.length_drop, List.length_take]; rfl)) ?_; (with_reducible refine (joinerylaw2_Set.calls kj26 a3 t144 _ A40.out).mono ?_); rintro e w41 ⟨v145, rfl, ho0, hb⟩; refine ⟨_, rfl, ?_⟩; have n0_ := Aside0.mk (Kd.R_elder' (by (with_reducible repeat (first | apply Kd.R_alloc | apply Kd.R_drewN | apply Kd.R_drew)); exact HO_9.out) (Kd.R_base ho0) hb); have n1_ := Aside0.mk (Kd.R_elder' (by (with_reducible repeat (first | apply Kd.R_alloc | apply Kd.R_drewN | apply Kd.R_drew)); exact HO_10.out) (Kd.R_base ho0) hb); have n2_ := Aside0.mk (Kd.R_elder' (by (with_reducible repeat (first | apply Kd.R_alloc | apply Kd.R_drewN | apply Kd.R_drew)); exact HO_13.out) (Kd.R_base ho0) hb); have n3_ := Aside0.mk (Kd.R_lower (Kd.R_new' (Kd.R_new' (Kd.R_new' ho0 (Kd.R_lt (by (with_reducible repeat (first | apply Kd.R_alloc | apply Kd.R_drewN | apply Kd.R_drew)); exact HO_9.out))) (Kd.R_lt (by (with_reducible repeat (first | apply Kd.R_alloc | apply Kd.R_drewN | apply Kd.R_drew)); exact HO_10.out))) (Kd.R_lt (by (with_reducible repeat (first | apply Kd.R_alloc | apply Kd.R_drewN | apply Kd.R_drew)); exact HO_13.out))) (below_size (by repeat (first | (with_reducible first | exact HB.out | apply below_alloc | apply pw_below_drewN | apply below_drew1) | exact HB.out)))); have n4_ := Aside0.mk (below_step (by repeat (first | (with_reducible first | exact HB.out | apply below_alloc | apply pw_below_drewN | apply below_drew1) | exact HB.out)) hb); clear HO_9; clear HO_10; clear HO_13; clear HB; have HO_9 := n0_; have HO_10 := n1_; have HO_13 := n2_; have HO146 := n3_; have HB := n4_; clear n0_ n1_ n2_ n3_ n4_; (try clear hb); (try clear hb2); (try clear hk); (try clear hi); (try clear ho0)) | ((with_reducible refine gate_dst (N := 75) rfl ?_); refine Kd.R_lit Kd.string _ 9 ?hg (N := 75) ?hd (xs := ([(⟨#[97]⟩ : ByteArray), (⟨#[98]⟩ : ByteArray), (⟨#[99]⟩ : ByteArray), (⟨#[100]⟩ : ByteArray), (⟨#[101]⟩ : ByteArray)] : List ByteArray)) (inner := [.string (⟨#[97]⟩ : ByteArray), .string (⟨#[98]⟩ : ByteArray), .string (⟨#[99]⟩ : ByteArray), .string (⟨#[100]⟩ : ByteArray), .string (⟨#[101]⟩ : ByteArray)]) (ok := fun _ => True) (okp := fun _ => True) ?hr ?hp (fun _ hk => hk) trivial (Below.refl _ _) (Nat.le_refl _) (by simp) ?_; (case hd => rfl); (case hg => rfl); (case hr => first | (go_simp; done) | (go_simp; rfl)); (case hp => exact (Reps.one (show Kd.M Kd.string _ _ _ (⟨#[97]⟩ : ByteArray) [.string (⟨#[97]⟩ : ByteArray)] from rfl) (Reps.one (show Kd.M Kd.string _ _ _ (⟨#[98]⟩ : ByteArray) [.string (⟨#[98]⟩ : ByteArray)] from rfl) (Reps.one (show Kd.M Kd.string _ _ _ (⟨#[99]⟩ : ByteArray) [.string (⟨#[99]⟩ : ByteArray)] from rfl) (Reps.one (show Kd.M Kd.string _ _ _ (⟨#[100]⟩ : ByteArray) [.string (⟨#[100]⟩ : ByteArray)] from rfl) (Reps.one (show Kd.M Kd.string _ _ _ (⟨#[101]⟩ : ByteArray) [.string (⟨#[101]⟩ : ByteArray)] from rfl) (Reps.none _ _))))))); intro v148 w42 ho43 hb hg_ hnew_; clear hg_ hnew_; (first | rw [← Ny147.out] at ho43 | (simp only [Int.reduceToNat] at ho43; rw [← Ny147.out] at ho43)); have n0_ := Aside0.mk (Kd.R_elder' (by (with_reducible repeat (first | apply Kd.R_alloc | apply Kd.R_drewN | apply Kd.R_drew)); exact HO_9.out) (Kd.R_base ho43) hb); have n1_ := Aside0.mk (Kd.R_elder' (by (with_reducible repeat (first | apply Kd.R_alloc | apply Kd.R_drewN | apply Kd.R_drew)); exact HO_10.out) (Kd.R_base ho43) hb); have n2_ := Aside0.mk (Kd.R_elder' (by (with_reducible repeat (first | apply Kd.R_alloc | apply Kd.R_drewN | apply Kd.R_drew)); exact HO_13.out) (Kd.R_base ho43) hb); have n3_ := Aside0.mk (Kd.R_elder' (by (with_reducible repeat (first | apply Kd.R_alloc | apply Kd.R_drewN | apply Kd.R_drew)); exact HO146.out) (Kd.R_base ho43) hb); have n4_ := Aside0.mk (Kd.R_lower (Kd.R_new' (Kd.R_new' (Kd.R_new' (Kd.R_new' ho43 (Kd.R_lt (by (with_reducible repeat (first | apply Kd.R_alloc | apply Kd.R_drewN | apply Kd.R_drew)); exact HO_9.out))) (Kd.R_lt (by (with_reducible repeat (first | apply Kd.R_alloc | apply Kd.R_drewN | apply Kd.R_drew)); exact HO_10.out))) (Kd.R_lt (by (with_reducible repeat (first | apply Kd.R_alloc | apply Kd.R_drewN | apply Kd.R_drew)); exact HO_13.out))) (Kd.R_lt (by (with_reducible repeat (first | apply Kd.R_alloc | apply Kd.R_drewN | apply Kd.R_drew)); exact HO146.out))) (below_size (by repeat (first | (with_reducible first | exact HB.out | apply below_alloc | apply pw_below_drewN | apply below_drew1) | exact HB.out)))); have n5_ := Aside0.mk (below_step (by repeat (first | (with_reducible first | exact HB.out | apply below_alloc | apply pw_below_drewN | apply below_drew1) | exact HB.out)) hb); clear HO_9; clear HO_10; clear HO_13; clear HO146; clear HB; have HO_9 := n0_; have HO_10 := n1_; have HO_13 := n2_; have HO146 := n3_; have HO149 := n4_; have HB := n5_; clear n0_ n1_ n2_ n3_ n4_ n5_; clear hb ho43) | ((with_reducible refine gate_dst (N := 76) rfl ?_); refine Kd.R_lit Kd.string _ 9 ?hg (N := 76) ?hd (xs := ([(⟨#[97]⟩ : ByteArray), (⟨#[98]⟩ : ByteArray), (⟨#[99]⟩ : ByteArray), (⟨#[100]⟩ : ByteArray)] : List ByteArray)) (inner := [.string (⟨#[97]⟩ : ByteArray), .string (⟨#[98]⟩ : ByteArray), .string (⟨#[99]⟩ : ByteArray), .string (⟨#[100]⟩ : ByteArray)]) (ok := fun _ => True) (okp := fun _ => True) ?hr ?hp (fun _ hk => hk) trivial (Below.refl _ _) (Nat.le_refl _) (by simp) ?_; (case hd => rfl); (case hg => rfl); (case hr => first | (go_simp; done) | (go_simp; rfl)); (case hp => exact (Reps.one (show Kd.M Kd.string _ _ _ (⟨#[97]⟩ : ByteArray) [.string (⟨#[97]⟩ : ByteArray)] from rfl) (Reps.one (show Kd.M Kd.string _ _ _ (⟨#[98]⟩ : ByteArray) [.string (⟨#[98]⟩ : ByteArray)] from rfl) (Reps.one (show Kd.M Kd.string _ _ _ (⟨#[99]⟩ : ByteArray) [.string (⟨#[99]⟩ : ByteArray)] from rfl) (Reps.one (show Kd.M Kd.string _ _ _ (⟨#[100]⟩ : ByteArray) [.string (⟨#[100]⟩ : ByteArray)] from rfl) (Reps.none _ _)))))); intro v151 w44 ho45 hb hg_ hnew_; clear hg_ hnew_; (first | rw [← Ny150.out] at ho45 | (simp only [Int.reduceToNat] at ho45; rw [← Ny150.out] at ho45)); have n0_ := Aside0.mk (Kd.R_elder' (by (with_reducible repeat (first | apply Kd.R_alloc | apply Kd.R_drewN | apply Kd.R_drew)); exact HO_9.out) (Kd.R_base ho45) hb); have n1_ := Aside0.mk (Kd.R_elder' (by (with_reducible repeat (first | apply Kd.R_alloc | apply Kd.R_drewN | apply Kd.R_drew)); exact HO_10.out) (Kd.R_base ho45) hb); have n2_ := Aside0.mk (Kd.R_elder' (by (with_reducible repeat (first | apply Kd.R_alloc | apply Kd.R_drewN | apply Kd.R_drew)); exact HO_13.out) (Kd.R_base ho45) hb); have n3_ := Aside0.mk (Kd.R_elder' (by (with_reducible repeat (first | apply Kd.R_alloc | apply Kd.R_drewN | apply Kd.R_drew)); exact HO146.out) (Kd.R_base ho45) hb); have n4_ := Aside0.mk (Kd.R_elder' (by (with_reducible repeat (first | apply Kd.R_alloc | apply Kd.R_drewN | apply Kd.R_drew)); exact HO149.out) (Kd.R_base ho45) hb); have n5_ := Aside0.mk (Kd.R_lower (Kd.R_new' (Kd.R_new' (Kd.R_new' (Kd.R_new' (Kd.R_new' ho45 (Kd.R_lt (by (with_reducible repeat (first | apply Kd.R_alloc | apply Kd.R_drewN | apply Kd.R_drew)); exact HO_9.out))) (Kd.R_lt (by (with_reducible repeat (first | apply Kd.R_alloc | apply Kd.R_drewN | apply Kd.R_drew)); exact HO_10.out))) (Kd.R_lt (by (with_reducible repeat (first | apply Kd.R_alloc | apply Kd.R_drewN | apply Kd.R_drew)); exact HO_13.out))) (Kd.R_lt (by (with_reducible repeat (first | apply Kd.R_alloc | apply Kd.R_drewN | apply Kd.R_drew)); exact HO146.out))) (Kd.R_lt (by (with_reducible repeat (first | apply Kd.R_alloc | apply Kd.R_drewN | apply Kd.R_drew)); exact HO149.out))) (below_size (by repeat (first | (with_reducible first | exact HB.out | apply below_alloc | apply pw_below_drewN | apply below_drew1) | exact HB.out)))); have n6_ := Aside0.mk (below_step (by repeat (first | (with_reducible first | exact HB.out | apply below_alloc | apply pw_below_drewN | apply below_drew1) | exact HB.out)) hb); clear HO_9; clear HO_10; clear HO_13; clear HO146; clear HO149; clear HB; have HO_9 := n0_; have HO_10 := n1_; have HO_13 := n2_; have HO146 := n3_; have HO149 := n4_; have HO152 := n5_; have HB := n6_; clear n0_ n1_ n2_ n3_ n4_ n5_ n6_; clear hb ho45; obtain ⟨Ao46, co46, eo46⟩ := Kd.R_slice HO_10.out; subst eo46; obtain ⟨Ao47, co47, eo47⟩ := Kd.R_slice HO146.out; subst eo47; obtain ⟨Ao48, co48, eo48⟩ := Kd.R_slice HO149.out; subst eo48; obtain ⟨Ao49, co49, eo49⟩ := Kd.R_slice HO152.out; subst eo49) | ((with_reducible refine gate_dst (N := 77) rfl ?_); refine Kd.N_lit (Kd.slice 9 Kd.string) _ 26 ?hg (N' := 77) ?hd (xs := ([x9_8, x10_17, x13_26, [], t144, y147, y150] : List (List ByteArray))) (inner := [.slice Ao31 x9_8.length co31, .slice Ao46 x10_17.length co46, .slice Ao32 x13_26.length co32, .slice none 0 0, .slice Ao47 t144.length co47, .slice Ao48 y147.length co48, .slice Ao49 y150.length co49]) (ok := (fun _ => True)) (okp := (fun _ => True)) ?hr ?hp (fun _ hk => hk) ((show ∀ k_, w44.heap.size ≤ k_ → (fun _ => True) k_ from fun k_ hk => trivial) _ (Nat.le_refl _)) (Below.refl _ _) (Nat.le_refl _) (by simp) ?_; (case hd => rfl); (case hg => rfl); (case hr => first | (go_simp; done) | (go_simp; rfl)); (case hp => exact (Reps.one (show Kd.FK (Kd.slice 9 Kd.string) _ _ x9_8 [.slice Ao31 x9_8.length co31] from (Kd.FK_slice_mk (Kd.R_reads' (Kd.R_mono (ok' := (fun _ => True)) (HO_9.out) (fun k_ hk => trivial))).2.1 (Kd.R_F (Kd.R_mono (ok' := (fun _ => True)) (HO_9.out) (fun k_ hk => trivial))))) (Reps.one (show Kd.FK (Kd.slice 9 Kd.string) _ _ x10_17 [.slice Ao46 x10_17.length co46] from (Kd.FK_slice_mk (Kd.R_reads' (Kd.R_mono (ok' := (fun _ => True)) (HO_10.out) (fun k_ hk => trivial))).2.1 (Kd.R_F (Kd.R_mono (ok' := (fun _ => True)) (HO_10.out) (fun k_ hk => trivial))))) (Reps.one (show Kd.FK (Kd.slice 9 Kd.string) _ _ x13_26 [.slice Ao32 x13_26.length co32] from (Kd.FK_slice_mk (Kd.R_reads' (Kd.R_mono (ok' := (fun _ => True)) (HO_13.out) (fun k_ hk => trivial))).2.1 (Kd.R_F (Kd.R_mono (ok' := (fun _ => True)) (HO_13.out) (fun k_ hk => trivial))))) (Reps.one (show Kd.FK (Kd.slice 9 Kd.string) _ _ [] [.slice none 0 0] from (Kd.FK_slice_mk (Nat.le_refl _) (Kd.F_nil _ _ _))) (Reps.one (show Kd.FK (Kd.slice 9 Kd.string) _ _ t144 [.slice Ao47 t144.length co47] from (Kd.FK_slice_mk (Kd.R_reads' (Kd.R_mono (ok' := (fun _ => True)) (HO146.out) (fun k_ hk => trivial))).2.1 (Kd.R_F (Kd.R_mono (ok' := (fun _ => True)) (HO146.out) (fun k_ hk => trivial))))) (Reps.one (show Kd.FK (Kd.slice 9 Kd.string) _ _ y147 [.slice Ao48 y147.length co48] from (Kd.FK_slice_mk (Kd.R_reads' (Kd.R_mono (ok' := (fun _ => True)) (HO149.out) (fun k_ hk => trivial))).2.1 (Kd.R_F (Kd.R_mono (ok' := (fun _ => True)) (HO149.out) (fun k_ hk => trivial))))) (Reps.one (show Kd.FK (Kd.slice 9 Kd.string) _ _ y150 [.slice Ao49 y150.length co49] from (Kd.FK_slice_mk (Kd.R_reads' (Kd.R_mono (ok' := (fun _ => True)) (HO152.out) (fun k_ hk => trivial))).2.1 (Kd.R_F (Kd.R_mono (ok' := (fun _ => True)) (HO152.out) (fun k_ hk => trivial))))) (Reps.none _ _))))))))); intro v154 w50 ho51 hb hg_ hnew_; clear hg_ hnew_; (first | rw [← Ny153.out] at ho51 | (simp only [Int.reduceToNat] at ho51; rw [← Ny153.out] at ho51)); have n0_ := Aside0.mk (Kd.R_below (by (with_reducible repeat (first | apply Kd.R_alloc | apply Kd.R_drewN | apply Kd.R_drew)); exact HO_9.out) hb); have n1_ := Aside0.mk (Kd.R_below (by (with_reducible repeat (first | apply Kd.R_alloc | apply Kd.R_drewN | apply Kd.R_drew)); exact HO_10.out) hb); have n2_ := Aside0.mk (Kd.R_below (by (with_reducible repeat (first | apply Kd.R_alloc | apply Kd.R_drewN | apply Kd.R_drew)); exact HO_13.out) hb); have n3_ := Aside0.mk (Kd.R_below (by (with_reducible repeat (first | apply Kd.R_alloc | apply Kd.R_drewN | apply Kd.R_drew)); exact HO146.out) hb); have n4_ := Aside0.mk (Kd.R_below (by (with_reducible repeat (first | apply Kd.R_alloc | apply Kd.R_drewN | apply Kd.R_drew)); exact HO149.out) hb); have n5_ := Aside0.mk (Kd.R_below (by (with_reducible repeat (first | apply Kd.R_alloc | apply Kd.R_drewN | apply Kd.R_drew)); exact HO152.out) hb); have n6_ := Aside0.mk (Kd.N_lower ho51 (below_size (by repeat (first | (with_reducible first | exact HB.out | apply below_alloc | apply pw_below_drewN | apply below_drew1) | exact HB.out)))); have n7_ := Aside0.mk (below_step (by repeat (first | (with_reducible first | exact HB.out | apply below_alloc | apply pw_below_drewN | apply below_drew1) | exact HB.out)) hb); clear HO_9; clear HO_10; clear HO_13; clear HO146; clear HO149; clear HO152; clear HB; have HO_9 := n0_; have HO_10 := n1_; have HO_13 := n2_; have HO146 := n3_; have HO149 := n4_; have HO152 := n5_; have HO155 := n6_; have HB := n7_; clear n0_ n1_ n2_ n3_ n4_ n5_ n6_ n7_; clear hb ho51))
                    go_loopg [15] kj26 (fun kq v15 w' => ∃ (x15_4 : Int), v15 = .int .i64 x15_4 ∧ Aside0 (joinerylaw2_MarkSets.l2 kq x9_8 x10_17 y153 x15_4 = some r) ∧ Aside0 (kq ≤ kj26) ∧ Aside0 (Kd.R Kd.string 9 w' w.heap.size (fun k_ => some k_ ≠ ((.slice Ao46 x10_17.length co46) : Value).ownBlock) (.slice Ao31 x9_8.length co31) x9_8) ∧ Aside0 (Kd.R Kd.string 9 w' w.heap.size (fun k_ => some k_ ≠ ((.slice Ao31 x9_8.length co31) : Value).ownBlock) (.slice Ao46 x10_17.length co46) x10_17) ∧ Aside0 (Kd.N (Kd.slice 9 Kd.string) 26 w' w.heap.size (fun _ => True) v154 y153) ∧ Aside0 (Below w.heap.size w w'))
                    case atStart => exact ⟨(0), (by first | rfl | (simp; done) | (simp [*]; done)), H', ⟨Nat.le_refl _⟩, ⟨by (try simp only [hl13_26]); (with_reducible repeat (first | apply Kd.R_alloc | apply Kd.R_drewN | apply Kd.R_drew)); exact Kd.R_mono HO_9.out (fun _ hk => hk.1.1.1.1)⟩, ⟨by (try simp only [hl13_26]); (with_reducible repeat (first | apply Kd.R_alloc | apply Kd.R_drewN | apply Kd.R_drew)); exact Kd.R_mono HO_10.out (fun _ hk => hk.1.1.1.1)⟩, ⟨by (try simp only [hl13_26]); (with_reducible repeat (first | apply Kd.N_alloc | apply Kd.N_drewN | apply Kd.N_drew)); exact HO155.out⟩, ⟨by repeat (first | (with_reducible first | exact HB.out | apply below_alloc | apply pw_below_drewN | apply below_drew1) | exact HB.out)⟩⟩
                    case round =>
                      clear H'
                      try clear c1
                      try clear p1
                      try clear q1
                      try clear hx1
                      try clear c2
                      try clear p2
                      try clear c3
                      try clear p3
                      try clear q3
                      try clear hx3
                      try clear c6
                      try clear p6
                      try clear c7
                      try clear c7b0
                      try clear c7b1
                      try clear c10
                      try clear c11
                      try clear c11b0
                      try clear c12
                      try clear c12b0
                      try clear p12
                      try clear q12
                      try clear hx12
                      try clear c13
                      try clear c13b0
                      try clear p13
                      try clear q13
                      try clear hx13
                      try clear c15
                      try clear c19
                      try clear c19b0
                      try clear c20
                      try clear c20b0
                      try clear c21
                      try clear c21b0
                      try clear c23
                      try clear c26
                      try clear c33
                      try clear c33b0
                      try clear c33b1
                      try clear c35
                      try clear c35b0
                      try clear c36
                      try clear c36b0
                      try clear p37
                      try clear q37
                      try clear hx37
                      try clear hf37
                      try clear hx126_0
                      try clear hx131_0
                      try clear hx37_0
                      try clear p1
                      try clear p12
                      try clear p126
                      try clear p13
                      try clear p131
                      try clear p2
                      try clear p3
                      try clear p37
                      try clear p6
                      try clear q1
                      try clear q12
                      try clear q126
                      try clear q13
                      try clear q131
                      try clear q3
                      try clear q37
                      obtain ⟨x15_4, rfl, HA, HK4, HO_9, HO_10, HO_14, HB⟩ := hrel
                      cases gk with
                      | zero => exact absurd HA.out (by simp [joinerylaw2_MarkSets.l2])
                      | succ k4 =>
                        have H := HA.out
                        clear HA
                        simp only [joinerylaw2_MarkSets.l2] at H
                        by_cases c52 : x15_4 < (y153.length : Int)
                        · rw [if_pos c52] at H
                          have c52b0 : decide (x15_4 < (y153.length : Int)) = true := decide_eq_true c52
                          clear c52
                          by_cases c53 : 0 ≤ x15_4
                          · rw [if_pos c53] at H
                            have c53b0 : decide (0 ≤ x15_4) = true := decide_eq_true c53
                            clear c53
                            replace H := Option.bind_eq_some_iff.mp H
                            obtain ⟨t157, A540, H⟩ := H
                            replace H : ((joineryref2_Set.f k4 (rd_L1 y153 x15_4)).bind fun t159 => (if (t157 != t159) = true then (some false) else ((mark_All.f (rd_L1 y153 x15_4) x9_8).bind fun t161 => ((joineryref2_All.f k4 (rd_L1 y153 x15_4) x9_8).bind fun t163 => (if (t161 != t163) = true then (some false) else ((mark_All.f x10_17 (rd_L1 y153 x15_4)).bind fun t165 => ((joineryref2_All.f k4 x10_17 (rd_L1 y153 x15_4)).bind fun t167 => (if (t165 != t167) = true then (some false) else (joinerylaw2_MarkSets.l2 k4 x9_8 x10_17 y153 (wrap64 (x15_4 + 1))))))))))) = some r := H
                            have A54 := Aside0.mk A540
                            clear A540
                            replace H := Option.bind_eq_some_iff.mp H
                            obtain ⟨t159, A550, H⟩ := H
                            replace H : (if (t157 != t159) = true then (some false) else ((mark_All.f (rd_L1 y153 x15_4) x9_8).bind fun t161 => ((joineryref2_All.f k4 (rd_L1 y153 x15_4) x9_8).bind fun t163 => (if (t161 != t163) = true then (some false) else ((mark_All.f x10_17 (rd_L1 y153 x15_4)).bind fun t165 => ((joineryref2_All.f k4 x10_17 (rd_L1 y153 x15_4)).bind fun t167 => (if (t165 != t167) = true then (some false) else (joinerylaw2_MarkSets.l2 k4 x9_8 x10_17 y153 (wrap64 (x15_4 + 1)))))))))) = some r := H
                            have A55 := Aside0.mk A550
                            clear A550
                            by_cases c56 : (t157 != t159) = true
                            · rw [if_pos c56] at H
                              have c56b0 : (t157 != t159) = true := c56
                              (try (have c56b1 : decide (t157 = t159) = false := by simpa using c56))
                              (try (have c56b2 : (t157 == t159) = false := by simpa using c56))
                              (try (have c56b3 : ¬ (t157 = t159) := by simpa using c56))
                              clear c56
                              obtain rfl := Option.some.inj H
                              exact absurd hT_.out (by simp)
                            · rw [if_neg c56] at H
                              have c56b0 : (t157 != t159) = false := by simpa using c56
                              (try (have c56b1 : decide (t157 = t159) = true := by simpa using c56))
                              (try (have c56b2 : (t157 == t159) = true := by simpa using c56))
                              clear c56
                              replace H := Option.bind_eq_some_iff.mp H
                              obtain ⟨t161, A570, H⟩ := H
                              replace H : ((joineryref2_All.f k4 (rd_L1 y153 x15_4) x9_8).bind fun t163 => (if (t161 != t163) = true then (some false) else ((mark_All.f x10_17 (rd_L1 y153 x15_4)).bind fun t165 => ((joineryref2_All.f k4 x10_17 (rd_L1 y153 x15_4)).bind fun t167 => (if (t165 != t167) = true then (some false) else (joinerylaw2_MarkSets.l2 k4 x9_8 x10_17 y153 (wrap64 (x15_4 + 1)))))))) = some r := H
                              have A57 := Aside0.mk A570
                              clear A570
                              replace H := Option.bind_eq_some_iff.mp H
                              obtain ⟨t163, A580, H⟩ := H
                              replace H : (if (t161 != t163) = true then (some false) else ((mark_All.f x10_17 (rd_L1 y153 x15_4)).bind fun t165 => ((joineryref2_All.f k4 x10_17 (rd_L1 y153 x15_4)).bind fun t167 => (if (t165 != t167) = true then (some false) else (joinerylaw2_MarkSets.l2 k4 x9_8 x10_17 y153 (wrap64 (x15_4 + 1))))))) = some r := H
                              have A58 := Aside0.mk A580
                              clear A580
                              by_cases c59 : (t161 != t163) = true
                              · rw [if_pos c59] at H
                                have c59b0 : (t161 != t163) = true := c59
                                (try (have c59b1 : decide (t161 = t163) = false := by simpa using c59))
                                (try (have c59b2 : (t161 == t163) = false := by simpa using c59))
                                (try (have c59b3 : ¬ (t161 = t163) := by simpa using c59))
                                clear c59
                                obtain rfl := Option.some.inj H
                                exact absurd hT_.out (by simp)
                              · rw [if_neg c59] at H
                                have c59b0 : (t161 != t163) = false := by simpa using c59
                                (try (have c59b1 : decide (t161 = t163) = true := by simpa using c59))
                                (try (have c59b2 : (t161 == t163) = true := by simpa using c59))
                                clear c59
                                replace H := Option.bind_eq_some_iff.mp H
                                obtain ⟨t165, A600, H⟩ := H
                                replace H : ((joineryref2_All.f k4 x10_17 (rd_L1 y153 x15_4)).bind fun t167 => (if (t165 != t167) = true then (some false) else (joinerylaw2_MarkSets.l2 k4 x9_8 x10_17 y153 (wrap64 (x15_4 + 1))))) = some r := H
                                have A60 := Aside0.mk A600
                                clear A600
                                replace H := Option.bind_eq_some_iff.mp H
                                obtain ⟨t167, A610, H⟩ := H
                                replace H : (if (t165 != t167) = true then (some false) else (joinerylaw2_MarkSets.l2 k4 x9_8 x10_17 y153 (wrap64 (x15_4 + 1)))) = some r := H
                                have A61 := Aside0.mk A610
                                clear A610
                                by_cases c62 : (t165 != t167) = true
                                · rw [if_pos c62] at H
                                  have c62b0 : (t165 != t167) = true := c62
                                  (try (have c62b1 : decide (t165 = t167) = false := by simpa using c62))
                                  (try (have c62b2 : (t165 == t167) = false := by simpa using c62))
                                  (try (have c62b3 : ¬ (t165 = t167) := by simpa using c62))
                                  clear c62
                                  obtain rfl := Option.some.inj H
                                  exact absurd hT_.out (by simp)
                                · rw [if_neg c62] at H
                                  have c62b0 : (t165 != t167) = false := by simpa using c62
                                  (try (have c62b1 : decide (t165 = t167) = true := by simpa using c62))
                                  (try (have c62b2 : (t165 == t167) = true := by simpa using c62))
                                  clear c62
                                  have H' := Aside0.mk H
                                  clear H
                                  obtain ⟨Ao63, co63, eo63⟩ := Kd.N_slice HO_14.out
                                  subst eo63
                                  try go_wp2
                                  have n0_ := Aside0.mk (Kd.R_drew HO_9.out)
                                  have n1_ := Aside0.mk (Kd.R_drew HO_10.out)
                                  have n2_ := Aside0.mk (Kd.N_drew HO_14.out)
                                  have n3_ := Aside0.mk (below_drew1 HB.out)
                                  clear HO_9
                                  clear HO_10
                                  clear HO_14
                                  clear HB
                                  have HO_9 := n0_
                                  have HO_10 := n1_
                                  have HO_14 := n2_
                                  have HB := n3_
                                  clear n0_ n1_ n2_ n3_
                                  have p156 : 0 ≤ (x15_4 : Int) := of_decide_eq_true (by first | (with_reducible assumption) | assumption)
                                  have q156 : x15_4 < (y153.length : Int) := of_decide_eq_true (by first | (with_reducible assumption) | assumption)
                                  obtain ⟨ad156, A156_0, c156_0, e156, hx156_0, hl156_0, hi156_0⟩ := at_L1 (Kd.N_reads' HO_14.out).2.2 x15_4 p156 q156
                                  cases e156
                                  obtain ⟨ce156, hce156, hMe156, hcc156⟩ := Kd.N_get HO_14.out [] x15_4 p156 (by first | exact q156 | exact of_decide_eq_true (by first | (with_reducible assumption) | assumption) | (have e_ := (Kd.N_reads' HO_14.out).1; omega))
                                  obtain ⟨ua156_0, uc156_0, rfl, ul156_0, ge156_0⟩ := Kd.FK_slice_open hMe156
                                  have hv156_0 := hcc156 0 _ rfl
                                  rw [Nat.add_zero, show ((Kd.slice 9 Kd.string)).sz = 1 from rfl, Nat.mul_one] at hv156_0
                                  replace hv156_0 := Option.some.inj (hv156_0.symm.trans hx156_0)
                                  injection hv156_0 with hva_ hvn_ hvc_
                                  rw [hva_] at ge156_0
                                  rw [hvc_] at ul156_0
                                  have HL156_0 := Aside0.mk (show Kd.V Kd.string 9 _ w.heap.size _ _ (rd_L1 y153 x15_4) from Kd.V_mk ul156_0 ge156_0)
                                  clear hva_ hvn_ hvc_ ge156_0 ul156_0
                                  clear hcc156 hce156
                                  have HR156_0 := Aside0.mk hi156_0
                                  have HC156_0 := Aside0.mk hl156_0
                                  clear hi156_0 hl156_0
                                  replace p156 := eq_true p156
                                  replace q156 := eq_true q156
                                  have p158 : 0 ≤ (x15_4 : Int) := of_decide_eq_true (by first | (with_reducible assumption) | assumption)
                                  have q158 : x15_4 < (y153.length : Int) := of_decide_eq_true (by first | (with_reducible assumption) | assumption)
                                  obtain ⟨ad158, A158_0, c158_0, e158, hx158_0, hl158_0, hi158_0⟩ := at_L1 (Kd.N_reads' HO_14.out).2.2 x15_4 p158 q158
                                  obtain rfl : ad156 = ad158 := (by injection e158)
                                  obtain ⟨ce158, hce158, hMe158, hcc158⟩ := Kd.N_get HO_14.out [] x15_4 p158 (by first | exact q158 | exact of_decide_eq_true (by first | (with_reducible assumption) | assumption) | (have e_ := (Kd.N_reads' HO_14.out).1; omega))
                                  obtain ⟨ua158_0, uc158_0, rfl, ul158_0, ge158_0⟩ := Kd.FK_slice_open hMe158
                                  have hv158_0 := hcc158 0 _ rfl
                                  rw [Nat.add_zero, show ((Kd.slice 9 Kd.string)).sz = 1 from rfl, Nat.mul_one] at hv158_0
                                  replace hv158_0 := Option.some.inj (hv158_0.symm.trans hx158_0)
                                  injection hv158_0 with hva_ hvn_ hvc_
                                  rw [hva_] at ge158_0
                                  rw [hvc_] at ul158_0
                                  have HL158_0 := Aside0.mk (show Kd.V Kd.string 9 _ w.heap.size _ _ (rd_L1 y153 x15_4) from Kd.V_mk ul158_0 ge158_0)
                                  clear hva_ hvn_ hvc_ ge158_0 ul158_0
                                  clear hcc158 hce158
                                  have HR158_0 := Aside0.mk hi158_0
                                  have HC158_0 := Aside0.mk hl158_0
                                  clear hi158_0 hl158_0
                                  replace p158 := eq_true p158
                                  replace q158 := eq_true q158
                                  have ea_ := Option.some.inj (hx156_0.symm.trans hx158_0)
                                  injection ea_ with ea_ en_ ec_
                                  subst ea_
                                  subst ec_
                                  clear en_
                                  have p160 : 0 ≤ (x15_4 : Int) := of_decide_eq_true (by first | (with_reducible assumption) | assumption)
                                  have q160 : x15_4 < (y153.length : Int) := of_decide_eq_true (by first | (with_reducible assumption) | assumption)
                                  obtain ⟨ad160, A160_0, c160_0, e160, hx160_0, hl160_0, hi160_0⟩ := at_L1 (Kd.N_reads' HO_14.out).2.2 x15_4 p160 q160
                                  obtain rfl : ad156 = ad160 := (by injection e160)
                                  obtain ⟨ce160, hce160, hMe160, hcc160⟩ := Kd.N_get HO_14.out [] x15_4 p160 (by first | exact q160 | exact of_decide_eq_true (by first | (with_reducible assumption) | assumption) | (have e_ := (Kd.N_reads' HO_14.out).1; omega))
                                  obtain ⟨ua160_0, uc160_0, rfl, ul160_0, ge160_0⟩ := Kd.FK_slice_open hMe160
                                  have hv160_0 := hcc160 0 _ rfl
                                  rw [Nat.add_zero, show ((Kd.slice 9 Kd.string)).sz = 1 from rfl, Nat.mul_one] at hv160_0
                                  replace hv160_0 := Option.some.inj (hv160_0.symm.trans hx160_0)
                                  injection hv160_0 with hva_ hvn_ hvc_
                                  rw [hva_] at ge160_0
                                  rw [hvc_] at ul160_0
                                  have HL160_0 := Aside0.mk (show Kd.V Kd.string 9 _ w.heap.size _ _ (rd_L1 y153 x15_4) from Kd.V_mk ul160_0 ge160_0)
                                  clear hva_ hvn_ hvc_ ge160_0 ul160_0
                                  clear hcc160 hce160
                                  have HR160_0 := Aside0.mk hi160_0
                                  have HC160_0 := Aside0.mk hl160_0
                                  clear hi160_0 hl160_0
                                  replace p160 := eq_true p160
                                  replace q160 := eq_true q160
                                  have ea_ := Option.some.inj (hx156_0.symm.trans hx160_0)
                                  injection ea_ with ea_ en_ ec_
                                  subst ea_
                                  subst ec_
                                  clear en_
                                  have p162 : 0 ≤ (x15_4 : Int) := of_decide_eq_true (by first | (with_reducible assumption) | assumption)
                                  have q162 : x15_4 < (y153.length : Int) := of_decide_eq_true (by first | (with_reducible assumption) | assumption)
                                  obtain ⟨ad162, A162_0, c162_0, e162, hx162_0, hl162_0, hi162_0⟩ := at_L1 (Kd.N_reads' HO_14.out).2.2 x15_4 p162 q162
                                  obtain rfl : ad156 = ad162 := (by injection e162)
                                  obtain ⟨ce162, hce162, hMe162, hcc162⟩ := Kd.N_get HO_14.out [] x15_4 p162 (by first | exact q162 | exact of_decide_eq_true (by first | (with_reducible assumption) | assumption) | (have e_ := (Kd.N_reads' HO_14.out).1; omega))
                                  obtain ⟨ua162_0, uc162_0, rfl, ul162_0, ge162_0⟩ := Kd.FK_slice_open hMe162
                                  have hv162_0 := hcc162 0 _ rfl
                                  rw [Nat.add_zero, show ((Kd.slice 9 Kd.string)).sz = 1 from rfl, Nat.mul_one] at hv162_0
                                  replace hv162_0 := Option.some.inj (hv162_0.symm.trans hx162_0)
                                  injection hv162_0 with hva_ hvn_ hvc_
                                  rw [hva_] at ge162_0
                                  rw [hvc_] at ul162_0
                                  have HL162_0 := Aside0.mk (show Kd.V Kd.string 9 _ w.heap.size _ _ (rd_L1 y153 x15_4) from Kd.V_mk ul162_0 ge162_0)
                                  clear hva_ hvn_ hvc_ ge162_0 ul162_0
                                  clear hcc162 hce162
                                  have HR162_0 := Aside0.mk hi162_0
                                  have HC162_0 := Aside0.mk hl162_0
                                  clear hi162_0 hl162_0
                                  replace p162 := eq_true p162
                                  replace q162 := eq_true q162
                                  have ea_ := Option.some.inj (hx156_0.symm.trans hx162_0)
                                  injection ea_ with ea_ en_ ec_
                                  subst ea_
                                  subst ec_
                                  clear en_
                                  have p164 : 0 ≤ (x15_4 : Int) := of_decide_eq_true (by first | (with_reducible assumption) | assumption)
                                  have q164 : x15_4 < (y153.length : Int) := of_decide_eq_true (by first | (with_reducible assumption) | assumption)
                                  obtain ⟨ad164, A164_0, c164_0, e164, hx164_0, hl164_0, hi164_0⟩ := at_L1 (Kd.N_reads' HO_14.out).2.2 x15_4 p164 q164
                                  obtain rfl : ad156 = ad164 := (by injection e164)
                                  obtain ⟨ce164, hce164, hMe164, hcc164⟩ := Kd.N_get HO_14.out [] x15_4 p164 (by first | exact q164 | exact of_decide_eq_true (by first | (with_reducible assumption) | assumption) | (have e_ := (Kd.N_reads' HO_14.out).1; omega))
                                  obtain ⟨ua164_0, uc164_0, rfl, ul164_0, ge164_0⟩ := Kd.FK_slice_open hMe164
                                  have hv164_0 := hcc164 0 _ rfl
                                  rw [Nat.add_zero, show ((Kd.slice 9 Kd.string)).sz = 1 from rfl, Nat.mul_one] at hv164_0
                                  replace hv164_0 := Option.some.inj (hv164_0.symm.trans hx164_0)
                                  injection hv164_0 with hva_ hvn_ hvc_
                                  rw [hva_] at ge164_0
                                  rw [hvc_] at ul164_0
                                  have HL164_0 := Aside0.mk (show Kd.V Kd.string 9 _ w.heap.size _ _ (rd_L1 y153 x15_4) from Kd.V_mk ul164_0 ge164_0)
                                  clear hva_ hvn_ hvc_ ge164_0 ul164_0
                                  clear hcc164 hce164
                                  have HR164_0 := Aside0.mk hi164_0
                                  have HC164_0 := Aside0.mk hl164_0
                                  clear hi164_0 hl164_0
                                  replace p164 := eq_true p164
                                  replace q164 := eq_true q164
                                  have ea_ := Option.some.inj (hx156_0.symm.trans hx164_0)
                                  injection ea_ with ea_ en_ ec_
                                  subst ea_
                                  subst ec_
                                  clear en_
                                  have p166 : 0 ≤ (x15_4 : Int) := of_decide_eq_true (by first | (with_reducible assumption) | assumption)
                                  have q166 : x15_4 < (y153.length : Int) := of_decide_eq_true (by first | (with_reducible assumption) | assumption)
                                  obtain ⟨ad166, A166_0, c166_0, e166, hx166_0, hl166_0, hi166_0⟩ := at_L1 (Kd.N_reads' HO_14.out).2.2 x15_4 p166 q166
                                  obtain rfl : ad156 = ad166 := (by injection e166)
                                  obtain ⟨ce166, hce166, hMe166, hcc166⟩ := Kd.N_get HO_14.out [] x15_4 p166 (by first | exact q166 | exact of_decide_eq_true (by first | (with_reducible assumption) | assumption) | (have e_ := (Kd.N_reads' HO_14.out).1; omega))
                                  obtain ⟨ua166_0, uc166_0, rfl, ul166_0, ge166_0⟩ := Kd.FK_slice_open hMe166
                                  have hv166_0 := hcc166 0 _ rfl
                                  rw [Nat.add_zero, show ((Kd.slice 9 Kd.string)).sz = 1 from rfl, Nat.mul_one] at hv166_0
                                  replace hv166_0 := Option.some.inj (hv166_0.symm.trans hx166_0)
                                  injection hv166_0 with hva_ hvn_ hvc_
                                  rw [hva_] at ge166_0
                                  rw [hvc_] at ul166_0
                                  have HL166_0 := Aside0.mk (show Kd.V Kd.string 9 _ w.heap.size _ _ (rd_L1 y153 x15_4) from Kd.V_mk ul166_0 ge166_0)
                                  clear hva_ hvn_ hvc_ ge166_0 ul166_0
                                  clear hcc166 hce166
                                  have HR166_0 := Aside0.mk hi166_0
                                  have HC166_0 := Aside0.mk hl166_0
                                  clear hi166_0 hl166_0
                                  replace p166 := eq_true p166
                                  replace q166 := eq_true q166
                                  have ea_ := Option.some.inj (hx156_0.symm.trans hx166_0)
                                  injection ea_ with ea_ en_ ec_
                                  subst ea_
                                  subst ec_
                                  clear en_
                                  refine start_ (n := 41) (S := fun w' => w'.cell? (ad156.add (x15_4).toNat) = some (.slice A156_0 (rd_L1 y153 x15_4).length c156_0) ∧ w'.cell? (ad156.add (x15_4).toNat) = some (.slice A156_0 (rd_L1 y153 x15_4).length c156_0) ∧ w'.cell? (ad156.add (x15_4).toNat) = some (.slice A156_0 (rd_L1 y153 x15_4).length c156_0) ∧ w'.cell? (ad156.add (x15_4).toNat) = some (.slice A156_0 (rd_L1 y153 x15_4).length c156_0) ∧ w'.cell? (ad156.add (x15_4).toNat) = some (.slice A156_0 (rd_L1 y153 x15_4).length c156_0) ∧ w'.cell? (ad156.add (x15_4).toNat) = some (.slice A156_0 (rd_L1 y153 x15_4).length c156_0)) (ds := []) #[false, false, false, false, false, false, false, false, false, false, false, false, false, false, false, false, false, false, false, false, false, false, false, false, false, false, false, false, false, false, false, false, false, false, false, false, false, false, false, false, false] (by kernel_rfl) rfl rfl ⟨hx156_0, hx158_0, hx160_0, hx162_0, hx164_0, hx166_0⟩ (fun hHeld => ?_); refine with_tabW joinerylaw2_MarkSets.tab21 joinerylaw2_MarkSets.bits21 (fun HT_ HW_ => ?_)
                                  generalize wr.drew = w64 at HO_9 HO_10 HO_14 HB HL156_0 HL158_0 HL160_0 HL162_0 HL164_0 HL166_0 HR156_0 HR158_0 HR160_0 HR162_0 HR164_0 HR166_0 hx156_0 hx158_0 hx160_0 hx162_0 hx164_0 hx166_0 hHeld ⊢
                                  refine pure_ (i := 0) (N := some 84) (v := ?_) (a' := ?_) #[true, false, false, false, false, false, false, false, false, false, false, false, false, false, false, false, false, false, false, false, false, false, false, false, false, false, false, false, false, false, false, false, false, false, false, false, false, false, false, false, false] rfl rfl (any_of HT_.out (by kernel_rfl)) (fun _ _ _ h => h) (Or.inl ⟨by rfl, ?_⟩) ?_ ?_
                                  rotate_left
                                  · intro w'
                                    go_simp
                                    with_reducible rfl
                                  rotate_left
                                  · simp only [Act.put, List.setIfInBounds_toArray, List.set_cons_zero, List.set_cons_succ, i64_w, i32_w]
                                    rfl
                                  refine pure_ (i := 1) (N := some 85) (v := ?_) (a' := ?_) #[true, true, false, false, false, false, false, false, false, false, false, false, false, false, false, false, false, false, false, false, false, false, false, false, false, false, false, false, false, false, false, false, false, false, false, false, false, false, false, false, false] rfl rfl (any_of HT_.out (by kernel_rfl)) (fun _ _ _ h => h) (Or.inl ⟨by rfl, ?_⟩) ?_ ?_
                                  rotate_left
                                  · intro w'
                                    go_simp
                                    with_reducible rfl
                                  rotate_left
                                  · simp only [Act.put, List.setIfInBounds_toArray, List.set_cons_zero, List.set_cons_succ, i64_w, i32_w]
                                    rfl
                                  refine pure_ (i := 2) (N := some 86) (v := ?_) (a' := ?_) #[true, true, true, false, false, false, false, false, false, false, false, false, false, false, false, false, false, false, false, false, false, false, false, false, false, false, false, false, false, false, false, false, false, false, false, false, false, false, false, false, false] rfl rfl (any_of HT_.out (by kernel_rfl)) (fun _ _ _ h => h) (Or.inl ⟨by rfl, ?_⟩) ?_ ?_
                                  rotate_left
                                  · intro w'
                                    go_simp
                                    with_reducible rfl
                                  rotate_left
                                  · simp only [Act.put, List.setIfInBounds_toArray, List.set_cons_zero, List.set_cons_succ, i64_w, i32_w]
                                    rfl
                                  refine pure_ (i := 5) (N := some 89) (v := ?_) (a' := ?_) #[true, true, true, false, false, true, false, false, false, false, false, false, false, false, false, false, false, false, false, false, false, false, false, false, false, false, false, false, false, false, false, false, false, false, false, false, false, false, false, false, false] rfl rfl (any_of HT_.out (by kernel_rfl)) (fun _ _ _ h => h) (Or.inl ⟨by rfl, ?_⟩) ?_ ?_
                                  rotate_left
                                  · intro w'
                                    go_simp
                                    with_reducible rfl
                                  rotate_left
                                  · simp only [Act.put, List.setIfInBounds_toArray, List.set_cons_zero, List.set_cons_succ, i64_w, i32_w]
                                    rfl
                                  refine pure_ (i := 6) (N := some 90) (v := ?_) (a' := ?_) #[true, true, true, false, false, true, true, false, false, false, false, false, false, false, false, false, false, false, false, false, false, false, false, false, false, false, false, false, false, false, false, false, false, false, false, false, false, false, false, false, false] rfl rfl (any_of HT_.out (by kernel_rfl)) (fun _ _ _ h => h) (Or.inl ⟨by rfl, ?_⟩) ?_ ?_
                                  rotate_left
                                  · intro w'
                                    go_simp
                                    with_reducible rfl
                                  rotate_left
                                  · simp only [Act.put, List.setIfInBounds_toArray, List.set_cons_zero, List.set_cons_succ, i64_w, i32_w]
                                    rfl
                                  refine pure_ (i := 7) (N := some 91) (v := ?_) (a' := ?_) #[true, true, true, false, false, true, true, true, false, false, false, false, false, false, false, false, false, false, false, false, false, false, false, false, false, false, false, false, false, false, false, false, false, false, false, false, false, false, false, false, false] rfl rfl (any_of HT_.out (by kernel_rfl)) (fun _ _ _ h => h) (Or.inl ⟨by rfl, ?_⟩) ?_ ?_
                                  rotate_left
                                  · intro w'
                                    go_simp
                                    with_reducible rfl
                                  rotate_left
                                  · simp only [Act.put, List.setIfInBounds_toArray, List.set_cons_zero, List.set_cons_succ, i64_w, i32_w]
                                    rfl
                                  refine take_ (i := 3) (N := some 87) (v := ?_) (a' := ?_) #[true, true, true, true, false, true, true, true, false, false, false, false, false, false, false, false, false, false, false, false, false, false, false, false, false, false, false, false, false, false, false, false, false, false, false, false, false, false, false, false, false] rfl rfl (take_ofW HT_.out HW_.out (by kernel_rfl)) (fun _ _ _ h => h) (Or.inl ⟨by rfl, ?_⟩) hHeld ?_ ?_
                                  rotate_left
                                  · rintro w' ⟨s0, s1, s2, s3, s4, s5⟩
                                    go_simp
                                    with_reducible rfl
                                  rotate_left
                                  · simp only [Act.put, List.setIfInBounds_toArray, List.set_cons_zero, List.set_cons_succ, i64_w, i32_w]
                                    rfl
                                  refine take_ (i := 8) (N := some 92) (v := ?_) (a' := ?_) #[true, true, true, true, false, true, true, true, true, false, false, false, false, false, false, false, false, false, false, false, false, false, false, false, false, false, false, false, false, false, false, false, false, false, false, false, false, false, false, false, false] rfl rfl (take_ofW HT_.out HW_.out (by kernel_rfl)) (fun _ _ _ h => h) (Or.inl ⟨by rfl, ?_⟩) hHeld ?_ ?_
                                  rotate_left
                                  · rintro w' ⟨s0, s1, s2, s3, s4, s5⟩
                                    go_simp
                                    with_reducible rfl
                                  rotate_left
                                  · simp only [Act.put, List.setIfInBounds_toArray, List.set_cons_zero, List.set_cons_succ, i64_w, i32_w]
                                    rfl
                                  refine one_ (i := 4) (N := some 88) #[true, true, true, true, true, true, true, true, true, false, false, false, false, false, false, false, false, false, false, false, false, false, false, false, false, false, false, false, false, false, false, false, false, false, false, false, false, false, false, false, false] rfl rfl (one_of HT_.out (by kernel_rfl)) (by decide) (fun K hK => ?_)
                                  refine goes_ Try.func23 (by kernel_rfl) rfl #[.slice A156_0 (rd_L1 y153 x15_4).length c156_0] (by rfl) rfl rfl (by (try simp only [List.map_toArray, List.map_cons, List.map_nil]); first | done | rfl | (simp only [List.length_drop, List.length_take]; rfl)) ?_
                                  with_reducible refine (mark_Set.calls _ _ (rd_L1 y153 x15_4) t157 _ ?side1 ?side2 A54.out).mono ?_
                                  (case side1 => repeat (first | exact (by first | (with_reducible exact HR156_0.out) | (with_reducible exact Kd.C_drewN HR156_0.out _) | (with_reducible exact Kd.C_drew HR156_0.out) | (with_reducible exact Kd.C_alloc HR156_0.out _) | exact HR156_0.out) | (with_reducible refine Kd.C_alloc ?_ _) | (with_reducible refine Kd.C_drewN ?_ _) | (with_reducible refine Kd.C_drew ?_)))
                                  (case side2 => exact HC156_0.out)
                                  rintro e w65 ⟨rfl, hb⟩
                                  have HS0_ := (hb.cell (World.block_lt_of_cell? _ _ (hHeld.1))).trans (hHeld.1)
                                  have HS1_ := (hb.cell (World.block_lt_of_cell? _ _ (hHeld.2.1))).trans (hHeld.2.1)
                                  have HS2_ := (hb.cell (World.block_lt_of_cell? _ _ (hHeld.2.2.1))).trans (hHeld.2.2.1)
                                  have HS3_ := (hb.cell (World.block_lt_of_cell? _ _ (hHeld.2.2.2.1))).trans (hHeld.2.2.2.1)
                                  have HS4_ := (hb.cell (World.block_lt_of_cell? _ _ (hHeld.2.2.2.2.1))).trans (hHeld.2.2.2.2.1)
                                  have HS5_ := (hb.cell (World.block_lt_of_cell? _ _ (hHeld.2.2.2.2.2))).trans (hHeld.2.2.2.2.2)
                                  refine ⟨_, rfl, ?_⟩
                                  have n0_ := Aside0.mk (Kd.R_below (by (with_reducible repeat (first | apply Kd.R_alloc | apply Kd.R_drewN | apply Kd.R_drew)); exact HO_9.out) hb)
                                  have n1_ := Aside0.mk (Kd.R_below (by (with_reducible repeat (first | apply Kd.R_alloc | apply Kd.R_drewN | apply Kd.R_drew)); exact HO_10.out) hb)
                                  have n2_ := Aside0.mk (Kd.N_below (by (with_reducible repeat (first | apply Kd.N_alloc | apply Kd.N_drewN | apply Kd.N_drew)); exact HO_14.out) hb)
                                  have n3_ := Aside0.mk (Kd.V_below (by (with_reducible repeat (first | apply Kd.V_alloc | apply Kd.V_drewN | apply Kd.V_drew)); exact HL156_0.out) hb)
                                  have n4_ := Aside0.mk (Kd.V_below (by (with_reducible repeat (first | apply Kd.V_alloc | apply Kd.V_drewN | apply Kd.V_drew)); exact HL158_0.out) hb)
                                  have n5_ := Aside0.mk (Kd.V_below (by (with_reducible repeat (first | apply Kd.V_alloc | apply Kd.V_drewN | apply Kd.V_drew)); exact HL160_0.out) hb)
                                  have n6_ := Aside0.mk (Kd.V_below (by (with_reducible repeat (first | apply Kd.V_alloc | apply Kd.V_drewN | apply Kd.V_drew)); exact HL162_0.out) hb)
                                  have n7_ := Aside0.mk (Kd.V_below (by (with_reducible repeat (first | apply Kd.V_alloc | apply Kd.V_drewN | apply Kd.V_drew)); exact HL164_0.out) hb)
                                  have n8_ := Aside0.mk (Kd.V_below (by (with_reducible repeat (first | apply Kd.V_alloc | apply Kd.V_drewN | apply Kd.V_drew)); exact HL166_0.out) hb)
                                  have n9_ := Aside0.mk (Kd.C_below (by first | (with_reducible exact HR156_0.out) | (with_reducible exact Kd.C_drewN HR156_0.out _) | (with_reducible exact Kd.C_drew HR156_0.out) | (with_reducible exact Kd.C_alloc HR156_0.out _) | exact HR156_0.out) hb)
                                  have n10_ := Aside0.mk (Kd.C_below (by first | (with_reducible exact HR158_0.out) | (with_reducible exact Kd.C_drewN HR158_0.out _) | (with_reducible exact Kd.C_drew HR158_0.out) | (with_reducible exact Kd.C_alloc HR158_0.out _) | exact HR158_0.out) hb)
                                  have n11_ := Aside0.mk (Kd.C_below (by first | (with_reducible exact HR160_0.out) | (with_reducible exact Kd.C_drewN HR160_0.out _) | (with_reducible exact Kd.C_drew HR160_0.out) | (with_reducible exact Kd.C_alloc HR160_0.out _) | exact HR160_0.out) hb)
                                  have n12_ := Aside0.mk (Kd.C_below (by first | (with_reducible exact HR162_0.out) | (with_reducible exact Kd.C_drewN HR162_0.out _) | (with_reducible exact Kd.C_drew HR162_0.out) | (with_reducible exact Kd.C_alloc HR162_0.out _) | exact HR162_0.out) hb)
                                  have n13_ := Aside0.mk (Kd.C_below (by first | (with_reducible exact HR164_0.out) | (with_reducible exact Kd.C_drewN HR164_0.out _) | (with_reducible exact Kd.C_drew HR164_0.out) | (with_reducible exact Kd.C_alloc HR164_0.out _) | exact HR164_0.out) hb)
                                  have n14_ := Aside0.mk (Kd.C_below (by first | (with_reducible exact HR166_0.out) | (with_reducible exact Kd.C_drewN HR166_0.out _) | (with_reducible exact Kd.C_drew HR166_0.out) | (with_reducible exact Kd.C_alloc HR166_0.out _) | exact HR166_0.out) hb)
                                  have n15_ := Aside0.mk (below_step (by repeat (first | (with_reducible first | exact HB.out | apply below_alloc | apply pw_below_drewN | apply below_drew1) | exact HB.out)) hb)
                                  clear HO_9
                                  clear HO_10
                                  clear HO_14
                                  clear HL156_0
                                  clear HL158_0
                                  clear HL160_0
                                  clear HL162_0
                                  clear HL164_0
                                  clear HL166_0
                                  clear HR156_0
                                  clear HR158_0
                                  clear HR160_0
                                  clear HR162_0
                                  clear HR164_0
                                  clear HR166_0
                                  clear HB
                                  have HO_9 := n0_
                                  have HO_10 := n1_
                                  have HO_14 := n2_
                                  have HL156_0 := n3_
                                  have HL158_0 := n4_
                                  have HL160_0 := n5_
                                  have HL162_0 := n6_
                                  have HL164_0 := n7_
                                  have HL166_0 := n8_
                                  have HR156_0 := n9_
                                  have HR158_0 := n10_
                                  have HR160_0 := n11_
                                  have HR162_0 := n12_
                                  have HR164_0 := n13_
                                  have HR166_0 := n14_
                                  have HB := n15_
                                  clear n0_ n1_ n2_ n3_ n4_ n5_ n6_ n7_ n8_ n9_ n10_ n11_ n12_ n13_ n14_ n15_
                                  (try clear hb)
                                  (try clear hb2)
                                  (try clear hk)
                                  (try clear hi)
                                  refine hK.out _ _ ⟨HS0_, HS1_, HS2_, HS3_, HS4_, HS5_⟩ (fun hHeld => ?_)
                                  clear hK K
                                  refine norm_ (a' := ?_) ?_ ?_
                                  rotate_left
                                  · show Act.put _ (some 88) _ = _
                                    simp only [Act.put, List.setIfInBounds_toArray, List.set_cons_zero, List.set_cons_succ, i64_w, i32_w]
                                    rfl
                                  refine one_ (i := 9) (N := some 93) #[true, true, true, true, true, true, true, true, true, true, false, false, false, false, false, false, false, false, false, false, false, false, false, false, false, false, false, false, false, false, false, false, false, false, false, false, false, false, false, false, false] rfl rfl (one_of HT_.out (by kernel_rfl)) (by decide) (fun K hK => ?_)
                                  refine goes_ Try.func24 (by kernel_rfl) rfl #[.slice A156_0 (rd_L1 y153 x15_4).length c156_0] (by rfl) rfl rfl (by (try simp only [List.map_toArray, List.map_cons, List.map_nil]); first | done | rfl | (simp only [List.length_drop, List.length_take]; rfl)) ?_
                                  with_reducible refine (joineryref2_Set.calls k4 _ _ (rd_L1 y153 x15_4) t159 _ ?side1 ?side2 A55.out).mono ?_
                                  (case side1 => repeat (first | exact (by first | (with_reducible exact HR158_0.out) | (with_reducible exact Kd.C_drewN HR158_0.out _) | (with_reducible exact Kd.C_drew HR158_0.out) | (with_reducible exact Kd.C_alloc HR158_0.out _) | exact HR158_0.out) | (with_reducible refine Kd.C_alloc ?_ _) | (with_reducible refine Kd.C_drewN ?_ _) | (with_reducible refine Kd.C_drew ?_)))
                                  (case side2 => exact HC158_0.out)
                                  rintro e w66 ⟨rfl, hb⟩
                                  have HS0_ := (hb.cell (World.block_lt_of_cell? _ _ (hHeld.1))).trans (hHeld.1)
                                  have HS1_ := (hb.cell (World.block_lt_of_cell? _ _ (hHeld.2.1))).trans (hHeld.2.1)
                                  have HS2_ := (hb.cell (World.block_lt_of_cell? _ _ (hHeld.2.2.1))).trans (hHeld.2.2.1)
                                  have HS3_ := (hb.cell (World.block_lt_of_cell? _ _ (hHeld.2.2.2.1))).trans (hHeld.2.2.2.1)
                                  have HS4_ := (hb.cell (World.block_lt_of_cell? _ _ (hHeld.2.2.2.2.1))).trans (hHeld.2.2.2.2.1)
                                  have HS5_ := (hb.cell (World.block_lt_of_cell? _ _ (hHeld.2.2.2.2.2))).trans (hHeld.2.2.2.2.2)
                                  refine ⟨_, rfl, ?_⟩
                                  have n0_ := Aside0.mk (Kd.R_below (by (with_reducible repeat (first | apply Kd.R_alloc | apply Kd.R_drewN | apply Kd.R_drew)); exact HO_9.out) hb)
                                  have n1_ := Aside0.mk (Kd.R_below (by (with_reducible repeat (first | apply Kd.R_alloc | apply Kd.R_drewN | apply Kd.R_drew)); exact HO_10.out) hb)
                                  have n2_ := Aside0.mk (Kd.N_below (by (with_reducible repeat (first | apply Kd.N_alloc | apply Kd.N_drewN | apply Kd.N_drew)); exact HO_14.out) hb)
                                  have n3_ := Aside0.mk (Kd.V_below (by (with_reducible repeat (first | apply Kd.V_alloc | apply Kd.V_drewN | apply Kd.V_drew)); exact HL156_0.out) hb)
                                  have n4_ := Aside0.mk (Kd.V_below (by (with_reducible repeat (first | apply Kd.V_alloc | apply Kd.V_drewN | apply Kd.V_drew)); exact HL158_0.out) hb)
                                  have n5_ := Aside0.mk (Kd.V_below (by (with_reducible repeat (first | apply Kd.V_alloc | apply Kd.V_drewN | apply Kd.V_drew)); exact HL160_0.out) hb)
                                  have n6_ := Aside0.mk (Kd.V_below (by (with_reducible repeat (first | apply Kd.V_alloc | apply Kd.V_drewN | apply Kd.V_drew)); exact HL162_0.out) hb)
                                  have n7_ := Aside0.mk (Kd.V_below (by (with_reducible repeat (first | apply Kd.V_alloc | apply Kd.V_drewN | apply Kd.V_drew)); exact HL164_0.out) hb)
                                  have n8_ := Aside0.mk (Kd.V_below (by (with_reducible repeat (first | apply Kd.V_alloc | apply Kd.V_drewN | apply Kd.V_drew)); exact HL166_0.out) hb)
                                  have n9_ := Aside0.mk (Kd.C_below (by first | (with_reducible exact HR156_0.out) | (with_reducible exact Kd.C_drewN HR156_0.out _) | (with_reducible exact Kd.C_drew HR156_0.out) | (with_reducible exact Kd.C_alloc HR156_0.out _) | exact HR156_0.out) hb)
                                  have n10_ := Aside0.mk (Kd.C_below (by first | (with_reducible exact HR158_0.out) | (with_reducible exact Kd.C_drewN HR158_0.out _) | (with_reducible exact Kd.C_drew HR158_0.out) | (with_reducible exact Kd.C_alloc HR158_0.out _) | exact HR158_0.out) hb)
                                  have n11_ := Aside0.mk (Kd.C_below (by first | (with_reducible exact HR160_0.out) | (with_reducible exact Kd.C_drewN HR160_0.out _) | (with_reducible exact Kd.C_drew HR160_0.out) | (with_reducible exact Kd.C_alloc HR160_0.out _) | exact HR160_0.out) hb)
                                  have n12_ := Aside0.mk (Kd.C_below (by first | (with_reducible exact HR162_0.out) | (with_reducible exact Kd.C_drewN HR162_0.out _) | (with_reducible exact Kd.C_drew HR162_0.out) | (with_reducible exact Kd.C_alloc HR162_0.out _) | exact HR162_0.out) hb)
                                  have n13_ := Aside0.mk (Kd.C_below (by first | (with_reducible exact HR164_0.out) | (with_reducible exact Kd.C_drewN HR164_0.out _) | (with_reducible exact Kd.C_drew HR164_0.out) | (with_reducible exact Kd.C_alloc HR164_0.out _) | exact HR164_0.out) hb)
                                  have n14_ := Aside0.mk (Kd.C_below (by first | (with_reducible exact HR166_0.out) | (with_reducible exact Kd.C_drewN HR166_0.out _) | (with_reducible exact Kd.C_drew HR166_0.out) | (with_reducible exact Kd.C_alloc HR166_0.out _) | exact HR166_0.out) hb)
                                  have n15_ := Aside0.mk (below_step (by repeat (first | (with_reducible first | exact HB.out | apply below_alloc | apply pw_below_drewN | apply below_drew1) | exact HB.out)) hb)
                                  clear HO_9
                                  clear HO_10
                                  clear HO_14
                                  clear HL156_0
                                  clear HL158_0
                                  clear HL160_0
                                  clear HL162_0
                                  clear HL164_0
                                  clear HL166_0
                                  clear HR156_0
                                  clear HR158_0
                                  clear HR160_0
                                  clear HR162_0
                                  clear HR164_0
                                  clear HR166_0
                                  clear HB
                                  have HO_9 := n0_
                                  have HO_10 := n1_
                                  have HO_14 := n2_
                                  have HL156_0 := n3_
                                  have HL158_0 := n4_
                                  have HL160_0 := n5_
                                  have HL162_0 := n6_
                                  have HL164_0 := n7_
                                  have HL166_0 := n8_
                                  have HR156_0 := n9_
                                  have HR158_0 := n10_
                                  have HR160_0 := n11_
                                  have HR162_0 := n12_
                                  have HR164_0 := n13_
                                  have HR166_0 := n14_
                                  have HB := n15_
                                  clear n0_ n1_ n2_ n3_ n4_ n5_ n6_ n7_ n8_ n9_ n10_ n11_ n12_ n13_ n14_ n15_
                                  (try clear hb)
                                  (try clear hb2)
                                  (try clear hk)
                                  (try clear hi)
                                  refine hK.out _ _ ⟨HS0_, HS1_, HS2_, HS3_, HS4_, HS5_⟩ (fun hHeld => ?_)
                                  clear hK K
                                  refine norm_ (a' := ?_) ?_ ?_
                                  rotate_left
                                  · show Act.put _ (some 93) _ = _
                                    simp only [Act.put, List.setIfInBounds_toArray, List.set_cons_zero, List.set_cons_succ, i64_w, i32_w]
                                    rfl
                                  refine pure_ (i := 10) (N := some 94) (v := ?_) (a' := ?_) #[true, true, true, true, true, true, true, true, true, true, true, false, false, false, false, false, false, false, false, false, false, false, false, false, false, false, false, false, false, false, false, false, false, false, false, false, false, false, false, false, false] rfl rfl (any_of HT_.out (by kernel_rfl)) (fun _ _ _ h => h) (Or.inl ⟨by rfl, ?_⟩) ?_ ?_
                                  rotate_left
                                  · intro w'
                                    go_simp
                                    with_reducible rfl
                                  rotate_left
                                  · simp only [Act.put, List.setIfInBounds_toArray, List.set_cons_zero, List.set_cons_succ, i64_w, i32_w]
                                    rfl
                                  refine pure_ (i := 11) (N := some 95) (v := ?_) (a' := ?_) #[true, true, true, true, true, true, true, true, true, true, true, true, false, false, false, false, false, false, false, false, false, false, false, false, false, false, false, false, false, false, false, false, false, false, false, false, false, false, false, false, false] rfl rfl (any_of HT_.out (by kernel_rfl)) (fun _ _ _ h => h) (Or.inl ⟨by rfl, ?_⟩) ?_ ?_
                                  rotate_left
                                  · intro w'
                                    go_simp
                                    with_reducible rfl
                                  rotate_left
                                  · simp only [Act.put, List.setIfInBounds_toArray, List.set_cons_zero, List.set_cons_succ, i64_w, i32_w]
                                    rfl
                                  refine pure_ (i := 12) (N := some 96) (v := ?_) (a' := ?_) #[true, true, true, true, true, true, true, true, true, true, true, true, true, false, false, false, false, false, false, false, false, false, false, false, false, false, false, false, false, false, false, false, false, false, false, false, false, false, false, false, false] rfl rfl (any_of HT_.out (by kernel_rfl)) (fun _ _ _ h => h) (Or.inl ⟨by rfl, ?_⟩) ?_ ?_
                                  rotate_left
                                  · intro w'
                                    go_simp
                                    with_reducible rfl
                                  rotate_left
                                  · simp only [Act.put, List.setIfInBounds_toArray, List.set_cons_zero, List.set_cons_succ, i64_w, i32_w]
                                    rfl
                                  refine pure_ (i := 13) (N := some 97) (v := ?_) (a' := ?_) #[true, true, true, true, true, true, true, true, true, true, true, true, true, true, false, false, false, false, false, false, false, false, false, false, false, false, false, false, false, false, false, false, false, false, false, false, false, false, false, false, false] rfl rfl (any_of HT_.out (by kernel_rfl)) (fun _ _ _ h => h) (Or.inl ⟨by rfl, ?_⟩) ?_ ?_
                                  rotate_left
                                  · intro w'
                                    go_simp
                                    with_reducible rfl
                                  rotate_left
                                  · simp only [Act.put, List.setIfInBounds_toArray, List.set_cons_zero, List.set_cons_succ, i64_w, i32_w]
                                    rfl
                                  refine pure_ (i := 14) (N := some 98) (v := ?_) (a' := ?_) #[true, true, true, true, true, true, true, true, true, true, true, true, true, true, true, false, false, false, false, false, false, false, false, false, false, false, false, false, false, false, false, false, false, false, false, false, false, false, false, false, false] rfl rfl (any_of HT_.out (by kernel_rfl)) (fun _ _ _ h => h) (Or.inl ⟨by rfl, ?_⟩) ?_ ?_
                                  rotate_left
                                  · intro w'
                                    go_simp
                                    with_reducible rfl
                                  rotate_left
                                  · simp only [Act.put, List.setIfInBounds_toArray, List.set_cons_zero, List.set_cons_succ, i64_w, i32_w]
                                    rfl
                                  refine pure_ (i := 16) (N := some 100) (v := ?_) (a' := ?_) #[true, true, true, true, true, true, true, true, true, true, true, true, true, true, true, false, true, false, false, false, false, false, false, false, false, false, false, false, false, false, false, false, false, false, false, false, false, false, false, false, false] rfl rfl (any_of HT_.out (by kernel_rfl)) (fun _ _ _ h => h) (Or.inl ⟨by rfl, ?_⟩) ?_ ?_
                                  rotate_left
                                  · intro w'
                                    go_simp
                                    with_reducible rfl
                                  rotate_left
                                  · simp only [Act.put, List.setIfInBounds_toArray, List.set_cons_zero, List.set_cons_succ, i64_w, i32_w]
                                    rfl
                                  refine pure_ (i := 18) (N := some 102) (v := ?_) (a' := ?_) #[true, true, true, true, true, true, true, true, true, true, true, true, true, true, true, false, true, false, true, false, false, false, false, false, false, false, false, false, false, false, false, false, false, false, false, false, false, false, false, false, false] rfl rfl (any_of HT_.out (by kernel_rfl)) (fun _ _ _ h => h) (Or.inl ⟨by rfl, ?_⟩) ?_ ?_
                                  rotate_left
                                  · intro w'
                                    go_simp
                                    with_reducible rfl
                                  rotate_left
                                  · simp only [Act.put, List.setIfInBounds_toArray, List.set_cons_zero, List.set_cons_succ, i64_w, i32_w]
                                    rfl
                                  refine pure_ (i := 19) (N := some 103) (v := ?_) (a' := ?_) #[true, true, true, true, true, true, true, true, true, true, true, true, true, true, true, false, true, false, true, true, false, false, false, false, false, false, false, false, false, false, false, false, false, false, false, false, false, false, false, false, false] rfl rfl (any_of HT_.out (by kernel_rfl)) (fun _ _ _ h => h) (Or.inl ⟨by rfl, ?_⟩) ?_ ?_
                                  rotate_left
                                  · intro w'
                                    go_simp
                                    with_reducible rfl
                                  rotate_left
                                  · simp only [Act.put, List.setIfInBounds_toArray, List.set_cons_zero, List.set_cons_succ, i64_w, i32_w]
                                    rfl
                                  refine pure_ (i := 20) (N := some 104) (v := ?_) (a' := ?_) #[true, true, true, true, true, true, true, true, true, true, true, true, true, true, true, false, true, false, true, true, true, false, false, false, false, false, false, false, false, false, false, false, false, false, false, false, false, false, false, false, false] rfl rfl (any_of HT_.out (by kernel_rfl)) (fun _ _ _ h => h) (Or.inl ⟨by rfl, ?_⟩) ?_ ?_
                                  rotate_left
                                  · intro w'
                                    go_simp
                                    with_reducible rfl
                                  rotate_left
                                  · simp only [Act.put, List.setIfInBounds_toArray, List.set_cons_zero, List.set_cons_succ, i64_w, i32_w]
                                    rfl
                                  refine pure_ (i := 22) (N := some 106) (v := ?_) (a' := ?_) #[true, true, true, true, true, true, true, true, true, true, true, true, true, true, true, false, true, false, true, true, true, false, true, false, false, false, false, false, false, false, false, false, false, false, false, false, false, false, false, false, false] rfl rfl (any_of HT_.out (by kernel_rfl)) (fun _ _ _ h => h) (Or.inl ⟨by rfl, ?_⟩) ?_ ?_
                                  rotate_left
                                  · intro w'
                                    go_simp
                                    with_reducible rfl
                                  rotate_left
                                  · simp only [Act.put, List.setIfInBounds_toArray, List.set_cons_zero, List.set_cons_succ, i64_w, i32_w]
                                    rfl
                                  refine take_ (i := 15) (N := some 99) (v := ?_) (a' := ?_) #[true, true, true, true, true, true, true, true, true, true, true, true, true, true, true, true, true, false, true, true, true, false, true, false, false, false, false, false, false, false, false, false, false, false, false, false, false, false, false, false, false] rfl rfl (take_ofW HT_.out HW_.out (by kernel_rfl)) (fun _ _ _ h => h) (Or.inl ⟨by rfl, ?_⟩) hHeld ?_ ?_
                                  rotate_left
                                  · rintro w' ⟨s0, s1, s2, s3, s4, s5⟩
                                    go_simp
                                    with_reducible rfl
                                  rotate_left
                                  · simp only [Act.put, List.setIfInBounds_toArray, List.set_cons_zero, List.set_cons_succ, i64_w, i32_w]
                                    rfl
                                  refine take_ (i := 21) (N := some 105) (v := ?_) (a' := ?_) #[true, true, true, true, true, true, true, true, true, true, true, true, true, true, true, true, true, false, true, true, true, true, true, false, false, false, false, false, false, false, false, false, false, false, false, false, false, false, false, false, false] rfl rfl (take_ofW HT_.out HW_.out (by kernel_rfl)) (fun _ _ _ h => h) (Or.inl ⟨by rfl, ?_⟩) hHeld ?_ ?_
                                  rotate_left
                                  · rintro w' ⟨s0, s1, s2, s3, s4, s5⟩
                                    go_simp
                                    with_reducible rfl
                                  rotate_left
                                  · simp only [Act.put, List.setIfInBounds_toArray, List.set_cons_zero, List.set_cons_succ, i64_w, i32_w]
                                    rfl
                                  refine one_ (i := 17) (N := some 101) #[true, true, true, true, true, true, true, true, true, true, true, true, true, true, true, true, true, true, true, true, true, true, true, false, false, false, false, false, false, false, false, false, false, false, false, false, false, false, false, false, false] rfl rfl (one_of HT_.out (by kernel_rfl)) (by decide) (fun K hK => ?_)
                                  refine goes_ Try.func22 (by kernel_rfl) rfl #[.slice A156_0 (rd_L1 y153 x15_4).length c156_0, .slice Ao31 x9_8.length co31] (by rfl) rfl rfl (by (try simp only [List.map_toArray, List.map_cons, List.map_nil]); first | done | rfl | (simp only [List.length_drop, List.length_take]; rfl)) ?_
                                  with_reducible refine (mark_All.calls _ _ (rd_L1 y153 x15_4) _ _ x9_8 t161 _ ?side1 ?side2 ?side3 ?side4 A57.out).mono ?_
                                  (case side1 => repeat (first | exact (by first | (with_reducible exact HR160_0.out) | (with_reducible exact Kd.C_drewN HR160_0.out _) | (with_reducible exact Kd.C_drew HR160_0.out) | (with_reducible exact Kd.C_alloc HR160_0.out _) | exact HR160_0.out) | (with_reducible refine Kd.C_alloc ?_ _) | (with_reducible refine Kd.C_drewN ?_ _) | (with_reducible refine Kd.C_drew ?_)))
                                  (case side2 => exact HC160_0.out)
                                  (case side3 => repeat (first | exact (Kd.R_reads' HO_9.out).2.2 | (with_reducible refine Kd.C_alloc ?_ _) | (with_reducible refine Kd.C_drewN ?_ _) | (with_reducible refine Kd.C_drew ?_)))
                                  (case side4 => exact (Kd.R_reads' HO_9.out).2.1)
                                  rintro e w67 ⟨rfl, hb⟩
                                  have HS0_ := (hb.cell (World.block_lt_of_cell? _ _ (hHeld.1))).trans (hHeld.1)
                                  have HS1_ := (hb.cell (World.block_lt_of_cell? _ _ (hHeld.2.1))).trans (hHeld.2.1)
                                  have HS2_ := (hb.cell (World.block_lt_of_cell? _ _ (hHeld.2.2.1))).trans (hHeld.2.2.1)
                                  have HS3_ := (hb.cell (World.block_lt_of_cell? _ _ (hHeld.2.2.2.1))).trans (hHeld.2.2.2.1)
                                  have HS4_ := (hb.cell (World.block_lt_of_cell? _ _ (hHeld.2.2.2.2.1))).trans (hHeld.2.2.2.2.1)
                                  have HS5_ := (hb.cell (World.block_lt_of_cell? _ _ (hHeld.2.2.2.2.2))).trans (hHeld.2.2.2.2.2)
                                  refine ⟨_, rfl, ?_⟩
                                  have n0_ := Aside0.mk (Kd.R_below (by (with_reducible repeat (first | apply Kd.R_alloc | apply Kd.R_drewN | apply Kd.R_drew)); exact HO_9.out) hb)
                                  have n1_ := Aside0.mk (Kd.R_below (by (with_reducible repeat (first | apply Kd.R_alloc | apply Kd.R_drewN | apply Kd.R_drew)); exact HO_10.out) hb)
                                  have n2_ := Aside0.mk (Kd.N_below (by (with_reducible repeat (first | apply Kd.N_alloc | apply Kd.N_drewN | apply Kd.N_drew)); exact HO_14.out) hb)
                                  have n3_ := Aside0.mk (Kd.V_below (by (with_reducible repeat (first | apply Kd.V_alloc | apply Kd.V_drewN | apply Kd.V_drew)); exact HL156_0.out) hb)
                                  have n4_ := Aside0.mk (Kd.V_below (by (with_reducible repeat (first | apply Kd.V_alloc | apply Kd.V_drewN | apply Kd.V_drew)); exact HL158_0.out) hb)
                                  have n5_ := Aside0.mk (Kd.V_below (by (with_reducible repeat (first | apply Kd.V_alloc | apply Kd.V_drewN | apply Kd.V_drew)); exact HL160_0.out) hb)
                                  have n6_ := Aside0.mk (Kd.V_below (by (with_reducible repeat (first | apply Kd.V_alloc | apply Kd.V_drewN | apply Kd.V_drew)); exact HL162_0.out) hb)
                                  have n7_ := Aside0.mk (Kd.V_below (by (with_reducible repeat (first | apply Kd.V_alloc | apply Kd.V_drewN | apply Kd.V_drew)); exact HL164_0.out) hb)
                                  have n8_ := Aside0.mk (Kd.V_below (by (with_reducible repeat (first | apply Kd.V_alloc | apply Kd.V_drewN | apply Kd.V_drew)); exact HL166_0.out) hb)
                                  have n9_ := Aside0.mk (Kd.C_below (by first | (with_reducible exact HR156_0.out) | (with_reducible exact Kd.C_drewN HR156_0.out _) | (with_reducible exact Kd.C_drew HR156_0.out) | (with_reducible exact Kd.C_alloc HR156_0.out _) | exact HR156_0.out) hb)
                                  have n10_ := Aside0.mk (Kd.C_below (by first | (with_reducible exact HR158_0.out) | (with_reducible exact Kd.C_drewN HR158_0.out _) | (with_reducible exact Kd.C_drew HR158_0.out) | (with_reducible exact Kd.C_alloc HR158_0.out _) | exact HR158_0.out) hb)
                                  have n11_ := Aside0.mk (Kd.C_below (by first | (with_reducible exact HR160_0.out) | (with_reducible exact Kd.C_drewN HR160_0.out _) | (with_reducible exact Kd.C_drew HR160_0.out) | (with_reducible exact Kd.C_alloc HR160_0.out _) | exact HR160_0.out) hb)
                                  have n12_ := Aside0.mk (Kd.C_below (by first | (with_reducible exact HR162_0.out) | (with_reducible exact Kd.C_drewN HR162_0.out _) | (with_reducible exact Kd.C_drew HR162_0.out) | (with_reducible exact Kd.C_alloc HR162_0.out _) | exact HR162_0.out) hb)
                                  have n13_ := Aside0.mk (Kd.C_below (by first | (with_reducible exact HR164_0.out) | (with_reducible exact Kd.C_drewN HR164_0.out _) | (with_reducible exact Kd.C_drew HR164_0.out) | (with_reducible exact Kd.C_alloc HR164_0.out _) | exact HR164_0.out) hb)
                                  have n14_ := Aside0.mk (Kd.C_below (by first | (with_reducible exact HR166_0.out) | (with_reducible exact Kd.C_drewN HR166_0.out _) | (with_reducible exact Kd.C_drew HR166_0.out) | (with_reducible exact Kd.C_alloc HR166_0.out _) | exact HR166_0.out) hb)
                                  have n15_ := Aside0.mk (below_step (by repeat (first | (with_reducible first | exact HB.out | apply below_alloc | apply pw_below_drewN | apply below_drew1) | exact HB.out)) hb)
                                  clear HO_9
                                  clear HO_10
                                  clear HO_14
                                  clear HL156_0
                                  clear HL158_0
                                  clear HL160_0
                                  clear HL162_0
                                  clear HL164_0
                                  clear HL166_0
                                  clear HR156_0
                                  clear HR158_0
                                  clear HR160_0
                                  clear HR162_0
                                  clear HR164_0
                                  clear HR166_0
                                  clear HB
                                  have HO_9 := n0_
                                  have HO_10 := n1_
                                  have HO_14 := n2_
                                  have HL156_0 := n3_
                                  have HL158_0 := n4_
                                  have HL160_0 := n5_
                                  have HL162_0 := n6_
                                  have HL164_0 := n7_
                                  have HL166_0 := n8_
                                  have HR156_0 := n9_
                                  have HR158_0 := n10_
                                  have HR160_0 := n11_
                                  have HR162_0 := n12_
                                  have HR164_0 := n13_
                                  have HR166_0 := n14_
                                  have HB := n15_
                                  clear n0_ n1_ n2_ n3_ n4_ n5_ n6_ n7_ n8_ n9_ n10_ n11_ n12_ n13_ n14_ n15_
                                  (try clear hb)
                                  (try clear hb2)
                                  (try clear hk)
                                  (try clear hi)
                                  refine hK.out _ _ ⟨HS0_, HS1_, HS2_, HS3_, HS4_, HS5_⟩ (fun hHeld => ?_)
                                  clear hK K
                                  refine norm_ (a' := ?_) ?_ ?_
                                  rotate_left
                                  · show Act.put _ (some 101) _ = _
                                    simp only [Act.put, List.setIfInBounds_toArray, List.set_cons_zero, List.set_cons_succ, i64_w, i32_w]
                                    rfl
                                  refine one_ (i := 23) (N := some 107) #[true, true, true, true, true, true, true, true, true, true, true, true, true, true, true, true, true, true, true, true, true, true, true, true, false, false, false, false, false, false, false, false, false, false, false, false, false, false, false, false, false] rfl rfl (one_of HT_.out (by kernel_rfl)) (by decide) (fun K hK => ?_)
                                  refine goes_ Try.func25 (by kernel_rfl) rfl #[.slice A156_0 (rd_L1 y153 x15_4).length c156_0, .slice Ao31 x9_8.length co31] (by rfl) rfl rfl (by (try simp only [List.map_toArray, List.map_cons, List.map_nil]); first | done | rfl | (simp only [List.length_drop, List.length_take]; rfl)) ?_
                                  with_reducible refine (joineryref2_All.calls k4 _ _ (rd_L1 y153 x15_4) _ _ x9_8 t163 _ ?side1 ?side2 ?side3 ?side4 A58.out).mono ?_
                                  (case side1 => repeat (first | exact (by first | (with_reducible exact HR162_0.out) | (with_reducible exact Kd.C_drewN HR162_0.out _) | (with_reducible exact Kd.C_drew HR162_0.out) | (with_reducible exact Kd.C_alloc HR162_0.out _) | exact HR162_0.out) | (with_reducible refine Kd.C_alloc ?_ _) | (with_reducible refine Kd.C_drewN ?_ _) | (with_reducible refine Kd.C_drew ?_)))
                                  (case side2 => exact HC162_0.out)
                                  (case side3 => repeat (first | exact (Kd.R_reads' HO_9.out).2.2 | (with_reducible refine Kd.C_alloc ?_ _) | (with_reducible refine Kd.C_drewN ?_ _) | (with_reducible refine Kd.C_drew ?_)))
                                  (case side4 => exact (Kd.R_reads' HO_9.out).2.1)
                                  rintro e w' ⟨rfl, ⟨nd, rfl⟩⟩
                                  refine ⟨_, rfl, ?_⟩
                                  refine hK.out _ _ ⟨hHeld.1, hHeld.2.1, hHeld.2.2.1, hHeld.2.2.2.1, hHeld.2.2.2.2.1, hHeld.2.2.2.2.2⟩ (fun hHeld => ?_)
                                  clear hK K
                                  refine norm_ (a' := ?_) ?_ ?_
                                  rotate_left
                                  · show Act.put _ (some 107) _ = _
                                    simp only [Act.put, List.setIfInBounds_toArray, List.set_cons_zero, List.set_cons_succ, i64_w, i32_w]
                                    rfl
                                  refine pure_ (i := 24) (N := some 108) (v := ?_) (a' := ?_) #[true, true, true, true, true, true, true, true, true, true, true, true, true, true, true, true, true, true, true, true, true, true, true, true, true, false, false, false, false, false, false, false, false, false, false, false, false, false, false, false, false] rfl rfl (any_of HT_.out (by kernel_rfl)) (fun _ _ _ h => h) (Or.inl ⟨by rfl, ?_⟩) ?_ ?_
                                  rotate_left
                                  · intro w'
                                    go_simp
                                    with_reducible rfl
                                  rotate_left
                                  · simp only [Act.put, List.setIfInBounds_toArray, List.set_cons_zero, List.set_cons_succ, i64_w, i32_w]
                                    rfl
                                  refine pure_ (i := 25) (N := some 109) (v := ?_) (a' := ?_) #[true, true, true, true, true, true, true, true, true, true, true, true, true, true, true, true, true, true, true, true, true, true, true, true, true, true, false, false, false, false, false, false, false, false, false, false, false, false, false, false, false] rfl rfl (any_of HT_.out (by kernel_rfl)) (fun _ _ _ h => h) (Or.inl ⟨by rfl, ?_⟩) ?_ ?_
                                  rotate_left
                                  · intro w'
                                    go_simp
                                    with_reducible rfl
                                  rotate_left
                                  · simp only [Act.put, List.setIfInBounds_toArray, List.set_cons_zero, List.set_cons_succ, i64_w, i32_w]
                                    rfl
                                  refine pure_ (i := 26) (N := some 110) (v := ?_) (a' := ?_) #[true, true, true, true, true, true, true, true, true, true, true, true, true, true, true, true, true, true, true, true, true, true, true, true, true, true, true, false, false, false, false, false, false, false, false, false, false, false, false, false, false] rfl rfl (any_of HT_.out (by kernel_rfl)) (fun _ _ _ h => h) (Or.inl ⟨by rfl, ?_⟩) ?_ ?_
                                  rotate_left
                                  · intro w'
                                    go_simp
                                    with_reducible rfl
                                  rotate_left
                                  · simp only [Act.put, List.setIfInBounds_toArray, List.set_cons_zero, List.set_cons_succ, i64_w, i32_w]
                                    rfl
                                  refine pure_ (i := 27) (N := some 111) (v := ?_) (a' := ?_) #[true, true, true, true, true, true, true, true, true, true, true, true, true, true, true, true, true, true, true, true, true, true, true, true, true, true, true, true, false, false, false, false, false, false, false, false, false, false, false, false, false] rfl rfl (any_of HT_.out (by kernel_rfl)) (fun _ _ _ h => h) (Or.inl ⟨by rfl, ?_⟩) ?_ ?_
                                  rotate_left
                                  · intro w'
                                    go_simp
                                    with_reducible rfl
                                  rotate_left
                                  · simp only [Act.put, List.setIfInBounds_toArray, List.set_cons_zero, List.set_cons_succ, i64_w, i32_w]
                                    rfl
                                  refine pure_ (i := 28) (N := some 112) (v := ?_) (a' := ?_) #[true, true, true, true, true, true, true, true, true, true, true, true, true, true, true, true, true, true, true, true, true, true, true, true, true, true, true, true, true, false, false, false, false, false, false, false, false, false, false, false, false] rfl rfl (any_of HT_.out (by kernel_rfl)) (fun _ _ _ h => h) (Or.inl ⟨by rfl, ?_⟩) ?_ ?_
                                  rotate_left
                                  · intro w'
                                    go_simp
                                    with_reducible rfl
                                  rotate_left
                                  · simp only [Act.put, List.setIfInBounds_toArray, List.set_cons_zero, List.set_cons_succ, i64_w, i32_w]
                                    rfl
                                  refine pure_ (i := 29) (N := some 113) (v := ?_) (a' := ?_) #[true, true, true, true, true, true, true, true, true, true, true, true, true, true, true, true, true, true, true, true, true, true, true, true, true, true, true, true, true, true, false, false, false, false, false, false, false, false, false, false, false] rfl rfl (any_of HT_.out (by kernel_rfl)) (fun _ _ _ h => h) (Or.inl ⟨by rfl, ?_⟩) ?_ ?_
                                  rotate_left
                                  · intro w'
                                    go_simp
                                    with_reducible rfl
                                  rotate_left
                                  · simp only [Act.put, List.setIfInBounds_toArray, List.set_cons_zero, List.set_cons_succ, i64_w, i32_w]
                                    rfl
                                  refine pure_ (i := 30) (N := some 114) (v := ?_) (a' := ?_) #[true, true, true, true, true, true, true, true, true, true, true, true, true, true, true, true, true, true, true, true, true, true, true, true, true, true, true, true, true, true, true, false, false, false, false, false, false, false, false, false, false] rfl rfl (any_of HT_.out (by kernel_rfl)) (fun _ _ _ h => h) (Or.inl ⟨by rfl, ?_⟩) ?_ ?_
                                  rotate_left
                                  · intro w'
                                    go_simp
                                    with_reducible rfl
                                  rotate_left
                                  · simp only [Act.put, List.setIfInBounds_toArray, List.set_cons_zero, List.set_cons_succ, i64_w, i32_w]
                                    rfl
                                  refine pure_ (i := 33) (N := some 117) (v := ?_) (a' := ?_) #[true, true, true, true, true, true, true, true, true, true, true, true, true, true, true, true, true, true, true, true, true, true, true, true, true, true, true, true, true, true, true, false, false, true, false, false, false, false, false, false, false] rfl rfl (any_of HT_.out (by kernel_rfl)) (fun _ _ _ h => h) (Or.inl ⟨by rfl, ?_⟩) ?_ ?_
                                  rotate_left
                                  · intro w'
                                    go_simp
                                    with_reducible rfl
                                  rotate_left
                                  · simp only [Act.put, List.setIfInBounds_toArray, List.set_cons_zero, List.set_cons_succ, i64_w, i32_w]
                                    rfl
                                  refine pure_ (i := 34) (N := some 118) (v := ?_) (a' := ?_) #[true, true, true, true, true, true, true, true, true, true, true, true, true, true, true, true, true, true, true, true, true, true, true, true, true, true, true, true, true, true, true, false, false, true, true, false, false, false, false, false, false] rfl rfl (any_of HT_.out (by kernel_rfl)) (fun _ _ _ h => h) (Or.inl ⟨by rfl, ?_⟩) ?_ ?_
                                  rotate_left
                                  · intro w'
                                    go_simp
                                    with_reducible rfl
                                  rotate_left
                                  · simp only [Act.put, List.setIfInBounds_toArray, List.set_cons_zero, List.set_cons_succ, i64_w, i32_w]
                                    rfl
                                  refine pure_ (i := 35) (N := some 119) (v := ?_) (a' := ?_) #[true, true, true, true, true, true, true, true, true, true, true, true, true, true, true, true, true, true, true, true, true, true, true, true, true, true, true, true, true, true, true, false, false, true, true, true, false, false, false, false, false] rfl rfl (any_of HT_.out (by kernel_rfl)) (fun _ _ _ h => h) (Or.inl ⟨by rfl, ?_⟩) ?_ ?_
                                  rotate_left
                                  · intro w'
                                    go_simp
                                    with_reducible rfl
                                  rotate_left
                                  · simp only [Act.put, List.setIfInBounds_toArray, List.set_cons_zero, List.set_cons_succ, i64_w, i32_w]
                                    rfl
                                  refine pure_ (i := 36) (N := some 120) (v := ?_) (a' := ?_) #[true, true, true, true, true, true, true, true, true, true, true, true, true, true, true, true, true, true, true, true, true, true, true, true, true, true, true, true, true, true, true, false, false, true, true, true, true, false, false, false, false] rfl rfl (any_of HT_.out (by kernel_rfl)) (fun _ _ _ h => h) (Or.inl ⟨by rfl, ?_⟩) ?_ ?_
                                  rotate_left
                                  · intro w'
                                    go_simp
                                    with_reducible rfl
                                  rotate_left
                                  · simp only [Act.put, List.setIfInBounds_toArray, List.set_cons_zero, List.set_cons_succ, i64_w, i32_w]
                                    rfl
                                  refine take_ (i := 31) (N := some 115) (v := ?_) (a' := ?_) #[true, true, true, true, true, true, true, true, true, true, true, true, true, true, true, true, true, true, true, true, true, true, true, true, true, true, true, true, true, true, true, true, false, true, true, true, true, false, false, false, false] rfl rfl (take_ofW HT_.out HW_.out (by kernel_rfl)) (fun _ _ _ h => h) (Or.inl ⟨by rfl, ?_⟩) hHeld ?_ ?_
                                  rotate_left
                                  · rintro w' ⟨s0, s1, s2, s3, s4, s5⟩
                                    go_simp
                                    with_reducible rfl
                                  rotate_left
                                  · simp only [Act.put, List.setIfInBounds_toArray, List.set_cons_zero, List.set_cons_succ, i64_w, i32_w]
                                    rfl
                                  refine take_ (i := 37) (N := some 121) (v := ?_) (a' := ?_) #[true, true, true, true, true, true, true, true, true, true, true, true, true, true, true, true, true, true, true, true, true, true, true, true, true, true, true, true, true, true, true, true, false, true, true, true, true, true, false, false, false] rfl rfl (take_ofW HT_.out HW_.out (by kernel_rfl)) (fun _ _ _ h => h) (Or.inl ⟨by rfl, ?_⟩) hHeld ?_ ?_
                                  rotate_left
                                  · rintro w' ⟨s0, s1, s2, s3, s4, s5⟩
                                    go_simp
                                    with_reducible rfl
                                  rotate_left
                                  · simp only [Act.put, List.setIfInBounds_toArray, List.set_cons_zero, List.set_cons_succ, i64_w, i32_w]
                                    rfl
                                  refine one_ (i := 32) (N := some 116) #[true, true, true, true, true, true, true, true, true, true, true, true, true, true, true, true, true, true, true, true, true, true, true, true, true, true, true, true, true, true, true, true, true, true, true, true, true, true, false, false, false] rfl rfl (one_of HT_.out (by kernel_rfl)) (by decide) (fun K hK => ?_)
                                  refine goes_ Try.func22 (by kernel_rfl) rfl #[.slice Ao46 x10_17.length co46, .slice A156_0 (rd_L1 y153 x15_4).length c156_0] (by rfl) rfl rfl (by (try simp only [List.map_toArray, List.map_cons, List.map_nil]); first | done | rfl | (simp only [List.length_drop, List.length_take]; rfl)) ?_
                                  with_reducible refine (mark_All.calls _ _ x10_17 _ _ (rd_L1 y153 x15_4) t165 _ ?side1 ?side2 ?side3 ?side4 A60.out).mono ?_
                                  (case side1 => repeat (first | exact (Kd.R_reads' HO_10.out).2.2 | (with_reducible refine Kd.C_alloc ?_ _) | (with_reducible refine Kd.C_drewN ?_ _) | (with_reducible refine Kd.C_drew ?_)))
                                  (case side2 => exact (Kd.R_reads' HO_10.out).2.1)
                                  (case side3 => repeat (first | exact (by first | (with_reducible exact HR164_0.out) | (with_reducible exact Kd.C_drewN HR164_0.out _) | (with_reducible exact Kd.C_drew HR164_0.out) | (with_reducible exact Kd.C_alloc HR164_0.out _) | exact HR164_0.out) | (with_reducible refine Kd.C_alloc ?_ _) | (with_reducible refine Kd.C_drewN ?_ _) | (with_reducible refine Kd.C_drew ?_)))
                                  (case side4 => exact HC164_0.out)
                                  rintro e w68 ⟨rfl, hb⟩
                                  have HS0_ := (hb.cell (World.block_lt_of_cell? _ _ (hHeld.1))).trans (hHeld.1)
                                  have HS1_ := (hb.cell (World.block_lt_of_cell? _ _ (hHeld.2.1))).trans (hHeld.2.1)
                                  have HS2_ := (hb.cell (World.block_lt_of_cell? _ _ (hHeld.2.2.1))).trans (hHeld.2.2.1)
                                  have HS3_ := (hb.cell (World.block_lt_of_cell? _ _ (hHeld.2.2.2.1))).trans (hHeld.2.2.2.1)
                                  have HS4_ := (hb.cell (World.block_lt_of_cell? _ _ (hHeld.2.2.2.2.1))).trans (hHeld.2.2.2.2.1)
                                  have HS5_ := (hb.cell (World.block_lt_of_cell? _ _ (hHeld.2.2.2.2.2))).trans (hHeld.2.2.2.2.2)
                                  refine ⟨_, rfl, ?_⟩
                                  have n0_ := Aside0.mk (Kd.R_below (by (with_reducible repeat (first | apply Kd.R_alloc | apply Kd.R_drewN | apply Kd.R_drew)); exact HO_9.out) hb)
                                  have n1_ := Aside0.mk (Kd.R_below (by (with_reducible repeat (first | apply Kd.R_alloc | apply Kd.R_drewN | apply Kd.R_drew)); exact HO_10.out) hb)
                                  have n2_ := Aside0.mk (Kd.N_below (by (with_reducible repeat (first | apply Kd.N_alloc | apply Kd.N_drewN | apply Kd.N_drew)); exact HO_14.out) hb)
                                  have n3_ := Aside0.mk (Kd.V_below (by (with_reducible repeat (first | apply Kd.V_alloc | apply Kd.V_drewN | apply Kd.V_drew)); exact HL156_0.out) hb)
                                  have n4_ := Aside0.mk (Kd.V_below (by (with_reducible repeat (first | apply Kd.V_alloc | apply Kd.V_drewN | apply Kd.V_drew)); exact HL158_0.out) hb)
                                  have n5_ := Aside0.mk (Kd.V_below (by (with_reducible repeat (first | apply Kd.V_alloc | apply Kd.V_drewN | apply Kd.V_drew)); exact HL160_0.out) hb)
                                  have n6_ := Aside0.mk (Kd.V_below (by (with_reducible repeat (first | apply Kd.V_alloc | apply Kd.V_drewN | apply Kd.V_drew)); exact HL162_0.out) hb)
                                  have n7_ := Aside0.mk (Kd.V_below (by (with_reducible repeat (first | apply Kd.V_alloc | apply Kd.V_drewN | apply Kd.V_drew)); exact HL164_0.out) hb)
                                  have n8_ := Aside0.mk (Kd.V_below (by (with_reducible repeat (first | apply Kd.V_alloc | apply Kd.V_drewN | apply Kd.V_drew)); exact HL166_0.out) hb)
                                  have n9_ := Aside0.mk (Kd.C_below (by first | (with_reducible exact HR156_0.out) | (with_reducible exact Kd.C_drewN HR156_0.out _) | (with_reducible exact Kd.C_drew HR156_0.out) | (with_reducible exact Kd.C_alloc HR156_0.out _) | exact HR156_0.out) hb)
                                  have n10_ := Aside0.mk (Kd.C_below (by first | (with_reducible exact HR158_0.out) | (with_reducible exact Kd.C_drewN HR158_0.out _) | (with_reducible exact Kd.C_drew HR158_0.out) | (with_reducible exact Kd.C_alloc HR158_0.out _) | exact HR158_0.out) hb)
                                  have n11_ := Aside0.mk (Kd.C_below (by first | (with_reducible exact HR160_0.out) | (with_reducible exact Kd.C_drewN HR160_0.out _) | (with_reducible exact Kd.C_drew HR160_0.out) | (with_reducible exact Kd.C_alloc HR160_0.out _) | exact HR160_0.out) hb)
                                  have n12_ := Aside0.mk (Kd.C_below (by first | (with_reducible exact HR162_0.out) | (with_reducible exact Kd.C_drewN HR162_0.out _) | (with_reducible exact Kd.C_drew HR162_0.out) | (with_reducible exact Kd.C_alloc HR162_0.out _) | exact HR162_0.out) hb)
                                  have n13_ := Aside0.mk (Kd.C_below (by first | (with_reducible exact HR164_0.out) | (with_reducible exact Kd.C_drewN HR164_0.out _) | (with_reducible exact Kd.C_drew HR164_0.out) | (with_reducible exact Kd.C_alloc HR164_0.out _) | exact HR164_0.out) hb)
                                  have n14_ := Aside0.mk (Kd.C_below (by first | (with_reducible exact HR166_0.out) | (with_reducible exact Kd.C_drewN HR166_0.out _) | (with_reducible exact Kd.C_drew HR166_0.out) | (with_reducible exact Kd.C_alloc HR166_0.out _) | exact HR166_0.out) hb)
                                  have n15_ := Aside0.mk (below_step (by repeat (first | (with_reducible first | exact HB.out | apply below_alloc | apply pw_below_drewN | apply below_drew1) | exact HB.out)) hb)
                                  clear HO_9
                                  clear HO_10
                                  clear HO_14
                                  clear HL156_0
                                  clear HL158_0
                                  clear HL160_0
                                  clear HL162_0
                                  clear HL164_0
                                  clear HL166_0
                                  clear HR156_0
                                  clear HR158_0
                                  clear HR160_0
                                  clear HR162_0
                                  clear HR164_0
                                  clear HR166_0
                                  clear HB
                                  have HO_9 := n0_
                                  have HO_10 := n1_
                                  have HO_14 := n2_
                                  have HL156_0 := n3_
                                  have HL158_0 := n4_
                                  have HL160_0 := n5_
                                  have HL162_0 := n6_
                                  have HL164_0 := n7_
                                  have HL166_0 := n8_
                                  have HR156_0 := n9_
                                  have HR158_0 := n10_
                                  have HR160_0 := n11_
                                  have HR162_0 := n12_
                                  have HR164_0 := n13_
                                  have HR166_0 := n14_
                                  have HB := n15_
                                  clear n0_ n1_ n2_ n3_ n4_ n5_ n6_ n7_ n8_ n9_ n10_ n11_ n12_ n13_ n14_ n15_
                                  (try clear hb)
                                  (try clear hb2)
                                  (try clear hk)
                                  (try clear hi)
                                  refine hK.out _ _ ⟨HS0_, HS1_, HS2_, HS3_, HS4_, HS5_⟩ (fun hHeld => ?_)
                                  clear hK K
                                  refine norm_ (a' := ?_) ?_ ?_
                                  rotate_left
                                  · show Act.put _ (some 116) _ = _
                                    simp only [Act.put, List.setIfInBounds_toArray, List.set_cons_zero, List.set_cons_succ, i64_w, i32_w]
                                    rfl
                                  refine one_ (i := 38) (N := some 122) #[true, true, true, true, true, true, true, true, true, true, true, true, true, true, true, true, true, true, true, true, true, true, true, true, true, true, true, true, true, true, true, true, true, true, true, true, true, true, true, false, false] rfl rfl (one_of HT_.out (by kernel_rfl)) (by decide) (fun K hK => ?_)
                                  refine goes_ Try.func25 (by kernel_rfl) rfl #[.slice Ao46 x10_17.length co46, .slice A156_0 (rd_L1 y153 x15_4).length c156_0] (by rfl) rfl rfl (by (try simp only [List.map_toArray, List.map_cons, List.map_nil]); first | done | rfl | (simp only [List.length_drop, List.length_take]; rfl)) ?_
                                  with_reducible refine (joineryref2_All.calls k4 _ _ x10_17 _ _ (rd_L1 y153 x15_4) t167 _ ?side1 ?side2 ?side3 ?side4 A61.out).mono ?_
                                  (case side1 => repeat (first | exact (Kd.R_reads' HO_10.out).2.2 | (with_reducible refine Kd.C_alloc ?_ _) | (with_reducible refine Kd.C_drewN ?_ _) | (with_reducible refine Kd.C_drew ?_)))
                                  (case side2 => exact (Kd.R_reads' HO_10.out).2.1)
                                  (case side3 => repeat (first | exact (by first | (with_reducible exact HR166_0.out) | (with_reducible exact Kd.C_drewN HR166_0.out _) | (with_reducible exact Kd.C_drew HR166_0.out) | (with_reducible exact Kd.C_alloc HR166_0.out _) | exact HR166_0.out) | (with_reducible refine Kd.C_alloc ?_ _) | (with_reducible refine Kd.C_drewN ?_ _) | (with_reducible refine Kd.C_drew ?_)))
                                  (case side4 => exact HC166_0.out)
                                  rintro e w' ⟨rfl, ⟨nd, rfl⟩⟩
                                  refine ⟨_, rfl, ?_⟩
                                  refine hK.out _ _ ⟨hHeld.1, hHeld.2.1, hHeld.2.2.1, hHeld.2.2.2.1, hHeld.2.2.2.2.1, hHeld.2.2.2.2.2⟩ (fun hHeld => ?_)
                                  clear hK K
                                  refine norm_ (a' := ?_) ?_ ?_
                                  rotate_left
                                  · show Act.put _ (some 122) _ = _
                                    simp only [Act.put, List.setIfInBounds_toArray, List.set_cons_zero, List.set_cons_succ, i64_w, i32_w]
                                    rfl
                                  refine pure_ (i := 39) (N := some 123) (v := ?_) (a' := ?_) #[true, true, true, true, true, true, true, true, true, true, true, true, true, true, true, true, true, true, true, true, true, true, true, true, true, true, true, true, true, true, true, true, true, true, true, true, true, true, true, true, false] rfl rfl (any_of HT_.out (by kernel_rfl)) (fun _ _ _ h => h) (Or.inl ⟨by rfl, ?_⟩) ?_ ?_
                                  rotate_left
                                  · intro w'
                                    go_simp
                                    with_reducible rfl
                                  rotate_left
                                  · simp only [Act.put, List.setIfInBounds_toArray, List.set_cons_zero, List.set_cons_succ, i64_w, i32_w]
                                    rfl
                                  refine pure_ (i := 40) (N := some 124) (v := ?_) (a' := ?_) #[true, true, true, true, true, true, true, true, true, true, true, true, true, true, true, true, true, true, true, true, true, true, true, true, true, true, true, true, true, true, true, true, true, true, true, true, true, true, true, true, true] rfl rfl (any_of HT_.out (by kernel_rfl)) (fun _ _ _ h => h) (Or.inl ⟨by rfl, ?_⟩) ?_ ?_
                                  rotate_left
                                  · intro w'
                                    go_simp
                                    with_reducible rfl
                                  rotate_left
                                  · simp only [Act.put, List.setIfInBounds_toArray, List.set_cons_zero, List.set_cons_succ, i64_w, i32_w]
                                    rfl
                                  refine done_ (done_of HT_.out (by kernel_rfl)) ?_
                                  try go_wp2
                                  go_roundg k4
                                  case measure => have := HJ8.out; have := HJ17.out; have := HJ26.out; have := HK4.out; omega
                                  case rel => exact ⟨(wrap64 (x15_4 + 1)), (by first | rfl | (simp; done) | (simp [*]; done)), H', ⟨by have := HJ8.out; have := HJ17.out; have := HJ26.out; have := HK4.out; omega⟩, ⟨by (try simp only [hl13_26]); (with_reducible repeat (first | apply Kd.R_alloc | apply Kd.R_drewN | apply Kd.R_drew)); exact HO_9.out⟩, ⟨by (try simp only [hl13_26]); (with_reducible repeat (first | apply Kd.R_alloc | apply Kd.R_drewN | apply Kd.R_drew)); exact HO_10.out⟩, ⟨by (try simp only [hl13_26]); (with_reducible repeat (first | apply Kd.N_alloc | apply Kd.N_drewN | apply Kd.N_drew)); exact HO_14.out⟩, ⟨by repeat (first | (with_reducible first | exact HB.out | apply below_alloc | apply pw_below_drewN | apply below_drew1) | exact HB.out)⟩⟩
                          · rw [if_neg c53] at H
                            exact absurd H (by simp)
                        · rw [if_neg c52] at H
                          have c52b0 : decide (x15_4 < (y153.length : Int)) = false := decide_eq_false c52
                          clear c52
                          obtain rfl := Option.some.inj H
                          obtain ⟨Ao69, co69, eo69⟩ := Kd.N_slice HO_14.out
                          subst eo69
                          go_wp2
                          go_ret
                          exact ⟨by first | rfl | (simp [errW_none, errW_some] <;> rfl) | (simp [*, errW_none, errW_some] <;> rfl), by repeat (first | (with_reducible first | exact HB.out | apply below_alloc | apply pw_below_drewN | apply below_drew1) | exact HB.out)⟩
              · rw [if_neg c26] at H
                exact absurd H (by simp)
  · replace c6 := Bool.eq_false_iff.mpr c6
    subst c6
    have H1 : (some false) = some r := by rw [if_neg (show ¬ (false = true) by decide)] at H; exact H
    clear H
    have H := H1
    clear H1
    obtain rfl := Option.some.inj H
    exact absurd hT_.out (by simp)

/-- THE ONE PURE STATEMENT of joinerylaw2_MarkSets: yours. -/
def joinerylaw2_MarkSets.Pure : Prop := ∀ (l0 : List Int) (l1 : List Int) (a2 : ByteArray) (a3 : Int), l0.length ≤ maxLen → l0.length * 8 ≤ 140737488351232 → (∀ x ∈ l0, (Lit.int .i64 x).wf = true) → l1.length ≤ maxLen → l1.length * 8 ≤ 140737488351232 → (∀ x ∈ l1, (Lit.int .i64 x).wf = true) → a2.size ≤ 140737488351232 → (Lit.int .i64 a3).wf = true → ∃ k, joinerylaw2_MarkSets.f k l0 l1 a2 a3 = some true
theorem joinerylaw2_MarkSets.walk (P : joinerylaw2_MarkSets.Pure) (a0 : Option Addr) (len0 cap0 : Nat) (z0 : List Int) (a1 : Option Addr) (len1 cap1 : Nat) (z1 : List Int) (a2 : ByteArray) (a3 : Int) (w : World) (w0 : (a0 = none ∧ len0 = 0 ∧ cap0 = 0 ∧ z0 = []) ∨ ∃ x, a0 = some x ∧ len0 ≤ cap0 ∧ cap0 ≤ maxLen ∧ z0.length = cap0 ∧ (∀ i, i < z0.length → w.cell? (x.add i) = some (.int .i64 (z0.getD i 0))) ∧ ∀ n ∈ z0, (Lit.int .i64 n).wf = true) (y0 : len0 * 8 ≤ 140737488351232) (w1 : (a1 = none ∧ len1 = 0 ∧ cap1 = 0 ∧ z1 = []) ∨ ∃ x, a1 = some x ∧ len1 ≤ cap1 ∧ cap1 ≤ maxLen ∧ z1.length = cap1 ∧ (∀ i, i < z1.length → w.cell? (x.add i) = some (.int .i64 (z1.getD i 0))) ∧ ∀ n ∈ z1, (Lit.int .i64 n).wf = true) (y1 : len1 * 8 ≤ 140737488351232) (w2 : a2.size ≤ 140737488351232) (w3 : (Lit.int .i64 a3).wf = true) :
    Calls Try.prog 10 #[.slice a0 len0 cap0, .slice a1 len1 cap1, .string a2, .int .i64 a3] w fun e w' => e = .returned (.bool true) ∧ Below w.heap.size w w' := by
  obtain ⟨l0, rfl, hr0, hm0, hw0, hc0⟩ := ReadsInt.ofRowC w0
  obtain ⟨l1, rfl, hr1, hm1, hw1, hc1⟩ := ReadsInt.ofRowC w1
  obtain ⟨k, h⟩ := P l0 l1 a2 a3 hm0 y0 hw0 hm1 y1 hw1 w2 w3
  refine (joinerylaw2_MarkSets.calls k _ _ l0 _ _ l1 a2 a3 true w (Kd.C_of_reads (d := (0 : Int)) (h1 := fun _ => rfl) hr0) hc0 (Kd.C_of_reads (d := (0 : Int)) (h1 := fun _ => rfl) hr1) hc1 ⟨rfl⟩ h).mono ?_
  rintro e w' ⟨rfl, hd⟩
  exact ⟨rfl, hd⟩

end Go.Proofs.Ytocndmgimcmfaaa.S
