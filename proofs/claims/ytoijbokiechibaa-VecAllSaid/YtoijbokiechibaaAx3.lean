-- Printed by wip/tools/gprint.py (the kit's print, hand-proved contracts laid in): functions of the program as Lean functions, each with the proof that the machine's call comes to its answer.
import Derived.Test.YtoijbokiechibaaAx0
import Derived.Test.YtoijbokiechibaaAx1
import Derived.Test.YtoijbokiechibaaAx2
namespace Go.Proofs.Ytoijbokiechibaa.A
open Go.RowKit Go.Proofs.Ytoijbokiechibaa.Base Go.Proofs.YtoijbokiechibaaW.PrintWords Go.Proofs.YtoijbokiechibaaW.PrintLast Go.Proofs.YtoijbokiechibaaW.PrintMore
attribute [local go_sem] max2_int min2_int max_two min_two max_three min_three max_four min_four   -- for this text's walks alone
set_option linter.unusedVariables false
set_option linter.unusedSimpArgs false

attribute [local go_sem high] eqA25
/-! ### joinerylaw1_VecAll: function 4 -/
mutual
def joinerylaw1_VecAll.l0 : Nat → List (S25) → Int → Option (Bool)
 | 0, _, _ => none
 | k + 1, x9, x10 => if x10 < (x9.length : Int) then (joinerylaw1_VecAll.l1 k x9 x10 0) else (some true)
def joinerylaw1_VecAll.l1 : Nat → List (S25) → Int → Int → Option (Bool)
 | 0, _, _, _ => none
 | k + 1, x9, x10, x11 => if x11 < (x9.length : Int) then (if 0 ≤ x10 then (if x10 < (x9.length : Int) then (if 0 ≤ x11 then ((vec_Add.f ((rd_T25 x9 x10).f0) ((rd_T25 x9 x10).f1) ((rd_T25 x9 x11).f0) ((rd_T25 x9 x11).f1)).bind fun bt140 => ((joineryref1_Add.f k ((rd_T25 x9 x10).f0) ((rd_T25 x9 x10).f1) ((rd_T25 x9 x11).f0) ((rd_T25 x9 x11).f1)).bind fun bt146 => ((vec_Sub.f ((rd_T25 x9 x10).f0) ((rd_T25 x9 x10).f1) ((rd_T25 x9 x11).f0) ((rd_T25 x9 x11).f1)).bind fun bt152 => ((joineryref1_Sub.f k ((rd_T25 x9 x10).f0) ((rd_T25 x9 x10).f1) ((rd_T25 x9 x11).f0) ((rd_T25 x9 x11).f1)).bind fun bt158 => (if (!(bt140.1 == bt146.1) || (!(bt140.2.1 == bt146.2.1))) = true then (some false) else (if bt140.2.2 = bt146.2.2 then (if (!(bt152.1 == bt158.1) || (!(bt152.2.1 == bt158.2.1))) = true then (some false) else (if bt152.2.2 = bt158.2.2 then ((vec_Fits.f ((rd_T25 x9 x10).f0) ((rd_T25 x9 x10).f1) ((rd_T25 x9 x11).f0) ((rd_T25 x9 x11).f1)).bind fun t164 => ((joineryref1_Fits.f ((rd_T25 x9 x10).f0) ((rd_T25 x9 x10).f1) ((rd_T25 x9 x11).f0) ((rd_T25 x9 x11).f1)).bind fun t167 => (if (t164 != t167) = true then (some false) else ((vec_Right.f ((rd_T25 x9 x10).f0) ((rd_T25 x9 x10).f1)).bind fun t169 => ((joineryref1_Right.f ((rd_T25 x9 x10).f0) ((rd_T25 x9 x10).f1)).bind fun t171 => (if (t169 != t171) = true then (some false) else (joinerylaw1_VecAll.l1 k x9 x10 (wrap64 (x11 + 1))))))))) else (some false))) else (some false))))))) else (none)) else (none)) else (none)) else (joinerylaw1_VecAll.l0 k x9 (wrap64 (x10 + 1)))
end
def joinerylaw1_VecAll.f (k : Nat) (a0 : Int) (a1 : Int) (a2 : Int) (a3 : Int) : Option (Bool) := (joinerylaw1_known.f).bind fun t129 => (if t129 = true then ((joinerylaw1_Edge.f a0).bind fun t130 => ((joinerylaw1_Edge.f a1).bind fun t131 => ((joinerylaw1_Edge.f a2).bind fun t132 => ((joinerylaw1_Edge.f a3).bind fun t133 => ((joinerylaw1_Edge.f a0).bind fun t134 => (joinerylaw1_VecAll.l0 k (([(⟨a0, a1⟩ : S25), (⟨a2, a3⟩ : S25), (⟨t130, t131⟩ : S25), (⟨t132, t133⟩ : S25), (⟨t134, 5⟩ : S25)] : List (S25))) 0)))))) else (some false))
theorem joinerylaw1_VecAll.mono_l : ∀ k, (∀ y0 y1, LeO (joinerylaw1_VecAll.l0 k y0 y1) (joinerylaw1_VecAll.l0 (k + 1) y0 y1)) ∧ (∀ y0 y1 y2, LeO (joinerylaw1_VecAll.l1 k y0 y1 y2) (joinerylaw1_VecAll.l1 (k + 1) y0 y1 y2))
 | 0 => ⟨fun _ _ r h => by simp [joinerylaw1_VecAll.l0] at h, fun _ _ _ r h => by simp [joinerylaw1_VecAll.l1] at h⟩
 | k + 1 => by
  obtain ⟨ih0, ih1⟩ := joinerylaw1_VecAll.mono_l k
  refine ⟨?_, ?_⟩
  ·intro y0 y1
   unfold joinerylaw1_VecAll.l0
   repeat' first
   | (with_reducible exact ih0 _ _)
   | (with_reducible exact ih1 _ _ _)
   | (with_reducible exact joineryref1_Add.mono _ _ _ _ _)
   | (with_reducible exact joineryref1_Sub.mono _ _ _ _ _)
   | (with_reducible exact LeO.refl _)
   | (with_reducible exact LeO.none _)
   | (with_reducible refine LeO.ite ?_ ?_)
   | (with_reducible refine LeO.bind ?_ (fun _ => ?_))
   | exact ih0 _ _
   | exact ih1 _ _ _
   | exact joineryref1_Add.mono _ _ _ _ _
   | exact joineryref1_Sub.mono _ _ _ _ _
   | exact LeO.none _
   | refine LeO.ite ?_ ?_
   | refine LeO.bind ?_ (fun _ => ?_)
  ·intro y0 y1 y2
   unfold joinerylaw1_VecAll.l1
   repeat' first
   | (with_reducible exact ih0 _ _)
   | (with_reducible exact ih1 _ _ _)
   | (with_reducible exact joineryref1_Add.mono _ _ _ _ _)
   | (with_reducible exact joineryref1_Sub.mono _ _ _ _ _)
   | (with_reducible exact LeO.refl _)
   | (with_reducible exact LeO.none _)
   | (with_reducible refine LeO.ite ?_ ?_)
   | (with_reducible refine LeO.bind ?_ (fun _ => ?_))
   | exact ih0 _ _
   | exact ih1 _ _ _
   | exact joineryref1_Add.mono _ _ _ _ _
   | exact joineryref1_Sub.mono _ _ _ _ _
   | exact LeO.none _
   | refine LeO.ite ?_ ?_
   | refine LeO.bind ?_ (fun _ => ?_)
theorem joinerylaw1_VecAll.mono : ∀ a0 a1 a2 a3 k, LeO (joinerylaw1_VecAll.f k a0 a1 a2 a3) (joinerylaw1_VecAll.f (k + 1) a0 a1 a2 a3) := by
 intro a0 a1 a2 a3 k
 obtain ⟨ih0, ih1⟩ := joinerylaw1_VecAll.mono_l k
 unfold joinerylaw1_VecAll.f
 repeat' first
   | (with_reducible exact ih0 _ _)
   | (with_reducible exact ih1 _ _ _)
   | (with_reducible exact joineryref1_Add.mono _ _ _ _ _)
   | (with_reducible exact joineryref1_Sub.mono _ _ _ _ _)
   | (with_reducible exact LeO.refl _)
   | (with_reducible exact LeO.none _)
   | (with_reducible refine LeO.ite ?_ ?_)
   | (with_reducible refine LeO.bind ?_ (fun _ => ?_))
   | exact ih0 _ _
   | exact ih1 _ _ _
   | exact joineryref1_Add.mono _ _ _ _ _
   | exact joineryref1_Sub.mono _ _ _ _ _
   | exact LeO.none _
   | refine LeO.ite ?_ ?_
   | refine LeO.bind ?_ (fun _ => ?_)
def joinerylaw1_VecAll.T10 : Bool × List (List Nat × List Nat) := (true, [([], []), ([], []), ([0, 1], [0, 1]), ([2], [2]), ([], []), ([], []), ([4, 5], [4, 5]), ([6], [6]), ([3, 7], [3, 7]), ([8], [8]), ([9], [9]), ([9], [9]), ([], []), ([12, 10, 8, 0, 1, 2, 3, 4, 5, 6, 7, 8, 9, 10, 12], [10, 12]), ([11, 13, 0, 1, 2, 3, 4, 5, 6, 7, 8, 9, 10, 11, 12, 13], [11])])
def joinerylaw1_VecAll.B10 : List Nat := [0, 0, 3, 7, 0, 0, 48, 112, 255, 511, 1023, 1023, 0, 6143, 16383]
theorem joinerylaw1_VecAll.tab10 : rtab .any (opsOf Try.f4 10) = joinerylaw1_VecAll.T10 := by kernel_rfl
theorem joinerylaw1_VecAll.bits10 : waitsOk joinerylaw1_VecAll.T10.2 joinerylaw1_VecAll.B10 = true := by kernel_rfl
def joinerylaw1_VecAll.T11 : Bool × List (List Nat × List Nat) := (true, [([], []), ([], []), ([0, 1], [0, 1]), ([2], [2]), ([], []), ([], []), ([4, 5], [4, 5]), ([6], [6]), ([3, 7], [3, 7]), ([8], [8]), ([9], [9]), ([9], [9]), ([], []), ([12, 10, 8, 0, 1, 2, 3, 4, 5, 6, 7, 8, 9, 10, 12], [10, 12]), ([11, 13, 0, 1, 2, 3, 4, 5, 6, 7, 8, 9, 10, 11, 12, 13], [11])])
def joinerylaw1_VecAll.B11 : List Nat := [0, 0, 3, 7, 0, 0, 48, 112, 255, 511, 1023, 1023, 0, 6143, 16383]
theorem joinerylaw1_VecAll.tab11 : rtab .any (opsOf Try.f4 11) = joinerylaw1_VecAll.T11 := by kernel_rfl
theorem joinerylaw1_VecAll.bits11 : waitsOk joinerylaw1_VecAll.T11.2 joinerylaw1_VecAll.B11 = true := by kernel_rfl
def joinerylaw1_VecAll.T12 : Bool × List (List Nat × List Nat) := (true, [([], []), ([], []), ([0, 1], [0, 1]), ([2], [2]), ([], []), ([], []), ([4, 5], [4, 5]), ([6], [6]), ([3, 7], [3, 7]), ([8], [8]), ([9], [9]), ([9], [9]), ([], []), ([12, 10, 8, 0, 1, 2, 3, 4, 5, 6, 7, 8, 9, 10, 12], [10, 12]), ([11, 13, 0, 1, 2, 3, 4, 5, 6, 7, 8, 9, 10, 11, 12, 13], [11])])
def joinerylaw1_VecAll.B12 : List Nat := [0, 0, 3, 7, 0, 0, 48, 112, 255, 511, 1023, 1023, 0, 6143, 16383]
theorem joinerylaw1_VecAll.tab12 : rtab .any (opsOf Try.f4 12) = joinerylaw1_VecAll.T12 := by kernel_rfl
theorem joinerylaw1_VecAll.bits12 : waitsOk joinerylaw1_VecAll.T12.2 joinerylaw1_VecAll.B12 = true := by kernel_rfl
def joinerylaw1_VecAll.T13 : Bool × List (List Nat × List Nat) := (true, [([], []), ([], []), ([0, 1], [0, 1]), ([2], [2]), ([], []), ([], []), ([4, 5], [4, 5]), ([6], [6]), ([3, 7], [3, 7]), ([8], [8]), ([9], [9]), ([9], [9]), ([], []), ([12, 10, 8, 0, 1, 2, 3, 4, 5, 6, 7, 8, 9, 10, 12], [10, 12]), ([11, 13, 0, 1, 2, 3, 4, 5, 6, 7, 8, 9, 10, 11, 12, 13], [11])])
def joinerylaw1_VecAll.B13 : List Nat := [0, 0, 3, 7, 0, 0, 48, 112, 255, 511, 1023, 1023, 0, 6143, 16383]
theorem joinerylaw1_VecAll.tab13 : rtab .any (opsOf Try.f4 13) = joinerylaw1_VecAll.T13 := by kernel_rfl
theorem joinerylaw1_VecAll.bits13 : waitsOk joinerylaw1_VecAll.T13.2 joinerylaw1_VecAll.B13 = true := by kernel_rfl
def joinerylaw1_VecAll.T14 : Bool × List (List Nat × List Nat) := (true, [([], []), ([], []), ([0, 1], [0, 1]), ([2], [2]), ([3], [3]), ([3], [3]), ([4, 5, 3], [3, 4, 5]), ([3, 6], [3, 6]), ([7, 3], [7]), ([8], [8]), ([8], [8]), ([9, 10, 8], [8, 9, 10]), ([8, 11], [8, 11]), ([12, 8], [12]), ([13], [13]), ([13], [13]), ([14, 15, 13], [13, 14, 15]), ([13, 16], [13, 16]), ([17, 13], [17]), ([18], [18]), ([18], [18]), ([19, 20, 18], [18, 19, 20]), ([21, 18], [18, 21]), ([18], [18]), ([18], [18]), ([23, 24, 18], [18, 23, 24]), ([25, 18], [18, 25]), ([22, 26, 18, 18], [18, 22, 26]), ([18], [18]), ([18], [18]), ([28, 29, 18], [18, 28, 29]), ([30, 18], [18, 30]), ([18], [18]), ([18], [18]), ([32, 33, 18], [18, 32, 33]), ([34, 18], [18, 34]), ([31, 35, 27, 18], [18, 31, 35]), ([27, 36, 18], [18, 27, 36]), ([18, 37], [18, 37]), ([38, 36], [38]), ([39], [39]), ([39], [39]), ([40, 41, 39], [39, 40, 41]), ([42, 39], [39, 42]), ([43, 39, 39], [39, 43]), ([39], [39]), ([39], [39]), ([45, 46, 39], [39, 45, 46]), ([47, 39], [39, 47]), ([48, 44, 39], [39, 48]), ([44, 49, 39], [39, 44, 49]), ([39, 50], [39, 50])])
def joinerylaw1_VecAll.B14 : List Nat := [0, 0, 3, 7, 15, 15, 63, 127, 255, 511, 511, 2047, 4095, 8191, 16383, 16383, 65535, 131071, 262143, 524287, 524287, 2097151, 4194303, 524287, 524287, 25690111, 59244543, 134217727, 524287, 524287, 805830655, 1879572479, 524287, 524287, 12885426175, 30065295359, 68719476735, 137438953471, 274877906943, 549755813887, 1099511627775, 1099511627775, 4398046511103, 8796093022207, 17592186044415, 1099511627775, 1099511627775, 106652627894271, 247390116249599, 562949953421311, 1125899906842623, 2251799813685247]
theorem joinerylaw1_VecAll.tab14 : rtab .any (opsOf Try.f4 14) = joinerylaw1_VecAll.T14 := by kernel_rfl
theorem joinerylaw1_VecAll.bits14 : waitsOk joinerylaw1_VecAll.T14.2 joinerylaw1_VecAll.B14 = true := by kernel_rfl
set_option maxHeartbeats 8000000 in
set_option maxRecDepth 100000 in
theorem joinerylaw1_VecAll.calls (k : Nat) (a0 : Int) (a1 : Int) (a2 : Int) (a3 : Int) (r : Bool) (w : World) (hT_ : Aside0 (r = true)) (h : joinerylaw1_VecAll.f k a0 a1 a2 a3 = some r) :
  Calls Try.prog 4 #[.int .i64 a0, .int .i64 a1, .int .i64 a2, .int .i64 a3] w fun e w' => e = .returned (.bool r) ∧ Below w.heap.size w w' := by
 have hu25 := Try.underlying25
 have HB := Aside0.mk (Below.refl w.heap.size w)
 have H : ((joinerylaw1_known.f).bind fun t129 => (if t129 = true then ((joinerylaw1_Edge.f a0).bind fun t130 => ((joinerylaw1_Edge.f a1).bind fun t131 => ((joinerylaw1_Edge.f a2).bind fun t132 => ((joinerylaw1_Edge.f a3).bind fun t133 => ((joinerylaw1_Edge.f a0).bind fun t134 => (joinerylaw1_VecAll.l0 k (([(⟨a0, a1⟩ : S25), (⟨a2, a3⟩ : S25), (⟨t130, t131⟩ : S25), (⟨t132, t133⟩ : S25), (⟨t134, 5⟩ : S25)] : List (S25))) 0)))))) else (some false))) = some r := h
 clear h
 replace H := Option.bind_eq_some_iff.mp H
 obtain ⟨t129, A50, H⟩ := H
 replace H : (if t129 = true then ((joinerylaw1_Edge.f a0).bind fun t130 => ((joinerylaw1_Edge.f a1).bind fun t131 => ((joinerylaw1_Edge.f a2).bind fun t132 => ((joinerylaw1_Edge.f a3).bind fun t133 => ((joinerylaw1_Edge.f a0).bind fun t134 => (joinerylaw1_VecAll.l0 k (([(⟨a0, a1⟩ : S25), (⟨a2, a3⟩ : S25), (⟨t130, t131⟩ : S25), (⟨t132, t133⟩ : S25), (⟨t134, 5⟩ : S25)] : List (S25))) 0)))))) else (some false)) = some r := H
 have A5 := Aside0.mk A50
 clear A50
 by_cases c6 : t129 = true
 ·subst c6
  have H1 : ((joinerylaw1_Edge.f a0).bind fun t130 => ((joinerylaw1_Edge.f a1).bind fun t131 => ((joinerylaw1_Edge.f a2).bind fun t132 => ((joinerylaw1_Edge.f a3).bind fun t133 => ((joinerylaw1_Edge.f a0).bind fun t134 => (joinerylaw1_VecAll.l0 k (([(⟨a0, a1⟩ : S25), (⟨a2, a3⟩ : S25), (⟨t130, t131⟩ : S25), (⟨t132, t133⟩ : S25), (⟨t134, 5⟩ : S25)] : List (S25))) 0)))))) = some r := by rw [if_pos rfl] at H; exact H
  clear H
  have H := H1
  clear H1
  replace H := Option.bind_eq_some_iff.mp H
  obtain ⟨t130, A70, H⟩ := H
  replace H : ((joinerylaw1_Edge.f a1).bind fun t131 => ((joinerylaw1_Edge.f a2).bind fun t132 => ((joinerylaw1_Edge.f a3).bind fun t133 => ((joinerylaw1_Edge.f a0).bind fun t134 => (joinerylaw1_VecAll.l0 k (([(⟨a0, a1⟩ : S25), (⟨a2, a3⟩ : S25), (⟨t130, t131⟩ : S25), (⟨t132, t133⟩ : S25), (⟨t134, 5⟩ : S25)] : List (S25))) 0))))) = some r := H
  have A7 := Aside0.mk A70
  clear A70
  replace H := Option.bind_eq_some_iff.mp H
  obtain ⟨t131, A80, H⟩ := H
  replace H : ((joinerylaw1_Edge.f a2).bind fun t132 => ((joinerylaw1_Edge.f a3).bind fun t133 => ((joinerylaw1_Edge.f a0).bind fun t134 => (joinerylaw1_VecAll.l0 k (([(⟨a0, a1⟩ : S25), (⟨a2, a3⟩ : S25), (⟨t130, t131⟩ : S25), (⟨t132, t133⟩ : S25), (⟨t134, 5⟩ : S25)] : List (S25))) 0)))) = some r := H
  have A8 := Aside0.mk A80
  clear A80
  replace H := Option.bind_eq_some_iff.mp H
  obtain ⟨t132, A90, H⟩ := H
  replace H : ((joinerylaw1_Edge.f a3).bind fun t133 => ((joinerylaw1_Edge.f a0).bind fun t134 => (joinerylaw1_VecAll.l0 k (([(⟨a0, a1⟩ : S25), (⟨a2, a3⟩ : S25), (⟨t130, t131⟩ : S25), (⟨t132, t133⟩ : S25), (⟨t134, 5⟩ : S25)] : List (S25))) 0))) = some r := H
  have A9 := Aside0.mk A90
  clear A90
  replace H := Option.bind_eq_some_iff.mp H
  obtain ⟨t133, A100, H⟩ := H
  replace H : ((joinerylaw1_Edge.f a0).bind fun t134 => (joinerylaw1_VecAll.l0 k (([(⟨a0, a1⟩ : S25), (⟨a2, a3⟩ : S25), (⟨t130, t131⟩ : S25), (⟨t132, t133⟩ : S25), (⟨t134, 5⟩ : S25)] : List (S25))) 0)) = some r := H
  have A10 := Aside0.mk A100
  clear A100
  replace H := Option.bind_eq_some_iff.mp H
  obtain ⟨t134, A110, H⟩ := H
  replace H : (joinerylaw1_VecAll.l0 k (([(⟨a0, a1⟩ : S25), (⟨a2, a3⟩ : S25), (⟨t130, t131⟩ : S25), (⟨t132, t133⟩ : S25), (⟨t134, 5⟩ : S25)] : List (S25))) 0) = some r := H
  have A11 := Aside0.mk A110
  clear A110
  obtain ⟨y135, hy135⟩ : ∃ y_ : List (S25), y_ = (([(⟨a0, a1⟩ : S25), (⟨a2, a3⟩ : S25), (⟨t130, t131⟩ : S25), (⟨t132, t133⟩ : S25), (⟨t134, 5⟩ : S25)] : List (S25))) := ⟨_, rfl⟩
  replace H : (joinerylaw1_VecAll.l0 k y135 0) = some r := by first | (rw [hy135]; with_reducible exact H) | (have H2_ := (Option.bind_some _ _).symm.trans H; rw [hy135]; with_reducible exact H2_) | (have H2_ := (Option.bind_some _ _).symm.trans H; with_reducible exact H2_) | with_reducible exact H | (rw [hy135]; exact H) | exact H
  have Ny135 := Aside0.mk hy135
  clear hy135
  have H' := Aside0.mk H
  clear H
  go_enter Try.func4, Try.ntmps4
  go_wp2_with (first | ((with_reducible refine gate_callee (f := 11) rfl ?_); refine goesL_ (some 20) rfl rfl Try.func11 (by kernel_rfl) rfl #[] rfl (by (try simp only [List.map_toArray, List.map_cons, List.map_nil]); first | done | rfl | (simp only [List.length_drop, List.length_take]; rfl)) ?_; (with_reducible refine (joinerylaw1_known.calls  true _ A5.out).mono ?_); rintro e w12 ⟨rfl, hb⟩; refine ⟨_, rfl, ?_⟩; have n0_ := Aside0.mk (below_step (by repeat (first | (with_reducible first | exact HB.out | apply below_alloc | apply pw_below_drewN | apply below_drew1) | exact HB.out)) hb); clear HB; have HB := n0_; clear n0_; (try clear hb); (try clear hb2); (try clear hk); (try clear hi)) | ((with_reducible refine gate_callee (f := 15) rfl ?_); refine goesL_ (some 29) rfl rfl Try.func15 (by kernel_rfl) rfl #[.int .i64 a0] rfl (by (try simp only [List.map_toArray, List.map_cons, List.map_nil]); first | done | rfl | (simp only [List.length_drop, List.length_take]; rfl)) ?_; (with_reducible refine (joinerylaw1_Edge.calls a0 t130 _ A7.out).mono ?_); rintro e w13 ⟨rfl, hb⟩; refine ⟨_, rfl, ?_⟩; have n0_ := Aside0.mk (below_step (by repeat (first | (with_reducible first | exact HB.out | apply below_alloc | apply pw_below_drewN | apply below_drew1) | exact HB.out)) hb); clear HB; have HB := n0_; clear n0_; (try clear hb); (try clear hb2); (try clear hk); (try clear hi)) | ((with_reducible refine gate_callee (f := 15) rfl ?_); refine goesL_ (some 31) rfl rfl Try.func15 (by kernel_rfl) rfl #[.int .i64 a1] rfl (by (try simp only [List.map_toArray, List.map_cons, List.map_nil]); first | done | rfl | (simp only [List.length_drop, List.length_take]; rfl)) ?_; (with_reducible refine (joinerylaw1_Edge.calls a1 t131 _ A8.out).mono ?_); rintro e w14 ⟨rfl, hb⟩; refine ⟨_, rfl, ?_⟩; have n0_ := Aside0.mk (below_step (by repeat (first | (with_reducible first | exact HB.out | apply below_alloc | apply pw_below_drewN | apply below_drew1) | exact HB.out)) hb); clear HB; have HB := n0_; clear n0_; (try clear hb); (try clear hb2); (try clear hk); (try clear hi)) | ((with_reducible refine gate_callee (f := 15) rfl ?_); refine goesL_ (some 34) rfl rfl Try.func15 (by kernel_rfl) rfl #[.int .i64 a2] rfl (by (try simp only [List.map_toArray, List.map_cons, List.map_nil]); first | done | rfl | (simp only [List.length_drop, List.length_take]; rfl)) ?_; (with_reducible refine (joinerylaw1_Edge.calls a2 t132 _ A9.out).mono ?_); rintro e w15 ⟨rfl, hb⟩; refine ⟨_, rfl, ?_⟩; have n0_ := Aside0.mk (below_step (by repeat (first | (with_reducible first | exact HB.out | apply below_alloc | apply pw_below_drewN | apply below_drew1) | exact HB.out)) hb); clear HB; have HB := n0_; clear n0_; (try clear hb); (try clear hb2); (try clear hk); (try clear hi)) | ((with_reducible refine gate_callee (f := 15) rfl ?_); refine goesL_ (some 36) rfl rfl Try.func15 (by kernel_rfl) rfl #[.int .i64 a3] rfl (by (try simp only [List.map_toArray, List.map_cons, List.map_nil]); first | done | rfl | (simp only [List.length_drop, List.length_take]; rfl)) ?_; (with_reducible refine (joinerylaw1_Edge.calls a3 t133 _ A10.out).mono ?_); rintro e w16 ⟨rfl, hb⟩; refine ⟨_, rfl, ?_⟩; have n0_ := Aside0.mk (below_step (by repeat (first | (with_reducible first | exact HB.out | apply below_alloc | apply pw_below_drewN | apply below_drew1) | exact HB.out)) hb); clear HB; have HB := n0_; clear n0_; (try clear hb); (try clear hb2); (try clear hk); (try clear hi)) | ((with_reducible refine gate_callee (f := 15) rfl ?_); refine goesL_ (some 39) rfl rfl Try.func15 (by kernel_rfl) rfl #[.int .i64 a0] rfl (by (try simp only [List.map_toArray, List.map_cons, List.map_nil]); first | done | rfl | (simp only [List.length_drop, List.length_take]; rfl)) ?_; (with_reducible refine (joinerylaw1_Edge.calls a0 t134 _ A11.out).mono ?_); rintro e w17 ⟨rfl, hb⟩; refine ⟨_, rfl, ?_⟩; have n0_ := Aside0.mk (below_step (by repeat (first | (with_reducible first | exact HB.out | apply below_alloc | apply pw_below_drewN | apply below_drew1) | exact HB.out)) hb); clear HB; have HB := n0_; clear n0_; (try clear hb); (try clear hb2); (try clear hk); (try clear hi)) | ((with_reducible refine gate_dst (N := 41) rfl ?_); refine Kd.R_lit k25 _ 25 ?hg (N := 41) ?hd (xs := ([(⟨a0, a1⟩ : S25), (⟨a2, a3⟩ : S25), (⟨t130, t131⟩ : S25), (⟨t132, t133⟩ : S25), (⟨t134, 5⟩ : S25)] : List (S25))) (inner := [.int .i64 a0, .int .i64 a1, .int .i64 a2, .int .i64 a3, .int .i64 t130, .int .i64 t131, .int .i64 t132, .int .i64 t133, .int .i64 t134, .int .i64 5]) (ok := fun _ => True) (okp := fun _ => True) ?hr ?hp (fun _ hk => hk) trivial (Below.refl _ _) (Nat.le_refl _) (by simp) ?_; (case hd => rfl); (case hg => rfl); (case hr => first | (go_simp; done) | (go_simp; rfl)); (case hp => exact (Reps.c2 (show Kd.M k25 _ _ _ (⟨a0, a1⟩ : S25) [.int .i64 a0, .int .i64 a1] from (k25_mkM _ _ _ (⟨a0, a1⟩ : S25) )) (Reps.c2 (show Kd.M k25 _ _ _ (⟨a2, a3⟩ : S25) [.int .i64 a2, .int .i64 a3] from (k25_mkM _ _ _ (⟨a2, a3⟩ : S25) )) (Reps.c2 (show Kd.M k25 _ _ _ (⟨t130, t131⟩ : S25) [.int .i64 t130, .int .i64 t131] from (k25_mkM _ _ _ (⟨t130, t131⟩ : S25) )) (Reps.c2 (show Kd.M k25 _ _ _ (⟨t132, t133⟩ : S25) [.int .i64 t132, .int .i64 t133] from (k25_mkM _ _ _ (⟨t132, t133⟩ : S25) )) (Reps.c2 (show Kd.M k25 _ _ _ (⟨t134, 5⟩ : S25) [.int .i64 t134, .int .i64 5] from (k25_mkM _ _ _ (⟨t134, 5⟩ : S25) )) (Reps.none _ _))))))); intro v136 w18 ho19 hb hg_ hnew_; clear hg_ hnew_; (first | rw [← Ny135.out] at ho19 | (simp only [Int.reduceToNat] at ho19; rw [← Ny135.out] at ho19)); have n0_ := Aside0.mk (Kd.R_lower ho19 (below_size (by repeat (first | (with_reducible first | exact HB.out | apply below_alloc | apply pw_below_drewN | apply below_drew1) | exact HB.out)))); have n1_ := Aside0.mk (below_step (by repeat (first | (with_reducible first | exact HB.out | apply below_alloc | apply pw_below_drewN | apply below_drew1) | exact HB.out)) hb); clear HB; have HO137 := n0_; have HB := n1_; clear n0_ n1_; clear hb ho19))
  go_loopg [10] k (fun kq v10 w' => ∃ (x10_1 : Int), v10 = .int .i64 x10_1 ∧ Aside0 (joinerylaw1_VecAll.l0 kq y135 x10_1 = some r) ∧ Aside0 (kq ≤ k) ∧ Aside0 (Kd.R k25 25 w' w.heap.size (fun _ => True) v136 y135) ∧ Aside0 (Below w.heap.size w w'))
  case atStart => exact ⟨(0), (by first | rfl | (simp; done) | (simp [*]; done)), H', ⟨Nat.le_refl _⟩, ⟨by (with_reducible repeat (first | apply Kd.R_alloc | apply Kd.R_drewN | apply Kd.R_drew)); exact HO137.out⟩, ⟨by repeat (first | (with_reducible first | exact HB.out | apply below_alloc | apply pw_below_drewN | apply below_drew1) | exact HB.out)⟩⟩
  case round =>
   clear H'
   try clear c1
   try clear c2
   try clear p2
   try clear c4
   try clear c6
   try clear c11
   try clear c15
   obtain ⟨x10_1, rfl, HA, HK1, HO_9, HB⟩ := hrel
   cases gk with
   | zero => exact absurd HA.out (by simp [joinerylaw1_VecAll.l0])
   | succ k1 =>
    have H := HA.out
    clear HA
    simp only [joinerylaw1_VecAll.l0] at H
    by_cases c20 : x10_1 < (y135.length : Int)
    ·rw [if_pos c20] at H
     have c20b0 : decide (x10_1 < (y135.length : Int)) = true := decide_eq_true c20
     clear c20
     have H' := Aside0.mk H
     clear H
     obtain ⟨Ao21, co21, eo21⟩ := Kd.R_slice HO_9.out
     subst eo21
     go_wp2
     go_loopg [11] k1 (fun kq v11 w' => ∃ (x11_2 : Int), v11 = .int .i64 x11_2 ∧ Aside0 (joinerylaw1_VecAll.l1 kq y135 x10_1 x11_2 = some r) ∧ Aside0 (kq ≤ k1) ∧ Aside0 (Kd.R k25 25 w' w.heap.size (fun _ => True) (.slice Ao21 y135.length co21) y135) ∧ Aside0 (Below w.heap.size w w'))
     case atStart => exact ⟨(0), (by first | rfl | (simp; done) | (simp [*]; done)), H', ⟨Nat.le_refl _⟩, ⟨by (with_reducible repeat (first | apply Kd.R_alloc | apply Kd.R_drewN | apply Kd.R_drew)); exact HO_9.out⟩, ⟨by repeat (first | (with_reducible first | exact HB.out | apply below_alloc | apply pw_below_drewN | apply below_drew1) | exact HB.out)⟩⟩
     case round =>
      clear H'
      try clear c1
      try clear c2
      try clear p2
      try clear c4
      try clear c6
      try clear c11
      try clear c15
      try clear c20
      try clear c20b0
      try clear p2
      obtain ⟨x11_2, rfl, HA, HK2, HO_9, HB⟩ := hrel
      cases gk with
      | zero => exact absurd HA.out (by simp [joinerylaw1_VecAll.l1])
      | succ k2 =>
       have H := HA.out
       clear HA
       simp only [joinerylaw1_VecAll.l1] at H
       by_cases c22 : x11_2 < (y135.length : Int)
       ·rw [if_pos c22] at H
        have c22b0 : decide (x11_2 < (y135.length : Int)) = true := decide_eq_true c22
        clear c22
        by_cases c23 : 0 ≤ x10_1
        ·rw [if_pos c23] at H
         have c23b0 : decide (0 ≤ x10_1) = true := decide_eq_true c23
         clear c23
         by_cases c24 : x10_1 < (y135.length : Int)
         ·rw [if_pos c24] at H
          have c24b0 : decide (x10_1 < (y135.length : Int)) = true := decide_eq_true c24
          clear c24
          by_cases c25 : 0 ≤ x11_2
          ·rw [if_pos c25] at H
           have c25b0 : decide (0 ≤ x11_2) = true := decide_eq_true c25
           clear c25
           replace H := Option.bind_eq_some_iff.mp H
           obtain ⟨⟨t140, t141, t142⟩, A260, H⟩ := H
           replace H : ((joineryref1_Add.f k2 ((rd_T25 y135 x10_1).f0) ((rd_T25 y135 x10_1).f1) ((rd_T25 y135 x11_2).f0) ((rd_T25 y135 x11_2).f1)).bind fun bt146 => ((vec_Sub.f ((rd_T25 y135 x10_1).f0) ((rd_T25 y135 x10_1).f1) ((rd_T25 y135 x11_2).f0) ((rd_T25 y135 x11_2).f1)).bind fun bt152 => ((joineryref1_Sub.f k2 ((rd_T25 y135 x10_1).f0) ((rd_T25 y135 x10_1).f1) ((rd_T25 y135 x11_2).f0) ((rd_T25 y135 x11_2).f1)).bind fun bt158 => (if (!(t140 == bt146.1) || (!(t141 == bt146.2.1))) = true then (some false) else (if t142 = bt146.2.2 then (if (!(bt152.1 == bt158.1) || (!(bt152.2.1 == bt158.2.1))) = true then (some false) else (if bt152.2.2 = bt158.2.2 then ((vec_Fits.f ((rd_T25 y135 x10_1).f0) ((rd_T25 y135 x10_1).f1) ((rd_T25 y135 x11_2).f0) ((rd_T25 y135 x11_2).f1)).bind fun t164 => ((joineryref1_Fits.f ((rd_T25 y135 x10_1).f0) ((rd_T25 y135 x10_1).f1) ((rd_T25 y135 x11_2).f0) ((rd_T25 y135 x11_2).f1)).bind fun t167 => (if (t164 != t167) = true then (some false) else ((vec_Right.f ((rd_T25 y135 x10_1).f0) ((rd_T25 y135 x10_1).f1)).bind fun t169 => ((joineryref1_Right.f ((rd_T25 y135 x10_1).f0) ((rd_T25 y135 x10_1).f1)).bind fun t171 => (if (t169 != t171) = true then (some false) else (joinerylaw1_VecAll.l1 k2 y135 x10_1 (wrap64 (x11_2 + 1))))))))) else (some false))) else (some false)))))) = some r := H
           have A26 := Aside0.mk A260
           clear A260
           replace H := Option.bind_eq_some_iff.mp H
           obtain ⟨⟨t146, t147, t148⟩, A270, H⟩ := H
           replace H : ((vec_Sub.f ((rd_T25 y135 x10_1).f0) ((rd_T25 y135 x10_1).f1) ((rd_T25 y135 x11_2).f0) ((rd_T25 y135 x11_2).f1)).bind fun bt152 => ((joineryref1_Sub.f k2 ((rd_T25 y135 x10_1).f0) ((rd_T25 y135 x10_1).f1) ((rd_T25 y135 x11_2).f0) ((rd_T25 y135 x11_2).f1)).bind fun bt158 => (if (!(t140 == t146) || (!(t141 == t147))) = true then (some false) else (if t142 = t148 then (if (!(bt152.1 == bt158.1) || (!(bt152.2.1 == bt158.2.1))) = true then (some false) else (if bt152.2.2 = bt158.2.2 then ((vec_Fits.f ((rd_T25 y135 x10_1).f0) ((rd_T25 y135 x10_1).f1) ((rd_T25 y135 x11_2).f0) ((rd_T25 y135 x11_2).f1)).bind fun t164 => ((joineryref1_Fits.f ((rd_T25 y135 x10_1).f0) ((rd_T25 y135 x10_1).f1) ((rd_T25 y135 x11_2).f0) ((rd_T25 y135 x11_2).f1)).bind fun t167 => (if (t164 != t167) = true then (some false) else ((vec_Right.f ((rd_T25 y135 x10_1).f0) ((rd_T25 y135 x10_1).f1)).bind fun t169 => ((joineryref1_Right.f ((rd_T25 y135 x10_1).f0) ((rd_T25 y135 x10_1).f1)).bind fun t171 => (if (t169 != t171) = true then (some false) else (joinerylaw1_VecAll.l1 k2 y135 x10_1 (wrap64 (x11_2 + 1))))))))) else (some false))) else (some false))))) = some r := H
           have A27 := Aside0.mk A270
           clear A270
           replace H := Option.bind_eq_some_iff.mp H
           obtain ⟨⟨t152, t153, t154⟩, A280, H⟩ := H
           replace H : ((joineryref1_Sub.f k2 ((rd_T25 y135 x10_1).f0) ((rd_T25 y135 x10_1).f1) ((rd_T25 y135 x11_2).f0) ((rd_T25 y135 x11_2).f1)).bind fun bt158 => (if (!(t140 == t146) || (!(t141 == t147))) = true then (some false) else (if t142 = t148 then (if (!(t152 == bt158.1) || (!(t153 == bt158.2.1))) = true then (some false) else (if t154 = bt158.2.2 then ((vec_Fits.f ((rd_T25 y135 x10_1).f0) ((rd_T25 y135 x10_1).f1) ((rd_T25 y135 x11_2).f0) ((rd_T25 y135 x11_2).f1)).bind fun t164 => ((joineryref1_Fits.f ((rd_T25 y135 x10_1).f0) ((rd_T25 y135 x10_1).f1) ((rd_T25 y135 x11_2).f0) ((rd_T25 y135 x11_2).f1)).bind fun t167 => (if (t164 != t167) = true then (some false) else ((vec_Right.f ((rd_T25 y135 x10_1).f0) ((rd_T25 y135 x10_1).f1)).bind fun t169 => ((joineryref1_Right.f ((rd_T25 y135 x10_1).f0) ((rd_T25 y135 x10_1).f1)).bind fun t171 => (if (t169 != t171) = true then (some false) else (joinerylaw1_VecAll.l1 k2 y135 x10_1 (wrap64 (x11_2 + 1))))))))) else (some false))) else (some false)))) = some r := H
           have A28 := Aside0.mk A280
           clear A280
           replace H := Option.bind_eq_some_iff.mp H
           obtain ⟨⟨t158, t159, t160⟩, A290, H⟩ := H
           replace H : (if (!(t140 == t146) || (!(t141 == t147))) = true then (some false) else (if t142 = t148 then (if (!(t152 == t158) || (!(t153 == t159))) = true then (some false) else (if t154 = t160 then ((vec_Fits.f ((rd_T25 y135 x10_1).f0) ((rd_T25 y135 x10_1).f1) ((rd_T25 y135 x11_2).f0) ((rd_T25 y135 x11_2).f1)).bind fun t164 => ((joineryref1_Fits.f ((rd_T25 y135 x10_1).f0) ((rd_T25 y135 x10_1).f1) ((rd_T25 y135 x11_2).f0) ((rd_T25 y135 x11_2).f1)).bind fun t167 => (if (t164 != t167) = true then (some false) else ((vec_Right.f ((rd_T25 y135 x10_1).f0) ((rd_T25 y135 x10_1).f1)).bind fun t169 => ((joineryref1_Right.f ((rd_T25 y135 x10_1).f0) ((rd_T25 y135 x10_1).f1)).bind fun t171 => (if (t169 != t171) = true then (some false) else (joinerylaw1_VecAll.l1 k2 y135 x10_1 (wrap64 (x11_2 + 1))))))))) else (some false))) else (some false))) = some r := H
           have A29 := Aside0.mk A290
           clear A290
           by_cases c30 : (!(t140 == t146) || (!(t141 == t147))) = true
           ·rw [if_pos c30] at H
            have c30b0 : (!(t140 == t146) || (!(t141 == t147))) = true := c30
            clear c30
            obtain rfl := Option.some.inj H
            exact absurd hT_.out (by simp)
           ·rw [if_neg c30] at H
            have c30b0 : (!(t140 == t146) || (!(t141 == t147))) = false := by simpa using c30
            clear c30
            by_cases c31 : t142 = t148
            ·rw [if_pos c31] at H
             have c31b0 : (t142 == t148) = true := beq_iff_eq.mpr c31
             have c31b1 : (t142 != t148) = false := bne_eq_false_iff_eq.mpr c31
             clear c31
             by_cases c32 : (!(t152 == t158) || (!(t153 == t159))) = true
             ·rw [if_pos c32] at H
              have c32b0 : (!(t152 == t158) || (!(t153 == t159))) = true := c32
              clear c32
              obtain rfl := Option.some.inj H
              exact absurd hT_.out (by simp)
             ·rw [if_neg c32] at H
              have c32b0 : (!(t152 == t158) || (!(t153 == t159))) = false := by simpa using c32
              clear c32
              by_cases c33 : t154 = t160
              ·rw [if_pos c33] at H
               have c33b0 : (t154 == t160) = true := beq_iff_eq.mpr c33
               have c33b1 : (t154 != t160) = false := bne_eq_false_iff_eq.mpr c33
               clear c33
               replace H := Option.bind_eq_some_iff.mp H
               obtain ⟨t164, A340, H⟩ := H
               replace H : ((joineryref1_Fits.f ((rd_T25 y135 x10_1).f0) ((rd_T25 y135 x10_1).f1) ((rd_T25 y135 x11_2).f0) ((rd_T25 y135 x11_2).f1)).bind fun t167 => (if (t164 != t167) = true then (some false) else ((vec_Right.f ((rd_T25 y135 x10_1).f0) ((rd_T25 y135 x10_1).f1)).bind fun t169 => ((joineryref1_Right.f ((rd_T25 y135 x10_1).f0) ((rd_T25 y135 x10_1).f1)).bind fun t171 => (if (t169 != t171) = true then (some false) else (joinerylaw1_VecAll.l1 k2 y135 x10_1 (wrap64 (x11_2 + 1)))))))) = some r := H
               have A34 := Aside0.mk A340
               clear A340
               replace H := Option.bind_eq_some_iff.mp H
               obtain ⟨t167, A350, H⟩ := H
               replace H : (if (t164 != t167) = true then (some false) else ((vec_Right.f ((rd_T25 y135 x10_1).f0) ((rd_T25 y135 x10_1).f1)).bind fun t169 => ((joineryref1_Right.f ((rd_T25 y135 x10_1).f0) ((rd_T25 y135 x10_1).f1)).bind fun t171 => (if (t169 != t171) = true then (some false) else (joinerylaw1_VecAll.l1 k2 y135 x10_1 (wrap64 (x11_2 + 1))))))) = some r := H
               have A35 := Aside0.mk A350
               clear A350
               by_cases c36 : (t164 != t167) = true
               ·rw [if_pos c36] at H
                have c36b0 : (t164 != t167) = true := c36
                (try (have c36b1 : decide (t164 = t167) = false := by simpa using c36))
                (try (have c36b2 : (t164 == t167) = false := by simpa using c36))
                (try (have c36b3 : ¬ (t164 = t167) := by simpa using c36))
                clear c36
                obtain rfl := Option.some.inj H
                exact absurd hT_.out (by simp)
               ·rw [if_neg c36] at H
                have c36b0 : (t164 != t167) = false := by simpa using c36
                (try (have c36b1 : decide (t164 = t167) = true := by simpa using c36))
                (try (have c36b2 : (t164 == t167) = true := by simpa using c36))
                clear c36
                replace H := Option.bind_eq_some_iff.mp H
                obtain ⟨t169, A370, H⟩ := H
                replace H : ((joineryref1_Right.f ((rd_T25 y135 x10_1).f0) ((rd_T25 y135 x10_1).f1)).bind fun t171 => (if (t169 != t171) = true then (some false) else (joinerylaw1_VecAll.l1 k2 y135 x10_1 (wrap64 (x11_2 + 1))))) = some r := H
                have A37 := Aside0.mk A370
                clear A370
                replace H := Option.bind_eq_some_iff.mp H
                obtain ⟨t171, A380, H⟩ := H
                replace H : (if (t169 != t171) = true then (some false) else (joinerylaw1_VecAll.l1 k2 y135 x10_1 (wrap64 (x11_2 + 1)))) = some r := H
                have A38 := Aside0.mk A380
                clear A380
                by_cases c39 : (t169 != t171) = true
                ·rw [if_pos c39] at H
                 have c39b0 : (t169 != t171) = true := c39
                 (try (have c39b1 : decide (t169 = t171) = false := by simpa using c39))
                 (try (have c39b2 : (t169 == t171) = false := by simpa using c39))
                 (try (have c39b3 : ¬ (t169 = t171) := by simpa using c39))
                 clear c39
                 obtain rfl := Option.some.inj H
                 exact absurd hT_.out (by simp)
                ·rw [if_neg c39] at H
                 have c39b0 : (t169 != t171) = false := by simpa using c39
                 (try (have c39b1 : decide (t169 = t171) = true := by simpa using c39))
                 (try (have c39b2 : (t169 == t171) = true := by simpa using c39))
                 clear c39
                 have H' := Aside0.mk H
                 clear H
                 try go_wp2
                 have n0_ := Aside0.mk (Kd.R_drew HO_9.out)
                 have n1_ := Aside0.mk (below_drew1 HB.out)
                 clear HO_9
                 clear HB
                 have HO_9 := n0_
                 have HB := n1_
                 clear n0_ n1_
                 have p138 : 0 ≤ (x10_1 : Int) := of_decide_eq_true (by first | (with_reducible assumption) | assumption)
                 have q138 : x10_1 < (y135.length : Int) := of_decide_eq_true (by first | (with_reducible assumption) | assumption)
                 obtain ⟨ad138, e138, hx138_0, hx138_1⟩ := at_T25 (Kd.R_reads' HO_9.out).2.2 x10_1 p138 q138
                 cases e138
                 replace p138 := eq_true p138
                 replace q138 := eq_true q138
                 have p139 : 0 ≤ (x11_2 : Int) := of_decide_eq_true (by first | (with_reducible assumption) | assumption)
                 have q139 : x11_2 < (y135.length : Int) := of_decide_eq_true (by first | (with_reducible assumption) | assumption)
                 obtain ⟨ad139, e139, hx139_0, hx139_1⟩ := at_T25 (Kd.R_reads' HO_9.out).2.2 x11_2 p139 q139
                 obtain rfl : ad138 = ad139 := (by injection e139)
                 replace p139 := eq_true p139
                 replace q139 := eq_true q139
                 refine start_ (n := 15) (S := fun w' => w'.cell? (ad138.add ((x10_1).toNat * 2)) = some (.int .i64 ((rd_T25 y135 x10_1).f0)) ∧ w'.cell? ⟨(ad138.add ((x10_1).toNat * 2)).block, (ad138.add ((x10_1).toNat * 2)).off + 1, none⟩ = some (.int .i64 ((rd_T25 y135 x10_1).f1)) ∧ w'.cell? (ad138.add ((x11_2).toNat * 2)) = some (.int .i64 ((rd_T25 y135 x11_2).f0)) ∧ w'.cell? ⟨(ad138.add ((x11_2).toNat * 2)).block, (ad138.add ((x11_2).toNat * 2)).off + 1, none⟩ = some (.int .i64 ((rd_T25 y135 x11_2).f1))) (ds := []) #[false, false, false, false, false, false, false, false, false, false, false, false, false, false, false] (by kernel_rfl) rfl rfl ⟨hx138_0, hx138_1, hx139_0, hx139_1⟩ (fun hHeld => ?_); refine with_tabW joinerylaw1_VecAll.tab10 joinerylaw1_VecAll.bits10 (fun HT_ HW_ => ?_)
                 generalize wr.drew = w40 at HO_9 HB hx138_0 hx138_1 hx139_0 hx139_1 hHeld ⊢
                 refine pure_ (i := 0) (N := some 55) (v := ?_) (a' := ?_) #[true, false, false, false, false, false, false, false, false, false, false, false, false, false, false] rfl rfl (any_of HT_.out (by kernel_rfl)) (fun _ _ _ h => h) (Or.inl ⟨by rfl, ?_⟩) ?_ ?_
                 rotate_left
                 ·intro w'
                  go_simp
                  with_reducible rfl
                 rotate_left
                 ·simp only [Act.put, List.setIfInBounds_toArray, List.set_cons_zero, List.set_cons_succ, i64_w, i32_w]
                  rfl
                 refine pure_ (i := 1) (N := some 56) (v := ?_) (a' := ?_) #[true, true, false, false, false, false, false, false, false, false, false, false, false, false, false] rfl rfl (any_of HT_.out (by kernel_rfl)) (fun _ _ _ h => h) (Or.inl ⟨by rfl, ?_⟩) ?_ ?_
                 rotate_left
                 ·intro w'
                  go_simp
                  with_reducible rfl
                 rotate_left
                 ·simp only [Act.put, List.setIfInBounds_toArray, List.set_cons_zero, List.set_cons_succ, i64_w, i32_w]
                  rfl
                 refine pure_ (i := 2) (N := some 57) (v := ?_) (a' := ?_) #[true, true, true, false, false, false, false, false, false, false, false, false, false, false, false] rfl rfl (any_of HT_.out (by kernel_rfl)) (fun _ _ _ h => h) (Or.inl ⟨by rfl, ?_⟩) ?_ ?_
                 rotate_left
                 ·intro w'
                  go_simp
                  with_reducible rfl
                 rotate_left
                 ·simp only [Act.put, List.setIfInBounds_toArray, List.set_cons_zero, List.set_cons_succ, i64_w, i32_w]
                  rfl
                 refine pure_ (i := 4) (N := some 59) (v := ?_) (a' := ?_) #[true, true, true, false, true, false, false, false, false, false, false, false, false, false, false] rfl rfl (any_of HT_.out (by kernel_rfl)) (fun _ _ _ h => h) (Or.inl ⟨by rfl, ?_⟩) ?_ ?_
                 rotate_left
                 ·intro w'
                  go_simp
                  with_reducible rfl
                 rotate_left
                 ·simp only [Act.put, List.setIfInBounds_toArray, List.set_cons_zero, List.set_cons_succ, i64_w, i32_w]
                  rfl
                 refine pure_ (i := 5) (N := some 60) (v := ?_) (a' := ?_) #[true, true, true, false, true, true, false, false, false, false, false, false, false, false, false] rfl rfl (any_of HT_.out (by kernel_rfl)) (fun _ _ _ h => h) (Or.inl ⟨by rfl, ?_⟩) ?_ ?_
                 rotate_left
                 ·intro w'
                  go_simp
                  with_reducible rfl
                 rotate_left
                 ·simp only [Act.put, List.setIfInBounds_toArray, List.set_cons_zero, List.set_cons_succ, i64_w, i32_w]
                  rfl
                 refine pure_ (i := 6) (N := some 61) (v := ?_) (a' := ?_) #[true, true, true, false, true, true, true, false, false, false, false, false, false, false, false] rfl rfl (any_of HT_.out (by kernel_rfl)) (fun _ _ _ h => h) (Or.inl ⟨by rfl, ?_⟩) ?_ ?_
                 rotate_left
                 ·intro w'
                  go_simp
                  with_reducible rfl
                 rotate_left
                 ·simp only [Act.put, List.setIfInBounds_toArray, List.set_cons_zero, List.set_cons_succ, i64_w, i32_w]
                  rfl
                 refine take_ (i := 3) (N := some 58) (v := ?_) (a' := ?_) #[true, true, true, true, true, true, true, false, false, false, false, false, false, false, false] rfl rfl (take_ofW HT_.out HW_.out (by kernel_rfl)) (fun _ _ _ h => h) (Or.inl ⟨by rfl, ?_⟩) hHeld ?_ ?_
                 rotate_left
                 ·rintro w' ⟨s0, s1, s2, s3⟩
                  go_simp
                  with_reducible rfl
                 rotate_left
                 ·simp only [Act.put, List.setIfInBounds_toArray, List.set_cons_zero, List.set_cons_succ, i64_w, i32_w]
                  rfl
                 refine take_ (i := 7) (N := some 62) (v := ?_) (a' := ?_) #[true, true, true, true, true, true, true, true, false, false, false, false, false, false, false] rfl rfl (take_ofW HT_.out HW_.out (by kernel_rfl)) (fun _ _ _ h => h) (Or.inl ⟨by rfl, ?_⟩) hHeld ?_ ?_
                 rotate_left
                 ·rintro w' ⟨s0, s1, s2, s3⟩
                  go_simp
                  with_reducible rfl
                 rotate_left
                 ·simp only [Act.put, List.setIfInBounds_toArray, List.set_cons_zero, List.set_cons_succ, i64_w, i32_w]
                  rfl
                 refine join_ (σ := Nat) 2 #[true, true, true, true, true, true, true, true, true, true, true, true, true, false, false] (fun s_ => [(63, .tuple #[.agg #[.int .i64 t140, .int .i64 t141], .int .i64 t142]), (12, .pointer (some ⟨s_, 0, none⟩)), (54, .tuple #[.agg #[.int .i64 t140, .int .i64 t141], .int .i64 t142]), (64, .agg #[.int .i64 t140, .int .i64 t141]), (65, .int .i64 t142)]) (fun s_ w' => (w'.cell? (ad138.add ((x10_1).toNat * 2)) = some (.int .i64 ((rd_T25 y135 x10_1).f0)) ∧ w'.cell? ⟨(ad138.add ((x10_1).toNat * 2)).block, (ad138.add ((x10_1).toNat * 2)).off + 1, none⟩ = some (.int .i64 ((rd_T25 y135 x10_1).f1)) ∧ w'.cell? (ad138.add ((x11_2).toNat * 2)) = some (.int .i64 ((rd_T25 y135 x11_2).f0)) ∧ w'.cell? ⟨(ad138.add ((x11_2).toNat * 2)).block, (ad138.add ((x11_2).toNat * 2)).off + 1, none⟩ = some (.int .i64 ((rd_T25 y135 x11_2).f1))) ∧ (Kd.R k25 25 w' w.heap.size (fun k_ => k_ ≠ s_) (.slice (some ad138) y135.length co21) y135) ∧ (w'.heap[s_]? = some (.cells #[.int .i64 0, .int .i64 0] 25 (0, 0))) ∧ (w.heap.size ≤ s_) ∧ (w.heap.size ≤ s_) ∧ (Below w.heap.size w w')) ?_ ?_
                 rotate_left
                 ·intro hCont
                  refine two_ (i := 8) (j := 12) (Ni := some 63) (Nj := some 12) #[true, true, true, true, true, true, true, true, true, false, false, false, false, false, false] #[true, true, true, true, true, true, true, true, false, false, false, false, true, false, false] rfl rfl rfl rfl (two_of HT_.out (by kernel_rfl)) (by decide) (by decide) (fun K hK => ?_) (fun K hK => ?_)
                  ·skip
                   refine goes_ Try.func16 (by kernel_rfl) rfl #[.agg #[.int .i64 ((rd_T25 y135 x10_1).f0), .int .i64 ((rd_T25 y135 x10_1).f1)], .agg #[.int .i64 ((rd_T25 y135 x11_2).f0), .int .i64 ((rd_T25 y135 x11_2).f1)]] (by rfl) rfl rfl (by (try simp only [List.map_toArray, List.map_cons, List.map_nil]); first | done | rfl | (simp only [List.length_drop, List.length_take]; rfl)) ?_
                   with_reducible refine (vec_Add.calls ((rd_T25 y135 x10_1).f0) ((rd_T25 y135 x10_1).f1) ((rd_T25 y135 x11_2).f0) ((rd_T25 y135 x11_2).f1) t140 t141 t142 _ A26.out).mono ?_
                   rintro e w41 ⟨rfl, hb⟩
                   have HS0_ := (hb.cell (World.block_lt_of_cell? _ _ (hHeld.1))).trans (hHeld.1)
                   have HS1_ := (hb.cell (World.block_lt_of_cell? _ _ (hHeld.2.1))).trans (hHeld.2.1)
                   have HS2_ := (hb.cell (World.block_lt_of_cell? _ _ (hHeld.2.2.1))).trans (hHeld.2.2.1)
                   have HS3_ := (hb.cell (World.block_lt_of_cell? _ _ (hHeld.2.2.2))).trans (hHeld.2.2.2)
                   refine ⟨_, rfl, ?_⟩
                   have n0_ := Aside0.mk (Kd.R_below (by (with_reducible repeat (first | apply Kd.R_alloc | apply Kd.R_drewN | apply Kd.R_drew)); exact HO_9.out) hb)
                   have n1_ := Aside0.mk (below_step (by repeat (first | (with_reducible first | exact HB.out | apply below_alloc | apply pw_below_drewN | apply below_drew1) | exact HB.out)) hb)
                   clear HO_9
                   clear HB
                   have HO_9 := n0_
                   have HB := n1_
                   clear n0_ n1_
                   (try clear hb)
                   (try clear hb2)
                   (try clear hk)
                   (try clear hi)
                   refine hK.out _ _ ⟨HS0_, HS1_, HS2_, HS3_⟩ (fun hHeld => ?_)
                   clear hK K
                   refine norm_ (a' := ?_) ?_ ?_
                   rotate_left
                   ·show Act.put _ (some 63) _ = _
                    simp only [Act.put, List.setIfInBounds_toArray, List.set_cons_zero, List.set_cons_succ, i64_w, i32_w]
                    rfl
                   refine pure_ (i := 9) (N := some 54) (v := ?_) (a' := ?_) #[true, true, true, true, true, true, true, true, true, true, false, false, false, false, false] rfl rfl (any_of HT_.out (by kernel_rfl)) (fun _ _ _ h => h) (Or.inl ⟨by rfl, ?_⟩) ?_ ?_
                   rotate_left
                   ·intro w'
                    go_simp
                    with_reducible rfl
                   rotate_left
                   ·simp only [Act.put, List.setIfInBounds_toArray, List.set_cons_zero, List.set_cons_succ, i64_w, i32_w]
                    rfl
                   refine pure_ (i := 10) (N := some 64) (v := ?_) (a' := ?_) #[true, true, true, true, true, true, true, true, true, true, true, false, false, false, false] rfl rfl (any_of HT_.out (by kernel_rfl)) (fun _ _ _ h => h) (Or.inl ⟨by rfl, ?_⟩) ?_ ?_
                   rotate_left
                   ·intro w'
                    go_simp
                    with_reducible rfl
                   rotate_left
                   ·simp only [Act.put, List.setIfInBounds_toArray, List.set_cons_zero, List.set_cons_succ, i64_w, i32_w]
                    rfl
                   refine pure_ (i := 11) (N := some 65) (v := ?_) (a' := ?_) #[true, true, true, true, true, true, true, true, true, true, true, true, false, false, false] rfl rfl (any_of HT_.out (by kernel_rfl)) (fun _ _ _ h => h) (Or.inl ⟨by rfl, ?_⟩) ?_ ?_
                   rotate_left
                   ·intro w'
                    go_simp
                    with_reducible rfl
                   rotate_left
                   ·simp only [Act.put, List.setIfInBounds_toArray, List.set_cons_zero, List.set_cons_succ, i64_w, i32_w]
                    rfl
                   refine one_ (i := 12) (N := some 12) #[true, true, true, true, true, true, true, true, true, true, true, true, true, false, false] rfl rfl (one_of HT_.out (by kernel_rfl)) (by decide) (fun K hK => ?_)
                   refine box_step ?hg (N := 12) ?hd (cs := #[.int .i64 0, .int .i64 0]) (t := 25) ?hr ?_; (case hd => rfl); (case hg => rfl); (case hr => first | (go_simp; done) | (go_simp; rfl))
                   intro gb143 hg w42 hbox hb
                   have HS0_ := (hb.cell (World.block_lt_of_cell? _ _ (hHeld.1))).trans (hHeld.1)
                   have HS1_ := (hb.cell (World.block_lt_of_cell? _ _ (hHeld.2.1))).trans (hHeld.2.1)
                   have HS2_ := (hb.cell (World.block_lt_of_cell? _ _ (hHeld.2.2.1))).trans (hHeld.2.2.1)
                   have HS3_ := (hb.cell (World.block_lt_of_cell? _ _ (hHeld.2.2.2))).trans (hHeld.2.2.2)
                   have n0_ := Aside0.mk (Kd.R_below (Kd.R_elderB (by (with_reducible repeat (first | apply Kd.R_alloc | apply Kd.R_drewN | apply Kd.R_drew)); exact HO_9.out) gb143 (Nat.le_of_eq hg.symm)) hb)
                   have n1_ := Aside0.mk (below_step (by repeat (first | (with_reducible first | exact HB.out | apply below_alloc | apply pw_below_drewN | apply below_drew1) | exact HB.out)) hb)
                   have n2_ := Aside0.mk (hbox)
                   have n3_ := Aside0.mk ((by rw [hg]; exact (below_size (by repeat (first | (with_reducible first | exact HB.out | apply below_alloc | apply pw_below_drewN | apply below_drew1) | exact HB.out))) : w.heap.size ≤ gb143))
                   have n4_ := Aside0.mk ((by rw [hg]; exact (below_size (by repeat (first | (with_reducible first | exact HB.out | apply below_alloc | apply pw_below_drewN | apply below_drew1) | exact HB.out))) : w.heap.size ≤ gb143))
                   clear HO_9
                   clear HB
                   have HO_9 := n0_
                   have HB := n1_
                   have BK143 := n2_
                   have GW143 := n3_
                   have GE143 := n4_
                   clear n0_ n1_ n2_ n3_ n4_
                   clear hb hbox hg
                   refine hK.out _ _ ⟨HS0_, HS1_, HS2_, HS3_⟩ (fun hHeld => ?_)
                   clear hK K
                   refine norm_ (a' := ?_) ?_ ?_
                   rotate_left
                   ·show Act.put _ (some 12) _ = _
                    simp only [Act.put, List.setIfInBounds_toArray, List.set_cons_zero, List.set_cons_succ, i64_w, i32_w]
                    rfl
                   exact norm_ (by simp only [putAll, Act.put, List.setIfInBounds_toArray, List.set_cons_zero, List.set_cons_succ]) (hCont (gb143) _ ⟨hHeld, (by (with_reducible repeat (first | apply Kd.R_alloc | apply Kd.R_drewN | apply Kd.R_drew)); exact Kd.R_mono HO_9.out (fun _ hk => hk.2)), (by (with_reducible repeat (first | refine blk_drewN ?_ _ | refine blk_drew ?_ | refine blk_alloc ?_ _)); exact BK143.out), GW143.out, GE143.out, (by repeat (first | (with_reducible first | exact HB.out | apply below_alloc | apply pw_below_drewN | apply below_drew1 | refine below_set ?_ GE143.out) | exact HB.out))⟩)
                  ·skip
                   refine box_step ?hg (N := 12) ?hd (cs := #[.int .i64 0, .int .i64 0]) (t := 25) ?hr ?_; (case hd => rfl); (case hg => rfl); (case hr => first | (go_simp; done) | (go_simp; rfl))
                   intro gb143 hg w41 hbox hb
                   have HS0_ := (hb.cell (World.block_lt_of_cell? _ _ (hHeld.1))).trans (hHeld.1)
                   have HS1_ := (hb.cell (World.block_lt_of_cell? _ _ (hHeld.2.1))).trans (hHeld.2.1)
                   have HS2_ := (hb.cell (World.block_lt_of_cell? _ _ (hHeld.2.2.1))).trans (hHeld.2.2.1)
                   have HS3_ := (hb.cell (World.block_lt_of_cell? _ _ (hHeld.2.2.2))).trans (hHeld.2.2.2)
                   have n0_ := Aside0.mk (Kd.R_below (Kd.R_elderB (by (with_reducible repeat (first | apply Kd.R_alloc | apply Kd.R_drewN | apply Kd.R_drew)); exact HO_9.out) gb143 (Nat.le_of_eq hg.symm)) hb)
                   have n1_ := Aside0.mk (below_step (by repeat (first | (with_reducible first | exact HB.out | apply below_alloc | apply pw_below_drewN | apply below_drew1) | exact HB.out)) hb)
                   have n2_ := Aside0.mk (hbox)
                   have n3_ := Aside0.mk ((by rw [hg]; exact (below_size (by repeat (first | (with_reducible first | exact HB.out | apply below_alloc | apply pw_below_drewN | apply below_drew1) | exact HB.out))) : w.heap.size ≤ gb143))
                   have n4_ := Aside0.mk ((by rw [hg]; exact (below_size (by repeat (first | (with_reducible first | exact HB.out | apply below_alloc | apply pw_below_drewN | apply below_drew1) | exact HB.out))) : w.heap.size ≤ gb143))
                   clear HO_9
                   clear HB
                   have HO_9 := n0_
                   have HB := n1_
                   have BK143 := n2_
                   have GW143 := n3_
                   have GE143 := n4_
                   clear n0_ n1_ n2_ n3_ n4_
                   clear hb hbox hg
                   refine hK.out _ _ ⟨HS0_, HS1_, HS2_, HS3_⟩ (fun hHeld => ?_)
                   clear hK K
                   refine norm_ (a' := ?_) ?_ ?_
                   rotate_left
                   ·show Act.put _ (some 12) _ = _
                    simp only [Act.put, List.setIfInBounds_toArray, List.set_cons_zero, List.set_cons_succ, i64_w, i32_w]
                    rfl
                   refine one_ (i := 8) (N := some 63) #[true, true, true, true, true, true, true, true, true, false, false, false, true, false, false] rfl rfl (one_of HT_.out (by kernel_rfl)) (by decide) (fun K hK => ?_)
                   refine goes_ Try.func16 (by kernel_rfl) rfl #[.agg #[.int .i64 ((rd_T25 y135 x10_1).f0), .int .i64 ((rd_T25 y135 x10_1).f1)], .agg #[.int .i64 ((rd_T25 y135 x11_2).f0), .int .i64 ((rd_T25 y135 x11_2).f1)]] (by rfl) rfl rfl (by (try simp only [List.map_toArray, List.map_cons, List.map_nil]); first | done | rfl | (simp only [List.length_drop, List.length_take]; rfl)) ?_
                   with_reducible refine (vec_Add.calls ((rd_T25 y135 x10_1).f0) ((rd_T25 y135 x10_1).f1) ((rd_T25 y135 x11_2).f0) ((rd_T25 y135 x11_2).f1) t140 t141 t142 _ A26.out).mono ?_
                   rintro e w42 ⟨rfl, hb⟩
                   have HS0_ := (hb.cell (World.block_lt_of_cell? _ _ (hHeld.1))).trans (hHeld.1)
                   have HS1_ := (hb.cell (World.block_lt_of_cell? _ _ (hHeld.2.1))).trans (hHeld.2.1)
                   have HS2_ := (hb.cell (World.block_lt_of_cell? _ _ (hHeld.2.2.1))).trans (hHeld.2.2.1)
                   have HS3_ := (hb.cell (World.block_lt_of_cell? _ _ (hHeld.2.2.2))).trans (hHeld.2.2.2)
                   refine ⟨_, rfl, ?_⟩
                   have n0_ := Aside0.mk (Kd.R_below (by (with_reducible repeat (first | apply Kd.R_alloc | apply Kd.R_drewN | apply Kd.R_drew)); exact HO_9.out) hb)
                   have n1_ := Aside0.mk (blk_below (g := gb143) (o := .cells #[.int .i64 0, .int .i64 0] 25 (0, 0)) (by (with_reducible repeat (first | refine blk_drewN ?_ _ | refine blk_drew ?_ | refine blk_alloc ?_ _)); exact BK143.out) hb)
                   have n2_ := Aside0.mk (below_step (by repeat (first | (with_reducible first | exact HB.out | apply below_alloc | apply pw_below_drewN | apply below_drew1 | refine below_set ?_ GE143.out) | exact HB.out)) hb)
                   clear HO_9
                   clear BK143
                   clear HB
                   have HO_9 := n0_
                   have BK143 := n1_
                   have HB := n2_
                   clear n0_ n1_ n2_
                   (try clear hb)
                   (try clear hb2)
                   (try clear hk)
                   (try clear hi)
                   refine hK.out _ _ ⟨HS0_, HS1_, HS2_, HS3_⟩ (fun hHeld => ?_)
                   clear hK K
                   refine norm_ (a' := ?_) ?_ ?_
                   rotate_left
                   ·show Act.put _ (some 63) _ = _
                    simp only [Act.put, List.setIfInBounds_toArray, List.set_cons_zero, List.set_cons_succ, i64_w, i32_w]
                    rfl
                   refine pure_ (i := 9) (N := some 54) (v := ?_) (a' := ?_) #[true, true, true, true, true, true, true, true, true, true, false, false, true, false, false] rfl rfl (any_of HT_.out (by kernel_rfl)) (fun _ _ _ h => h) (Or.inl ⟨by rfl, ?_⟩) ?_ ?_
                   rotate_left
                   ·intro w'
                    go_simp
                    with_reducible rfl
                   rotate_left
                   ·simp only [Act.put, List.setIfInBounds_toArray, List.set_cons_zero, List.set_cons_succ, i64_w, i32_w]
                    rfl
                   refine pure_ (i := 10) (N := some 64) (v := ?_) (a' := ?_) #[true, true, true, true, true, true, true, true, true, true, true, false, true, false, false] rfl rfl (any_of HT_.out (by kernel_rfl)) (fun _ _ _ h => h) (Or.inl ⟨by rfl, ?_⟩) ?_ ?_
                   rotate_left
                   ·intro w'
                    go_simp
                    with_reducible rfl
                   rotate_left
                   ·simp only [Act.put, List.setIfInBounds_toArray, List.set_cons_zero, List.set_cons_succ, i64_w, i32_w]
                    rfl
                   refine pure_ (i := 11) (N := some 65) (v := ?_) (a' := ?_) #[true, true, true, true, true, true, true, true, true, true, true, true, true, false, false] rfl rfl (any_of HT_.out (by kernel_rfl)) (fun _ _ _ h => h) (Or.inl ⟨by rfl, ?_⟩) ?_ ?_
                   rotate_left
                   ·intro w'
                    go_simp
                    with_reducible rfl
                   rotate_left
                   ·simp only [Act.put, List.setIfInBounds_toArray, List.set_cons_zero, List.set_cons_succ, i64_w, i32_w]
                    rfl
                   exact norm_ (by simp only [putAll, Act.put, List.setIfInBounds_toArray, List.set_cons_zero, List.set_cons_succ]) (hCont (gb143) _ ⟨hHeld, (by (with_reducible repeat (first | apply Kd.R_alloc | apply Kd.R_drewN | apply Kd.R_drew)); exact Kd.R_mono HO_9.out (fun _ hk => hk.2)), (by (with_reducible repeat (first | refine blk_drewN ?_ _ | refine blk_drew ?_ | refine blk_alloc ?_ _)); exact BK143.out), GW143.out, GE143.out, (by repeat (first | (with_reducible first | exact HB.out | apply below_alloc | apply pw_below_drewN | apply below_drew1 | refine below_set ?_ GE143.out) | exact HB.out))⟩)
                 rintro gb143 w43 ⟨hS_, h0_, h1_, h2_, h3_, h4_⟩
                 have n0_ : Aside0 (Kd.R k25 25 w43 w.heap.size (fun k_ => k_ ≠ gb143) (.slice (some ad138) y135.length co21) y135) := ⟨h0_⟩
                 have n1_ : Aside0 (w43.heap[gb143]? = some (.cells #[.int .i64 0, .int .i64 0] 25 (0, 0))) := ⟨h1_⟩
                 have n2_ : Aside0 (w.heap.size ≤ gb143) := ⟨h2_⟩
                 have n3_ : Aside0 (w.heap.size ≤ gb143) := ⟨h3_⟩
                 have n4_ : Aside0 (Below w.heap.size w w43) := ⟨h4_⟩
                 clear HO_9
                 clear HB
                 clear h0_ h1_ h2_ h3_ h4_
                 have HO_9 := n0_
                 have BK143 := n1_
                 have GW143 := n2_
                 have GE143 := n3_
                 have HB := n4_
                 clear n0_ n1_ n2_ n3_ n4_
                 have hHeld : w43.cell? (ad138.add ((x10_1).toNat * 2)) = some (.int .i64 ((rd_T25 y135 x10_1).f0)) ∧ w43.cell? ⟨(ad138.add ((x10_1).toNat * 2)).block, (ad138.add ((x10_1).toNat * 2)).off + 1, none⟩ = some (.int .i64 ((rd_T25 y135 x10_1).f1)) ∧ w43.cell? (ad138.add ((x11_2).toNat * 2)) = some (.int .i64 ((rd_T25 y135 x11_2).f0)) ∧ w43.cell? ⟨(ad138.add ((x11_2).toNat * 2)).block, (ad138.add ((x11_2).toNat * 2)).off + 1, none⟩ = some (.int .i64 ((rd_T25 y135 x11_2).f1)) := hS_
                 refine norm_ (a' := ?_) ?_ ?_
                 rotate_left
                 ·simp only [putAll, Act.put, List.setIfInBounds_toArray, List.set_cons_zero, List.set_cons_succ]
                  rfl
                 refine one_ (i := 13) (N := none) #[true, true, true, true, true, true, true, true, true, true, true, true, true, true, false] rfl rfl (one_of HT_.out (by kernel_rfl)) (by decide) (fun K hK => ?_)
                 have hs44 : w43.cell? ⟨gb143, 0, none⟩ = some (.int .i64 0) := (blk_cell BK143.out 0).trans rfl
                 have hfs44 := blk_frozen BK143.out 0
                 have hs45 : w43.cell? ⟨gb143, 1, none⟩ = some (.int .i64 0) := (blk_cell BK143.out 1).trans rfl
                 have hfs45 := blk_frozen BK143.out 1
                 refine skip_ (w1 := ?_) (by rfl) rfl ?_ ?_
                 rotate_left
                 ·go_simp
                  rfl
                 refine hK.out _ _ ⟨((cell_far (p := ⟨gb143, _, none⟩) (by first | exact Kd.own_blk (Kd.R_away HO_9.out (fun _ hk => hk)) | (rw [add_block]; exact Kd.own_blk (Kd.R_away HO_9.out (fun _ hk => hk))) | (show (Addr.add _ _).block ≠ _; rw [add_block]; exact Kd.own_blk (Kd.R_away HO_9.out (fun _ hk => hk))) | (dsimp only; exact Kd.own_blk (Kd.R_away HO_9.out (fun _ hk => hk)))) _).trans (((cell_far (p := ⟨gb143, _, none⟩) (by first | exact Kd.own_blk (Kd.R_away HO_9.out (fun _ hk => hk)) | (rw [add_block]; exact Kd.own_blk (Kd.R_away HO_9.out (fun _ hk => hk))) | (show (Addr.add _ _).block ≠ _; rw [add_block]; exact Kd.own_blk (Kd.R_away HO_9.out (fun _ hk => hk))) | (dsimp only; exact Kd.own_blk (Kd.R_away HO_9.out (fun _ hk => hk)))) _).trans (hHeld.1)))), ((cell_far (p := ⟨gb143, _, none⟩) (by first | exact Kd.own_blk (Kd.R_away HO_9.out (fun _ hk => hk)) | (rw [add_block]; exact Kd.own_blk (Kd.R_away HO_9.out (fun _ hk => hk))) | (show (Addr.add _ _).block ≠ _; rw [add_block]; exact Kd.own_blk (Kd.R_away HO_9.out (fun _ hk => hk))) | (dsimp only; exact Kd.own_blk (Kd.R_away HO_9.out (fun _ hk => hk)))) _).trans (((cell_far (p := ⟨gb143, _, none⟩) (by first | exact Kd.own_blk (Kd.R_away HO_9.out (fun _ hk => hk)) | (rw [add_block]; exact Kd.own_blk (Kd.R_away HO_9.out (fun _ hk => hk))) | (show (Addr.add _ _).block ≠ _; rw [add_block]; exact Kd.own_blk (Kd.R_away HO_9.out (fun _ hk => hk))) | (dsimp only; exact Kd.own_blk (Kd.R_away HO_9.out (fun _ hk => hk)))) _).trans (hHeld.2.1)))), ((cell_far (p := ⟨gb143, _, none⟩) (by first | exact Kd.own_blk (Kd.R_away HO_9.out (fun _ hk => hk)) | (rw [add_block]; exact Kd.own_blk (Kd.R_away HO_9.out (fun _ hk => hk))) | (show (Addr.add _ _).block ≠ _; rw [add_block]; exact Kd.own_blk (Kd.R_away HO_9.out (fun _ hk => hk))) | (dsimp only; exact Kd.own_blk (Kd.R_away HO_9.out (fun _ hk => hk)))) _).trans (((cell_far (p := ⟨gb143, _, none⟩) (by first | exact Kd.own_blk (Kd.R_away HO_9.out (fun _ hk => hk)) | (rw [add_block]; exact Kd.own_blk (Kd.R_away HO_9.out (fun _ hk => hk))) | (show (Addr.add _ _).block ≠ _; rw [add_block]; exact Kd.own_blk (Kd.R_away HO_9.out (fun _ hk => hk))) | (dsimp only; exact Kd.own_blk (Kd.R_away HO_9.out (fun _ hk => hk)))) _).trans (hHeld.2.2.1)))), ((cell_far (p := ⟨gb143, _, none⟩) (by first | exact Kd.own_blk (Kd.R_away HO_9.out (fun _ hk => hk)) | (rw [add_block]; exact Kd.own_blk (Kd.R_away HO_9.out (fun _ hk => hk))) | (show (Addr.add _ _).block ≠ _; rw [add_block]; exact Kd.own_blk (Kd.R_away HO_9.out (fun _ hk => hk))) | (dsimp only; exact Kd.own_blk (Kd.R_away HO_9.out (fun _ hk => hk)))) _).trans (((cell_far (p := ⟨gb143, _, none⟩) (by first | exact Kd.own_blk (Kd.R_away HO_9.out (fun _ hk => hk)) | (rw [add_block]; exact Kd.own_blk (Kd.R_away HO_9.out (fun _ hk => hk))) | (show (Addr.add _ _).block ≠ _; rw [add_block]; exact Kd.own_blk (Kd.R_away HO_9.out (fun _ hk => hk))) | (dsimp only; exact Kd.own_blk (Kd.R_away HO_9.out (fun _ hk => hk)))) _).trans (hHeld.2.2.2))))⟩ (fun hHeld => ?_)
                 clear hK K
                 refine pure_ (i := 14) (N := some 13) (v := ?_) (a' := ?_) #[true, true, true, true, true, true, true, true, true, true, true, true, true, true, true] rfl rfl (any_of HT_.out (by kernel_rfl)) (fun _ _ _ h => h) (Or.inl ⟨by rfl, ?_⟩) ?_ ?_
                 rotate_left
                 ·intro w'
                  go_simp
                  with_reducible rfl
                 rotate_left
                 ·simp only [Act.put, List.setIfInBounds_toArray, List.set_cons_zero, List.set_cons_succ, i64_w, i32_w]
                  rfl
                 refine done_ (done_of HT_.out (by kernel_rfl)) ?_
                 try go_wp2
                 have n0_ : Aside0 (Kd.R k25 25 ((w43.setCell ⟨gb143, 0, none⟩ (.int .i64 t140)).setCell ⟨gb143, 1, none⟩ (.int .i64 t141)) w.heap.size (fun k_ => k_ ≠ gb143) (.slice (some ad138) y135.length co21) y135) := ⟨by (with_reducible repeat (first | apply Kd.R_alloc | apply Kd.R_drewN | apply Kd.R_drew)); exact Kd.R_mono (Kd.R_far (p := ⟨gb143, 1, none⟩) (Kd.R_far (p := ⟨gb143, 0, none⟩) (Kd.R_mono HO_9.out (fun k_ hk => (⟨hk, hk⟩ : _ ∧ k_ ≠ gb143))) (fun _ hk => hk.2) (.int .i64 t140)) (fun _ hk => hk.2) (.int .i64 t141)) (fun _ hk => hk.1)⟩
                 have n1_ : Aside0 (((w43.setCell ⟨gb143, 0, none⟩ (.int .i64 t140)).setCell ⟨gb143, 1, none⟩ (.int .i64 t141)).heap[gb143]? = some (.cells #[.int .i64 t140, .int .i64 t141] 25 (0, 0))) := ⟨by (with_reducible repeat (first | refine blk_drewN ?_ _ | refine blk_drew ?_ | refine blk_alloc ?_ _)); refine blk_put (cs := #[.int .i64 t140, .int .i64 0]) ?_ 1 _ rfl; (with_reducible repeat (first | refine blk_drewN ?_ _ | refine blk_drew ?_ | refine blk_alloc ?_ _)); refine blk_put (cs := #[.int .i64 0, .int .i64 0]) ?_ 0 _ rfl; (with_reducible repeat (first | refine blk_drewN ?_ _ | refine blk_drew ?_ | refine blk_alloc ?_ _)); exact BK143.out⟩
                 have n2_ : Aside0 (Below w.heap.size w ((w43.setCell ⟨gb143, 0, none⟩ (.int .i64 t140)).setCell ⟨gb143, 1, none⟩ (.int .i64 t141))) := ⟨by repeat (first | (with_reducible first | exact HB.out | apply below_alloc | apply pw_below_drewN | apply below_drew1 | refine below_set ?_ GE143.out) | exact HB.out)⟩
                 (try clear HO_9)
                 (try clear BK143)
                 (try clear HB)
                 generalize ((w43.setCell ⟨gb143, 0, none⟩ (.int .i64 t140)).setCell ⟨gb143, 1, none⟩ (.int .i64 t141)) = w46 at n0_ n1_ n2_ ⊢
                 have HO_9 := n0_
                 have BK143 := n1_
                 have HB := n2_
                 clear n0_ n1_ n2_
                 have n0_ := Aside0.mk (Kd.R_drew HO_9.out)
                 have n1_ := Aside0.mk (blk_drew BK143.out)
                 have n2_ := Aside0.mk (below_drew1 HB.out)
                 clear HO_9
                 clear BK143
                 clear HB
                 have HO_9 := n0_
                 have BK143 := n1_
                 have HB := n2_
                 clear n0_ n1_ n2_
                 have p144 : 0 ≤ (x10_1 : Int) := of_decide_eq_true (by first | (with_reducible assumption) | assumption)
                 have q144 : x10_1 < (y135.length : Int) := of_decide_eq_true (by first | (with_reducible assumption) | assumption)
                 obtain ⟨ad144, e144, hx144_0, hx144_1⟩ := at_T25 (Kd.R_reads' HO_9.out).2.2 x10_1 p144 q144
                 obtain rfl : ad138 = ad144 := (by injection e144)
                 replace p144 := eq_true p144
                 replace q144 := eq_true q144
                 have p145 : 0 ≤ (x11_2 : Int) := of_decide_eq_true (by first | (with_reducible assumption) | assumption)
                 have q145 : x11_2 < (y135.length : Int) := of_decide_eq_true (by first | (with_reducible assumption) | assumption)
                 obtain ⟨ad145, e145, hx145_0, hx145_1⟩ := at_T25 (Kd.R_reads' HO_9.out).2.2 x11_2 p145 q145
                 obtain rfl : ad138 = ad145 := (by injection e145)
                 replace p145 := eq_true p145
                 replace q145 := eq_true q145
                 refine start_ (n := 15) (S := fun w' => w'.cell? (ad138.add ((x10_1).toNat * 2)) = some (.int .i64 ((rd_T25 y135 x10_1).f0)) ∧ w'.cell? ⟨(ad138.add ((x10_1).toNat * 2)).block, (ad138.add ((x10_1).toNat * 2)).off + 1, none⟩ = some (.int .i64 ((rd_T25 y135 x10_1).f1)) ∧ w'.cell? (ad138.add ((x11_2).toNat * 2)) = some (.int .i64 ((rd_T25 y135 x11_2).f0)) ∧ w'.cell? ⟨(ad138.add ((x11_2).toNat * 2)).block, (ad138.add ((x11_2).toNat * 2)).off + 1, none⟩ = some (.int .i64 ((rd_T25 y135 x11_2).f1))) (ds := []) #[false, false, false, false, false, false, false, false, false, false, false, false, false, false, false] (by kernel_rfl) rfl rfl ⟨hx144_0, hx144_1, hx145_0, hx145_1⟩ (fun hHeld => ?_); refine with_tabW joinerylaw1_VecAll.tab11 joinerylaw1_VecAll.bits11 (fun HT_ HW_ => ?_)
                 generalize w46.drew = w47 at HO_9 BK143 HB hx144_0 hx144_1 hx145_0 hx145_1 hHeld ⊢
                 refine pure_ (i := 0) (N := some 67) (v := ?_) (a' := ?_) #[true, false, false, false, false, false, false, false, false, false, false, false, false, false, false] rfl rfl (any_of HT_.out (by kernel_rfl)) (fun _ _ _ h => h) (Or.inl ⟨by rfl, ?_⟩) ?_ ?_
                 rotate_left
                 ·intro w'
                  go_simp
                  with_reducible rfl
                 rotate_left
                 ·simp only [Act.put, List.setIfInBounds_toArray, List.set_cons_zero, List.set_cons_succ, i64_w, i32_w]
                  rfl
                 refine pure_ (i := 1) (N := some 68) (v := ?_) (a' := ?_) #[true, true, false, false, false, false, false, false, false, false, false, false, false, false, false] rfl rfl (any_of HT_.out (by kernel_rfl)) (fun _ _ _ h => h) (Or.inl ⟨by rfl, ?_⟩) ?_ ?_
                 rotate_left
                 ·intro w'
                  go_simp
                  with_reducible rfl
                 rotate_left
                 ·simp only [Act.put, List.setIfInBounds_toArray, List.set_cons_zero, List.set_cons_succ, i64_w, i32_w]
                  rfl
                 refine pure_ (i := 2) (N := some 69) (v := ?_) (a' := ?_) #[true, true, true, false, false, false, false, false, false, false, false, false, false, false, false] rfl rfl (any_of HT_.out (by kernel_rfl)) (fun _ _ _ h => h) (Or.inl ⟨by rfl, ?_⟩) ?_ ?_
                 rotate_left
                 ·intro w'
                  go_simp
                  with_reducible rfl
                 rotate_left
                 ·simp only [Act.put, List.setIfInBounds_toArray, List.set_cons_zero, List.set_cons_succ, i64_w, i32_w]
                  rfl
                 refine pure_ (i := 4) (N := some 71) (v := ?_) (a' := ?_) #[true, true, true, false, true, false, false, false, false, false, false, false, false, false, false] rfl rfl (any_of HT_.out (by kernel_rfl)) (fun _ _ _ h => h) (Or.inl ⟨by rfl, ?_⟩) ?_ ?_
                 rotate_left
                 ·intro w'
                  go_simp
                  with_reducible rfl
                 rotate_left
                 ·simp only [Act.put, List.setIfInBounds_toArray, List.set_cons_zero, List.set_cons_succ, i64_w, i32_w]
                  rfl
                 refine pure_ (i := 5) (N := some 72) (v := ?_) (a' := ?_) #[true, true, true, false, true, true, false, false, false, false, false, false, false, false, false] rfl rfl (any_of HT_.out (by kernel_rfl)) (fun _ _ _ h => h) (Or.inl ⟨by rfl, ?_⟩) ?_ ?_
                 rotate_left
                 ·intro w'
                  go_simp
                  with_reducible rfl
                 rotate_left
                 ·simp only [Act.put, List.setIfInBounds_toArray, List.set_cons_zero, List.set_cons_succ, i64_w, i32_w]
                  rfl
                 refine pure_ (i := 6) (N := some 73) (v := ?_) (a' := ?_) #[true, true, true, false, true, true, true, false, false, false, false, false, false, false, false] rfl rfl (any_of HT_.out (by kernel_rfl)) (fun _ _ _ h => h) (Or.inl ⟨by rfl, ?_⟩) ?_ ?_
                 rotate_left
                 ·intro w'
                  go_simp
                  with_reducible rfl
                 rotate_left
                 ·simp only [Act.put, List.setIfInBounds_toArray, List.set_cons_zero, List.set_cons_succ, i64_w, i32_w]
                  rfl
                 refine take_ (i := 3) (N := some 70) (v := ?_) (a' := ?_) #[true, true, true, true, true, true, true, false, false, false, false, false, false, false, false] rfl rfl (take_ofW HT_.out HW_.out (by kernel_rfl)) (fun _ _ _ h => h) (Or.inl ⟨by rfl, ?_⟩) hHeld ?_ ?_
                 rotate_left
                 ·rintro w' ⟨s0, s1, s2, s3⟩
                  go_simp
                  with_reducible rfl
                 rotate_left
                 ·simp only [Act.put, List.setIfInBounds_toArray, List.set_cons_zero, List.set_cons_succ, i64_w, i32_w]
                  rfl
                 refine take_ (i := 7) (N := some 74) (v := ?_) (a' := ?_) #[true, true, true, true, true, true, true, true, false, false, false, false, false, false, false] rfl rfl (take_ofW HT_.out HW_.out (by kernel_rfl)) (fun _ _ _ h => h) (Or.inl ⟨by rfl, ?_⟩) hHeld ?_ ?_
                 rotate_left
                 ·rintro w' ⟨s0, s1, s2, s3⟩
                  go_simp
                  with_reducible rfl
                 rotate_left
                 ·simp only [Act.put, List.setIfInBounds_toArray, List.set_cons_zero, List.set_cons_succ, i64_w, i32_w]
                  rfl
                 refine join_ (σ := Nat) 2 #[true, true, true, true, true, true, true, true, true, true, true, true, true, false, false] (fun s_ => [(75, .tuple #[.agg #[.int .i64 t146, .int .i64 t147], .int .i64 t148]), (14, .pointer (some ⟨s_, 0, none⟩)), (66, .tuple #[.agg #[.int .i64 t146, .int .i64 t147], .int .i64 t148]), (76, .agg #[.int .i64 t146, .int .i64 t147]), (77, .int .i64 t148)]) (fun s_ w' => (w'.cell? (ad138.add ((x10_1).toNat * 2)) = some (.int .i64 ((rd_T25 y135 x10_1).f0)) ∧ w'.cell? ⟨(ad138.add ((x10_1).toNat * 2)).block, (ad138.add ((x10_1).toNat * 2)).off + 1, none⟩ = some (.int .i64 ((rd_T25 y135 x10_1).f1)) ∧ w'.cell? (ad138.add ((x11_2).toNat * 2)) = some (.int .i64 ((rd_T25 y135 x11_2).f0)) ∧ w'.cell? ⟨(ad138.add ((x11_2).toNat * 2)).block, (ad138.add ((x11_2).toNat * 2)).off + 1, none⟩ = some (.int .i64 ((rd_T25 y135 x11_2).f1))) ∧ (Kd.R k25 25 w' w.heap.size (fun k_ => k_ ≠ gb143 ∧ k_ ≠ s_) (.slice (some ad138) y135.length co21) y135) ∧ (w'.heap[gb143]? = some (.cells #[.int .i64 t140, .int .i64 t141] 25 (0, 0))) ∧ (w'.heap[s_]? = some (.cells #[.int .i64 0, .int .i64 0] 25 (0, 0))) ∧ (w.heap.size ≤ s_) ∧ (w.heap.size ≤ s_) ∧ (gb143 ≠ s_) ∧ (s_ ≠ gb143) ∧ (Below w.heap.size w w')) ?_ ?_
                 rotate_left
                 ·intro hCont
                  refine two_ (i := 8) (j := 12) (Ni := some 75) (Nj := some 14) #[true, true, true, true, true, true, true, true, true, false, false, false, false, false, false] #[true, true, true, true, true, true, true, true, false, false, false, false, true, false, false] rfl rfl rfl rfl (two_of HT_.out (by kernel_rfl)) (by decide) (by decide) (fun K hK => ?_) (fun K hK => ?_)
                  ·skip
                   refine goes_ Try.func17 (by kernel_rfl) rfl #[.agg #[.int .i64 ((rd_T25 y135 x10_1).f0), .int .i64 ((rd_T25 y135 x10_1).f1)], .agg #[.int .i64 ((rd_T25 y135 x11_2).f0), .int .i64 ((rd_T25 y135 x11_2).f1)]] (by rfl) rfl rfl (by (try simp only [List.map_toArray, List.map_cons, List.map_nil]); first | done | rfl | (simp only [List.length_drop, List.length_take]; rfl)) ?_
                   with_reducible refine (joineryref1_Add.calls k2 ((rd_T25 y135 x10_1).f0) ((rd_T25 y135 x10_1).f1) ((rd_T25 y135 x11_2).f0) ((rd_T25 y135 x11_2).f1) t146 t147 t148 _ A27.out).mono ?_
                   rintro e w48 ⟨rfl, hb⟩
                   have HS0_ := (hb.cell (World.block_lt_of_cell? _ _ (hHeld.1))).trans (hHeld.1)
                   have HS1_ := (hb.cell (World.block_lt_of_cell? _ _ (hHeld.2.1))).trans (hHeld.2.1)
                   have HS2_ := (hb.cell (World.block_lt_of_cell? _ _ (hHeld.2.2.1))).trans (hHeld.2.2.1)
                   have HS3_ := (hb.cell (World.block_lt_of_cell? _ _ (hHeld.2.2.2))).trans (hHeld.2.2.2)
                   refine ⟨_, rfl, ?_⟩
                   have n0_ := Aside0.mk (Kd.R_below (by (with_reducible repeat (first | apply Kd.R_alloc | apply Kd.R_drewN | apply Kd.R_drew)); exact HO_9.out) hb)
                   have n1_ := Aside0.mk (blk_below (g := gb143) (o := .cells #[.int .i64 t140, .int .i64 t141] 25 (0, 0)) (by (with_reducible repeat (first | refine blk_drewN ?_ _ | refine blk_drew ?_ | refine blk_alloc ?_ _)); exact BK143.out) hb)
                   have n2_ := Aside0.mk (below_step (by repeat (first | (with_reducible first | exact HB.out | apply below_alloc | apply pw_below_drewN | apply below_drew1 | refine below_set ?_ GE143.out) | exact HB.out)) hb)
                   clear HO_9
                   clear BK143
                   clear HB
                   have HO_9 := n0_
                   have BK143 := n1_
                   have HB := n2_
                   clear n0_ n1_ n2_
                   (try clear hb)
                   (try clear hb2)
                   (try clear hk)
                   (try clear hi)
                   refine hK.out _ _ ⟨HS0_, HS1_, HS2_, HS3_⟩ (fun hHeld => ?_)
                   clear hK K
                   refine norm_ (a' := ?_) ?_ ?_
                   rotate_left
                   ·show Act.put _ (some 75) _ = _
                    simp only [Act.put, List.setIfInBounds_toArray, List.set_cons_zero, List.set_cons_succ, i64_w, i32_w]
                    rfl
                   refine pure_ (i := 9) (N := some 66) (v := ?_) (a' := ?_) #[true, true, true, true, true, true, true, true, true, true, false, false, false, false, false] rfl rfl (any_of HT_.out (by kernel_rfl)) (fun _ _ _ h => h) (Or.inl ⟨by rfl, ?_⟩) ?_ ?_
                   rotate_left
                   ·intro w'
                    go_simp
                    with_reducible rfl
                   rotate_left
                   ·simp only [Act.put, List.setIfInBounds_toArray, List.set_cons_zero, List.set_cons_succ, i64_w, i32_w]
                    rfl
                   refine pure_ (i := 10) (N := some 76) (v := ?_) (a' := ?_) #[true, true, true, true, true, true, true, true, true, true, true, false, false, false, false] rfl rfl (any_of HT_.out (by kernel_rfl)) (fun _ _ _ h => h) (Or.inl ⟨by rfl, ?_⟩) ?_ ?_
                   rotate_left
                   ·intro w'
                    go_simp
                    with_reducible rfl
                   rotate_left
                   ·simp only [Act.put, List.setIfInBounds_toArray, List.set_cons_zero, List.set_cons_succ, i64_w, i32_w]
                    rfl
                   refine pure_ (i := 11) (N := some 77) (v := ?_) (a' := ?_) #[true, true, true, true, true, true, true, true, true, true, true, true, false, false, false] rfl rfl (any_of HT_.out (by kernel_rfl)) (fun _ _ _ h => h) (Or.inl ⟨by rfl, ?_⟩) ?_ ?_
                   rotate_left
                   ·intro w'
                    go_simp
                    with_reducible rfl
                   rotate_left
                   ·simp only [Act.put, List.setIfInBounds_toArray, List.set_cons_zero, List.set_cons_succ, i64_w, i32_w]
                    rfl
                   refine one_ (i := 12) (N := some 14) #[true, true, true, true, true, true, true, true, true, true, true, true, true, false, false] rfl rfl (one_of HT_.out (by kernel_rfl)) (by decide) (fun K hK => ?_)
                   refine box_step ?hg (N := 14) ?hd (cs := #[.int .i64 0, .int .i64 0]) (t := 25) ?hr ?_; (case hd => rfl); (case hg => rfl); (case hr => first | (go_simp; done) | (go_simp; rfl))
                   intro gb149 hg w49 hbox hb
                   have HS0_ := (hb.cell (World.block_lt_of_cell? _ _ (hHeld.1))).trans (hHeld.1)
                   have HS1_ := (hb.cell (World.block_lt_of_cell? _ _ (hHeld.2.1))).trans (hHeld.2.1)
                   have HS2_ := (hb.cell (World.block_lt_of_cell? _ _ (hHeld.2.2.1))).trans (hHeld.2.2.1)
                   have HS3_ := (hb.cell (World.block_lt_of_cell? _ _ (hHeld.2.2.2))).trans (hHeld.2.2.2)
                   have n0_ := Aside0.mk (Kd.R_below (Kd.R_elderB (by (with_reducible repeat (first | apply Kd.R_alloc | apply Kd.R_drewN | apply Kd.R_drew)); exact HO_9.out) gb149 (Nat.le_of_eq hg.symm)) hb)
                   have n1_ := Aside0.mk (blk_below (g := gb143) (o := .cells #[.int .i64 t140, .int .i64 t141] 25 (0, 0)) (by (with_reducible repeat (first | refine blk_drewN ?_ _ | refine blk_drew ?_ | refine blk_alloc ?_ _)); exact BK143.out) hb)
                   have n2_ := Aside0.mk (below_step (by repeat (first | (with_reducible first | exact HB.out | apply below_alloc | apply pw_below_drewN | apply below_drew1 | refine below_set ?_ GE143.out) | exact HB.out)) hb)
                   have n3_ := Aside0.mk (hbox)
                   have n4_ := Aside0.mk ((by rw [hg]; exact (below_size (by repeat (first | (with_reducible first | exact HB.out | apply below_alloc | apply pw_below_drewN | apply below_drew1 | refine below_set ?_ GE143.out) | exact HB.out))) : w.heap.size ≤ gb149))
                   have n5_ := Aside0.mk ((by rw [hg]; exact (below_size (by repeat (first | (with_reducible first | exact HB.out | apply below_alloc | apply pw_below_drewN | apply below_drew1 | refine below_set ?_ GE143.out) | exact HB.out))) : w.heap.size ≤ gb149))
                   have n6_ := Aside0.mk ((by rw [hg]; exact Nat.ne_of_lt (blk_lt (g := gb143) (o := .cells #[.int .i64 t140, .int .i64 t141] 25 (0, 0)) (by (with_reducible repeat (first | refine blk_drewN ?_ _ | refine blk_drew ?_ | refine blk_alloc ?_ _)); exact BK143.out)) : gb143 ≠ gb149))
                   have n7_ := Aside0.mk ((by rw [hg]; exact Nat.ne_of_gt (blk_lt (g := gb143) (o := .cells #[.int .i64 t140, .int .i64 t141] 25 (0, 0)) (by (with_reducible repeat (first | refine blk_drewN ?_ _ | refine blk_drew ?_ | refine blk_alloc ?_ _)); exact BK143.out)) : gb149 ≠ gb143))
                   clear HO_9
                   clear BK143
                   clear HB
                   have HO_9 := n0_
                   have BK143 := n1_
                   have HB := n2_
                   have BK149 := n3_
                   have GW149 := n4_
                   have GE149 := n5_
                   have NB143_149 := n6_
                   have NB149_143 := n7_
                   clear n0_ n1_ n2_ n3_ n4_ n5_ n6_ n7_
                   clear hb hbox hg
                   refine hK.out _ _ ⟨HS0_, HS1_, HS2_, HS3_⟩ (fun hHeld => ?_)
                   clear hK K
                   refine norm_ (a' := ?_) ?_ ?_
                   rotate_left
                   ·show Act.put _ (some 14) _ = _
                    simp only [Act.put, List.setIfInBounds_toArray, List.set_cons_zero, List.set_cons_succ, i64_w, i32_w]
                    rfl
                   exact norm_ (by simp only [putAll, Act.put, List.setIfInBounds_toArray, List.set_cons_zero, List.set_cons_succ]) (hCont (gb149) _ ⟨hHeld, (by (with_reducible repeat (first | apply Kd.R_alloc | apply Kd.R_drewN | apply Kd.R_drew)); exact HO_9.out), (by (with_reducible repeat (first | refine blk_drewN ?_ _ | refine blk_drew ?_ | refine blk_alloc ?_ _)); exact BK143.out), (by (with_reducible repeat (first | refine blk_drewN ?_ _ | refine blk_drew ?_ | refine blk_alloc ?_ _)); exact BK149.out), GW149.out, GE149.out, NB143_149.out, NB149_143.out, (by repeat (first | (with_reducible first | exact HB.out | apply below_alloc | apply pw_below_drewN | apply below_drew1 | refine below_set ?_ GE143.out | refine below_set ?_ GE149.out) | exact HB.out))⟩)
                  ·skip
                   refine box_step ?hg (N := 14) ?hd (cs := #[.int .i64 0, .int .i64 0]) (t := 25) ?hr ?_; (case hd => rfl); (case hg => rfl); (case hr => first | (go_simp; done) | (go_simp; rfl))
                   intro gb149 hg w48 hbox hb
                   have HS0_ := (hb.cell (World.block_lt_of_cell? _ _ (hHeld.1))).trans (hHeld.1)
                   have HS1_ := (hb.cell (World.block_lt_of_cell? _ _ (hHeld.2.1))).trans (hHeld.2.1)
                   have HS2_ := (hb.cell (World.block_lt_of_cell? _ _ (hHeld.2.2.1))).trans (hHeld.2.2.1)
                   have HS3_ := (hb.cell (World.block_lt_of_cell? _ _ (hHeld.2.2.2))).trans (hHeld.2.2.2)
                   have n0_ := Aside0.mk (Kd.R_below (Kd.R_elderB (by (with_reducible repeat (first | apply Kd.R_alloc | apply Kd.R_drewN | apply Kd.R_drew)); exact HO_9.out) gb149 (Nat.le_of_eq hg.symm)) hb)
                   have n1_ := Aside0.mk (blk_below (g := gb143) (o := .cells #[.int .i64 t140, .int .i64 t141] 25 (0, 0)) (by (with_reducible repeat (first | refine blk_drewN ?_ _ | refine blk_drew ?_ | refine blk_alloc ?_ _)); exact BK143.out) hb)
                   have n2_ := Aside0.mk (below_step (by repeat (first | (with_reducible first | exact HB.out | apply below_alloc | apply pw_below_drewN | apply below_drew1 | refine below_set ?_ GE143.out) | exact HB.out)) hb)
                   have n3_ := Aside0.mk (hbox)
                   have n4_ := Aside0.mk ((by rw [hg]; exact (below_size (by repeat (first | (with_reducible first | exact HB.out | apply below_alloc | apply pw_below_drewN | apply below_drew1 | refine below_set ?_ GE143.out) | exact HB.out))) : w.heap.size ≤ gb149))
                   have n5_ := Aside0.mk ((by rw [hg]; exact (below_size (by repeat (first | (with_reducible first | exact HB.out | apply below_alloc | apply pw_below_drewN | apply below_drew1 | refine below_set ?_ GE143.out) | exact HB.out))) : w.heap.size ≤ gb149))
                   have n6_ := Aside0.mk ((by rw [hg]; exact Nat.ne_of_lt (blk_lt (g := gb143) (o := .cells #[.int .i64 t140, .int .i64 t141] 25 (0, 0)) (by (with_reducible repeat (first | refine blk_drewN ?_ _ | refine blk_drew ?_ | refine blk_alloc ?_ _)); exact BK143.out)) : gb143 ≠ gb149))
                   have n7_ := Aside0.mk ((by rw [hg]; exact Nat.ne_of_gt (blk_lt (g := gb143) (o := .cells #[.int .i64 t140, .int .i64 t141] 25 (0, 0)) (by (with_reducible repeat (first | refine blk_drewN ?_ _ | refine blk_drew ?_ | refine blk_alloc ?_ _)); exact BK143.out)) : gb149 ≠ gb143))
                   clear HO_9
                   clear BK143
                   clear HB
                   have HO_9 := n0_
                   have BK143 := n1_
                   have HB := n2_
                   have BK149 := n3_
                   have GW149 := n4_
                   have GE149 := n5_
                   have NB143_149 := n6_
                   have NB149_143 := n7_
                   clear n0_ n1_ n2_ n3_ n4_ n5_ n6_ n7_
                   clear hb hbox hg
                   refine hK.out _ _ ⟨HS0_, HS1_, HS2_, HS3_⟩ (fun hHeld => ?_)
                   clear hK K
                   refine norm_ (a' := ?_) ?_ ?_
                   rotate_left
                   ·show Act.put _ (some 14) _ = _
                    simp only [Act.put, List.setIfInBounds_toArray, List.set_cons_zero, List.set_cons_succ, i64_w, i32_w]
                    rfl
                   refine one_ (i := 8) (N := some 75) #[true, true, true, true, true, true, true, true, true, false, false, false, true, false, false] rfl rfl (one_of HT_.out (by kernel_rfl)) (by decide) (fun K hK => ?_)
                   refine goes_ Try.func17 (by kernel_rfl) rfl #[.agg #[.int .i64 ((rd_T25 y135 x10_1).f0), .int .i64 ((rd_T25 y135 x10_1).f1)], .agg #[.int .i64 ((rd_T25 y135 x11_2).f0), .int .i64 ((rd_T25 y135 x11_2).f1)]] (by rfl) rfl rfl (by (try simp only [List.map_toArray, List.map_cons, List.map_nil]); first | done | rfl | (simp only [List.length_drop, List.length_take]; rfl)) ?_
                   with_reducible refine (joineryref1_Add.calls k2 ((rd_T25 y135 x10_1).f0) ((rd_T25 y135 x10_1).f1) ((rd_T25 y135 x11_2).f0) ((rd_T25 y135 x11_2).f1) t146 t147 t148 _ A27.out).mono ?_
                   rintro e w49 ⟨rfl, hb⟩
                   have HS0_ := (hb.cell (World.block_lt_of_cell? _ _ (hHeld.1))).trans (hHeld.1)
                   have HS1_ := (hb.cell (World.block_lt_of_cell? _ _ (hHeld.2.1))).trans (hHeld.2.1)
                   have HS2_ := (hb.cell (World.block_lt_of_cell? _ _ (hHeld.2.2.1))).trans (hHeld.2.2.1)
                   have HS3_ := (hb.cell (World.block_lt_of_cell? _ _ (hHeld.2.2.2))).trans (hHeld.2.2.2)
                   refine ⟨_, rfl, ?_⟩
                   have n0_ := Aside0.mk (Kd.R_below (by (with_reducible repeat (first | apply Kd.R_alloc | apply Kd.R_drewN | apply Kd.R_drew)); exact HO_9.out) hb)
                   have n1_ := Aside0.mk (blk_below (g := gb143) (o := .cells #[.int .i64 t140, .int .i64 t141] 25 (0, 0)) (by (with_reducible repeat (first | refine blk_drewN ?_ _ | refine blk_drew ?_ | refine blk_alloc ?_ _)); exact BK143.out) hb)
                   have n2_ := Aside0.mk (blk_below (g := gb149) (o := .cells #[.int .i64 0, .int .i64 0] 25 (0, 0)) (by (with_reducible repeat (first | refine blk_drewN ?_ _ | refine blk_drew ?_ | refine blk_alloc ?_ _)); exact BK149.out) hb)
                   have n3_ := Aside0.mk (below_step (by repeat (first | (with_reducible first | exact HB.out | apply below_alloc | apply pw_below_drewN | apply below_drew1 | refine below_set ?_ GE143.out | refine below_set ?_ GE149.out) | exact HB.out)) hb)
                   clear HO_9
                   clear BK143
                   clear BK149
                   clear HB
                   have HO_9 := n0_
                   have BK143 := n1_
                   have BK149 := n2_
                   have HB := n3_
                   clear n0_ n1_ n2_ n3_
                   (try clear hb)
                   (try clear hb2)
                   (try clear hk)
                   (try clear hi)
                   refine hK.out _ _ ⟨HS0_, HS1_, HS2_, HS3_⟩ (fun hHeld => ?_)
                   clear hK K
                   refine norm_ (a' := ?_) ?_ ?_
                   rotate_left
                   ·show Act.put _ (some 75) _ = _
                    simp only [Act.put, List.setIfInBounds_toArray, List.set_cons_zero, List.set_cons_succ, i64_w, i32_w]
                    rfl
                   refine pure_ (i := 9) (N := some 66) (v := ?_) (a' := ?_) #[true, true, true, true, true, true, true, true, true, true, false, false, true, false, false] rfl rfl (any_of HT_.out (by kernel_rfl)) (fun _ _ _ h => h) (Or.inl ⟨by rfl, ?_⟩) ?_ ?_
                   rotate_left
                   ·intro w'
                    go_simp
                    with_reducible rfl
                   rotate_left
                   ·simp only [Act.put, List.setIfInBounds_toArray, List.set_cons_zero, List.set_cons_succ, i64_w, i32_w]
                    rfl
                   refine pure_ (i := 10) (N := some 76) (v := ?_) (a' := ?_) #[true, true, true, true, true, true, true, true, true, true, true, false, true, false, false] rfl rfl (any_of HT_.out (by kernel_rfl)) (fun _ _ _ h => h) (Or.inl ⟨by rfl, ?_⟩) ?_ ?_
                   rotate_left
                   ·intro w'
                    go_simp
                    with_reducible rfl
                   rotate_left
                   ·simp only [Act.put, List.setIfInBounds_toArray, List.set_cons_zero, List.set_cons_succ, i64_w, i32_w]
                    rfl
                   refine pure_ (i := 11) (N := some 77) (v := ?_) (a' := ?_) #[true, true, true, true, true, true, true, true, true, true, true, true, true, false, false] rfl rfl (any_of HT_.out (by kernel_rfl)) (fun _ _ _ h => h) (Or.inl ⟨by rfl, ?_⟩) ?_ ?_
                   rotate_left
                   ·intro w'
                    go_simp
                    with_reducible rfl
                   rotate_left
                   ·simp only [Act.put, List.setIfInBounds_toArray, List.set_cons_zero, List.set_cons_succ, i64_w, i32_w]
                    rfl
                   exact norm_ (by simp only [putAll, Act.put, List.setIfInBounds_toArray, List.set_cons_zero, List.set_cons_succ]) (hCont (gb149) _ ⟨hHeld, (by (with_reducible repeat (first | apply Kd.R_alloc | apply Kd.R_drewN | apply Kd.R_drew)); exact HO_9.out), (by (with_reducible repeat (first | refine blk_drewN ?_ _ | refine blk_drew ?_ | refine blk_alloc ?_ _)); exact BK143.out), (by (with_reducible repeat (first | refine blk_drewN ?_ _ | refine blk_drew ?_ | refine blk_alloc ?_ _)); exact BK149.out), GW149.out, GE149.out, NB143_149.out, NB149_143.out, (by repeat (first | (with_reducible first | exact HB.out | apply below_alloc | apply pw_below_drewN | apply below_drew1 | refine below_set ?_ GE143.out | refine below_set ?_ GE149.out) | exact HB.out))⟩)
                 rintro gb149 w50 ⟨hS_, h0_, h1_, h2_, h3_, h4_, h5_, h6_, h7_⟩
                 have n0_ : Aside0 (Kd.R k25 25 w50 w.heap.size (fun k_ => k_ ≠ gb143 ∧ k_ ≠ gb149) (.slice (some ad138) y135.length co21) y135) := ⟨h0_⟩
                 have n1_ : Aside0 (w50.heap[gb143]? = some (.cells #[.int .i64 t140, .int .i64 t141] 25 (0, 0))) := ⟨h1_⟩
                 have n2_ : Aside0 (w50.heap[gb149]? = some (.cells #[.int .i64 0, .int .i64 0] 25 (0, 0))) := ⟨h2_⟩
                 have n3_ : Aside0 (w.heap.size ≤ gb149) := ⟨h3_⟩
                 have n4_ : Aside0 (w.heap.size ≤ gb149) := ⟨h4_⟩
                 have n5_ : Aside0 (gb143 ≠ gb149) := ⟨h5_⟩
                 have n6_ : Aside0 (gb149 ≠ gb143) := ⟨h6_⟩
                 have n7_ : Aside0 (Below w.heap.size w w50) := ⟨h7_⟩
                 clear HO_9
                 clear BK143
                 clear HB
                 clear h0_ h1_ h2_ h3_ h4_ h5_ h6_ h7_
                 have HO_9 := n0_
                 have BK143 := n1_
                 have BK149 := n2_
                 have GW149 := n3_
                 have GE149 := n4_
                 have NB143_149 := n5_
                 have NB149_143 := n6_
                 have HB := n7_
                 clear n0_ n1_ n2_ n3_ n4_ n5_ n6_ n7_
                 have hHeld : w50.cell? (ad138.add ((x10_1).toNat * 2)) = some (.int .i64 ((rd_T25 y135 x10_1).f0)) ∧ w50.cell? ⟨(ad138.add ((x10_1).toNat * 2)).block, (ad138.add ((x10_1).toNat * 2)).off + 1, none⟩ = some (.int .i64 ((rd_T25 y135 x10_1).f1)) ∧ w50.cell? (ad138.add ((x11_2).toNat * 2)) = some (.int .i64 ((rd_T25 y135 x11_2).f0)) ∧ w50.cell? ⟨(ad138.add ((x11_2).toNat * 2)).block, (ad138.add ((x11_2).toNat * 2)).off + 1, none⟩ = some (.int .i64 ((rd_T25 y135 x11_2).f1)) := hS_
                 refine norm_ (a' := ?_) ?_ ?_
                 rotate_left
                 ·simp only [putAll, Act.put, List.setIfInBounds_toArray, List.set_cons_zero, List.set_cons_succ]
                  rfl
                 refine one_ (i := 13) (N := none) #[true, true, true, true, true, true, true, true, true, true, true, true, true, true, false] rfl rfl (one_of HT_.out (by kernel_rfl)) (by decide) (fun K hK => ?_)
                 have hs51 : w50.cell? ⟨gb149, 0, none⟩ = some (.int .i64 0) := (blk_cell BK149.out 0).trans rfl
                 have hfs51 := blk_frozen BK149.out 0
                 have hns51_0 := NB143_149.out
                 have hms51_0 := NB149_143.out
                 have hs52 : w50.cell? ⟨gb149, 1, none⟩ = some (.int .i64 0) := (blk_cell BK149.out 1).trans rfl
                 have hfs52 := blk_frozen BK149.out 1
                 have hns52_0 := NB143_149.out
                 have hms52_0 := NB149_143.out
                 refine skip_ (w1 := ?_) (by rfl) rfl ?_ ?_
                 rotate_left
                 ·go_simp
                  rfl
                 refine hK.out _ _ ⟨((cell_far (p := ⟨gb149, _, none⟩) (by first | exact Kd.own_blk (Kd.R_away HO_9.out (fun _ hk => hk.2)) | (rw [add_block]; exact Kd.own_blk (Kd.R_away HO_9.out (fun _ hk => hk.2))) | (show (Addr.add _ _).block ≠ _; rw [add_block]; exact Kd.own_blk (Kd.R_away HO_9.out (fun _ hk => hk.2))) | (dsimp only; exact Kd.own_blk (Kd.R_away HO_9.out (fun _ hk => hk.2)))) _).trans (((cell_far (p := ⟨gb149, _, none⟩) (by first | exact Kd.own_blk (Kd.R_away HO_9.out (fun _ hk => hk.2)) | (rw [add_block]; exact Kd.own_blk (Kd.R_away HO_9.out (fun _ hk => hk.2))) | (show (Addr.add _ _).block ≠ _; rw [add_block]; exact Kd.own_blk (Kd.R_away HO_9.out (fun _ hk => hk.2))) | (dsimp only; exact Kd.own_blk (Kd.R_away HO_9.out (fun _ hk => hk.2)))) _).trans (hHeld.1)))), ((cell_far (p := ⟨gb149, _, none⟩) (by first | exact Kd.own_blk (Kd.R_away HO_9.out (fun _ hk => hk.2)) | (rw [add_block]; exact Kd.own_blk (Kd.R_away HO_9.out (fun _ hk => hk.2))) | (show (Addr.add _ _).block ≠ _; rw [add_block]; exact Kd.own_blk (Kd.R_away HO_9.out (fun _ hk => hk.2))) | (dsimp only; exact Kd.own_blk (Kd.R_away HO_9.out (fun _ hk => hk.2)))) _).trans (((cell_far (p := ⟨gb149, _, none⟩) (by first | exact Kd.own_blk (Kd.R_away HO_9.out (fun _ hk => hk.2)) | (rw [add_block]; exact Kd.own_blk (Kd.R_away HO_9.out (fun _ hk => hk.2))) | (show (Addr.add _ _).block ≠ _; rw [add_block]; exact Kd.own_blk (Kd.R_away HO_9.out (fun _ hk => hk.2))) | (dsimp only; exact Kd.own_blk (Kd.R_away HO_9.out (fun _ hk => hk.2)))) _).trans (hHeld.2.1)))), ((cell_far (p := ⟨gb149, _, none⟩) (by first | exact Kd.own_blk (Kd.R_away HO_9.out (fun _ hk => hk.2)) | (rw [add_block]; exact Kd.own_blk (Kd.R_away HO_9.out (fun _ hk => hk.2))) | (show (Addr.add _ _).block ≠ _; rw [add_block]; exact Kd.own_blk (Kd.R_away HO_9.out (fun _ hk => hk.2))) | (dsimp only; exact Kd.own_blk (Kd.R_away HO_9.out (fun _ hk => hk.2)))) _).trans (((cell_far (p := ⟨gb149, _, none⟩) (by first | exact Kd.own_blk (Kd.R_away HO_9.out (fun _ hk => hk.2)) | (rw [add_block]; exact Kd.own_blk (Kd.R_away HO_9.out (fun _ hk => hk.2))) | (show (Addr.add _ _).block ≠ _; rw [add_block]; exact Kd.own_blk (Kd.R_away HO_9.out (fun _ hk => hk.2))) | (dsimp only; exact Kd.own_blk (Kd.R_away HO_9.out (fun _ hk => hk.2)))) _).trans (hHeld.2.2.1)))), ((cell_far (p := ⟨gb149, _, none⟩) (by first | exact Kd.own_blk (Kd.R_away HO_9.out (fun _ hk => hk.2)) | (rw [add_block]; exact Kd.own_blk (Kd.R_away HO_9.out (fun _ hk => hk.2))) | (show (Addr.add _ _).block ≠ _; rw [add_block]; exact Kd.own_blk (Kd.R_away HO_9.out (fun _ hk => hk.2))) | (dsimp only; exact Kd.own_blk (Kd.R_away HO_9.out (fun _ hk => hk.2)))) _).trans (((cell_far (p := ⟨gb149, _, none⟩) (by first | exact Kd.own_blk (Kd.R_away HO_9.out (fun _ hk => hk.2)) | (rw [add_block]; exact Kd.own_blk (Kd.R_away HO_9.out (fun _ hk => hk.2))) | (show (Addr.add _ _).block ≠ _; rw [add_block]; exact Kd.own_blk (Kd.R_away HO_9.out (fun _ hk => hk.2))) | (dsimp only; exact Kd.own_blk (Kd.R_away HO_9.out (fun _ hk => hk.2)))) _).trans (hHeld.2.2.2))))⟩ (fun hHeld => ?_)
                 clear hK K
                 refine pure_ (i := 14) (N := some 15) (v := ?_) (a' := ?_) #[true, true, true, true, true, true, true, true, true, true, true, true, true, true, true] rfl rfl (any_of HT_.out (by kernel_rfl)) (fun _ _ _ h => h) (Or.inl ⟨by rfl, ?_⟩) ?_ ?_
                 rotate_left
                 ·intro w'
                  go_simp
                  with_reducible rfl
                 rotate_left
                 ·simp only [Act.put, List.setIfInBounds_toArray, List.set_cons_zero, List.set_cons_succ, i64_w, i32_w]
                  rfl
                 refine done_ (done_of HT_.out (by kernel_rfl)) ?_
                 try go_wp2
                 have n0_ : Aside0 (Kd.R k25 25 ((w50.setCell ⟨gb149, 0, none⟩ (.int .i64 t146)).setCell ⟨gb149, 1, none⟩ (.int .i64 t147)) w.heap.size (fun k_ => k_ ≠ gb143 ∧ k_ ≠ gb149) (.slice (some ad138) y135.length co21) y135) := ⟨by (with_reducible repeat (first | apply Kd.R_alloc | apply Kd.R_drewN | apply Kd.R_drew)); exact Kd.R_mono (Kd.R_far (p := ⟨gb149, 1, none⟩) (Kd.R_far (p := ⟨gb149, 0, none⟩) (Kd.R_mono HO_9.out (fun k_ hk => (⟨hk, hk.2⟩ : _ ∧ k_ ≠ gb149))) (fun _ hk => hk.2) (.int .i64 t146)) (fun _ hk => hk.2) (.int .i64 t147)) (fun _ hk => ⟨hk.1.1, hk.1.2⟩)⟩
                 have n1_ : Aside0 (((w50.setCell ⟨gb149, 0, none⟩ (.int .i64 t146)).setCell ⟨gb149, 1, none⟩ (.int .i64 t147)).heap[gb143]? = some (.cells #[.int .i64 t140, .int .i64 t141] 25 (0, 0))) := ⟨by (with_reducible repeat (first | refine blk_drewN ?_ _ | refine blk_drew ?_ | refine blk_alloc ?_ _)); refine blk_far ?_ NB143_149.out _; (with_reducible repeat (first | refine blk_drewN ?_ _ | refine blk_drew ?_ | refine blk_alloc ?_ _)); refine blk_far ?_ NB143_149.out _; (with_reducible repeat (first | refine blk_drewN ?_ _ | refine blk_drew ?_ | refine blk_alloc ?_ _)); exact BK143.out⟩
                 have n2_ : Aside0 (((w50.setCell ⟨gb149, 0, none⟩ (.int .i64 t146)).setCell ⟨gb149, 1, none⟩ (.int .i64 t147)).heap[gb149]? = some (.cells #[.int .i64 t146, .int .i64 t147] 25 (0, 0))) := ⟨by (with_reducible repeat (first | refine blk_drewN ?_ _ | refine blk_drew ?_ | refine blk_alloc ?_ _)); refine blk_put (cs := #[.int .i64 t146, .int .i64 0]) ?_ 1 _ rfl; (with_reducible repeat (first | refine blk_drewN ?_ _ | refine blk_drew ?_ | refine blk_alloc ?_ _)); refine blk_put (cs := #[.int .i64 0, .int .i64 0]) ?_ 0 _ rfl; (with_reducible repeat (first | refine blk_drewN ?_ _ | refine blk_drew ?_ | refine blk_alloc ?_ _)); exact BK149.out⟩
                 have n3_ : Aside0 (Below w.heap.size w ((w50.setCell ⟨gb149, 0, none⟩ (.int .i64 t146)).setCell ⟨gb149, 1, none⟩ (.int .i64 t147))) := ⟨by repeat (first | (with_reducible first | exact HB.out | apply below_alloc | apply pw_below_drewN | apply below_drew1 | refine below_set ?_ GE143.out | refine below_set ?_ GE149.out) | exact HB.out)⟩
                 (try clear HO_9)
                 (try clear BK143)
                 (try clear BK149)
                 (try clear HB)
                 generalize ((w50.setCell ⟨gb149, 0, none⟩ (.int .i64 t146)).setCell ⟨gb149, 1, none⟩ (.int .i64 t147)) = w53 at n0_ n1_ n2_ n3_ ⊢
                 have HO_9 := n0_
                 have BK143 := n1_
                 have BK149 := n2_
                 have HB := n3_
                 clear n0_ n1_ n2_ n3_
                 have n0_ := Aside0.mk (Kd.R_drew HO_9.out)
                 have n1_ := Aside0.mk (blk_drew BK143.out)
                 have n2_ := Aside0.mk (blk_drew BK149.out)
                 have n3_ := Aside0.mk (below_drew1 HB.out)
                 clear HO_9
                 clear BK143
                 clear BK149
                 clear HB
                 have HO_9 := n0_
                 have BK143 := n1_
                 have BK149 := n2_
                 have HB := n3_
                 clear n0_ n1_ n2_ n3_
                 have p150 : 0 ≤ (x10_1 : Int) := of_decide_eq_true (by first | (with_reducible assumption) | assumption)
                 have q150 : x10_1 < (y135.length : Int) := of_decide_eq_true (by first | (with_reducible assumption) | assumption)
                 obtain ⟨ad150, e150, hx150_0, hx150_1⟩ := at_T25 (Kd.R_reads' HO_9.out).2.2 x10_1 p150 q150
                 obtain rfl : ad138 = ad150 := (by injection e150)
                 replace p150 := eq_true p150
                 replace q150 := eq_true q150
                 have p151 : 0 ≤ (x11_2 : Int) := of_decide_eq_true (by first | (with_reducible assumption) | assumption)
                 have q151 : x11_2 < (y135.length : Int) := of_decide_eq_true (by first | (with_reducible assumption) | assumption)
                 obtain ⟨ad151, e151, hx151_0, hx151_1⟩ := at_T25 (Kd.R_reads' HO_9.out).2.2 x11_2 p151 q151
                 obtain rfl : ad138 = ad151 := (by injection e151)
                 replace p151 := eq_true p151
                 replace q151 := eq_true q151
                 refine start_ (n := 15) (S := fun w' => w'.cell? (ad138.add ((x10_1).toNat * 2)) = some (.int .i64 ((rd_T25 y135 x10_1).f0)) ∧ w'.cell? ⟨(ad138.add ((x10_1).toNat * 2)).block, (ad138.add ((x10_1).toNat * 2)).off + 1, none⟩ = some (.int .i64 ((rd_T25 y135 x10_1).f1)) ∧ w'.cell? (ad138.add ((x11_2).toNat * 2)) = some (.int .i64 ((rd_T25 y135 x11_2).f0)) ∧ w'.cell? ⟨(ad138.add ((x11_2).toNat * 2)).block, (ad138.add ((x11_2).toNat * 2)).off + 1, none⟩ = some (.int .i64 ((rd_T25 y135 x11_2).f1))) (ds := []) #[false, false, false, false, false, false, false, false, false, false, false, false, false, false, false] (by kernel_rfl) rfl rfl ⟨hx150_0, hx150_1, hx151_0, hx151_1⟩ (fun hHeld => ?_); refine with_tabW joinerylaw1_VecAll.tab12 joinerylaw1_VecAll.bits12 (fun HT_ HW_ => ?_)
                 generalize w53.drew = w54 at HO_9 BK143 BK149 HB hx150_0 hx150_1 hx151_0 hx151_1 hHeld ⊢
                 refine pure_ (i := 0) (N := some 79) (v := ?_) (a' := ?_) #[true, false, false, false, false, false, false, false, false, false, false, false, false, false, false] rfl rfl (any_of HT_.out (by kernel_rfl)) (fun _ _ _ h => h) (Or.inl ⟨by rfl, ?_⟩) ?_ ?_
                 rotate_left
                 ·intro w'
                  go_simp
                  with_reducible rfl
                 rotate_left
                 ·simp only [Act.put, List.setIfInBounds_toArray, List.set_cons_zero, List.set_cons_succ, i64_w, i32_w]
                  rfl
                 refine pure_ (i := 1) (N := some 80) (v := ?_) (a' := ?_) #[true, true, false, false, false, false, false, false, false, false, false, false, false, false, false] rfl rfl (any_of HT_.out (by kernel_rfl)) (fun _ _ _ h => h) (Or.inl ⟨by rfl, ?_⟩) ?_ ?_
                 rotate_left
                 ·intro w'
                  go_simp
                  with_reducible rfl
                 rotate_left
                 ·simp only [Act.put, List.setIfInBounds_toArray, List.set_cons_zero, List.set_cons_succ, i64_w, i32_w]
                  rfl
                 refine pure_ (i := 2) (N := some 81) (v := ?_) (a' := ?_) #[true, true, true, false, false, false, false, false, false, false, false, false, false, false, false] rfl rfl (any_of HT_.out (by kernel_rfl)) (fun _ _ _ h => h) (Or.inl ⟨by rfl, ?_⟩) ?_ ?_
                 rotate_left
                 ·intro w'
                  go_simp
                  with_reducible rfl
                 rotate_left
                 ·simp only [Act.put, List.setIfInBounds_toArray, List.set_cons_zero, List.set_cons_succ, i64_w, i32_w]
                  rfl
                 refine pure_ (i := 4) (N := some 83) (v := ?_) (a' := ?_) #[true, true, true, false, true, false, false, false, false, false, false, false, false, false, false] rfl rfl (any_of HT_.out (by kernel_rfl)) (fun _ _ _ h => h) (Or.inl ⟨by rfl, ?_⟩) ?_ ?_
                 rotate_left
                 ·intro w'
                  go_simp
                  with_reducible rfl
                 rotate_left
                 ·simp only [Act.put, List.setIfInBounds_toArray, List.set_cons_zero, List.set_cons_succ, i64_w, i32_w]
                  rfl
                 refine pure_ (i := 5) (N := some 84) (v := ?_) (a' := ?_) #[true, true, true, false, true, true, false, false, false, false, false, false, false, false, false] rfl rfl (any_of HT_.out (by kernel_rfl)) (fun _ _ _ h => h) (Or.inl ⟨by rfl, ?_⟩) ?_ ?_
                 rotate_left
                 ·intro w'
                  go_simp
                  with_reducible rfl
                 rotate_left
                 ·simp only [Act.put, List.setIfInBounds_toArray, List.set_cons_zero, List.set_cons_succ, i64_w, i32_w]
                  rfl
                 refine pure_ (i := 6) (N := some 85) (v := ?_) (a' := ?_) #[true, true, true, false, true, true, true, false, false, false, false, false, false, false, false] rfl rfl (any_of HT_.out (by kernel_rfl)) (fun _ _ _ h => h) (Or.inl ⟨by rfl, ?_⟩) ?_ ?_
                 rotate_left
                 ·intro w'
                  go_simp
                  with_reducible rfl
                 rotate_left
                 ·simp only [Act.put, List.setIfInBounds_toArray, List.set_cons_zero, List.set_cons_succ, i64_w, i32_w]
                  rfl
                 refine take_ (i := 3) (N := some 82) (v := ?_) (a' := ?_) #[true, true, true, true, true, true, true, false, false, false, false, false, false, false, false] rfl rfl (take_ofW HT_.out HW_.out (by kernel_rfl)) (fun _ _ _ h => h) (Or.inl ⟨by rfl, ?_⟩) hHeld ?_ ?_
                 rotate_left
                 ·rintro w' ⟨s0, s1, s2, s3⟩
                  go_simp
                  with_reducible rfl
                 rotate_left
                 ·simp only [Act.put, List.setIfInBounds_toArray, List.set_cons_zero, List.set_cons_succ, i64_w, i32_w]
                  rfl
                 refine take_ (i := 7) (N := some 86) (v := ?_) (a' := ?_) #[true, true, true, true, true, true, true, true, false, false, false, false, false, false, false] rfl rfl (take_ofW HT_.out HW_.out (by kernel_rfl)) (fun _ _ _ h => h) (Or.inl ⟨by rfl, ?_⟩) hHeld ?_ ?_
                 rotate_left
                 ·rintro w' ⟨s0, s1, s2, s3⟩
                  go_simp
                  with_reducible rfl
                 rotate_left
                 ·simp only [Act.put, List.setIfInBounds_toArray, List.set_cons_zero, List.set_cons_succ, i64_w, i32_w]
                  rfl
                 refine join_ (σ := Nat) 2 #[true, true, true, true, true, true, true, true, true, true, true, true, true, false, false] (fun s_ => [(87, .tuple #[.agg #[.int .i64 t152, .int .i64 t153], .int .i64 t154]), (16, .pointer (some ⟨s_, 0, none⟩)), (78, .tuple #[.agg #[.int .i64 t152, .int .i64 t153], .int .i64 t154]), (88, .agg #[.int .i64 t152, .int .i64 t153]), (89, .int .i64 t154)]) (fun s_ w' => (w'.cell? (ad138.add ((x10_1).toNat * 2)) = some (.int .i64 ((rd_T25 y135 x10_1).f0)) ∧ w'.cell? ⟨(ad138.add ((x10_1).toNat * 2)).block, (ad138.add ((x10_1).toNat * 2)).off + 1, none⟩ = some (.int .i64 ((rd_T25 y135 x10_1).f1)) ∧ w'.cell? (ad138.add ((x11_2).toNat * 2)) = some (.int .i64 ((rd_T25 y135 x11_2).f0)) ∧ w'.cell? ⟨(ad138.add ((x11_2).toNat * 2)).block, (ad138.add ((x11_2).toNat * 2)).off + 1, none⟩ = some (.int .i64 ((rd_T25 y135 x11_2).f1))) ∧ (Kd.R k25 25 w' w.heap.size (fun k_ => k_ ≠ gb143 ∧ k_ ≠ gb149 ∧ k_ ≠ s_) (.slice (some ad138) y135.length co21) y135) ∧ (w'.heap[gb143]? = some (.cells #[.int .i64 t140, .int .i64 t141] 25 (0, 0))) ∧ (w'.heap[gb149]? = some (.cells #[.int .i64 t146, .int .i64 t147] 25 (0, 0))) ∧ (w'.heap[s_]? = some (.cells #[.int .i64 0, .int .i64 0] 25 (0, 0))) ∧ (w.heap.size ≤ s_) ∧ (w.heap.size ≤ s_) ∧ (gb143 ≠ s_) ∧ (s_ ≠ gb143) ∧ (gb149 ≠ s_) ∧ (s_ ≠ gb149) ∧ (Below w.heap.size w w')) ?_ ?_
                 rotate_left
                 ·intro hCont
                  refine two_ (i := 8) (j := 12) (Ni := some 87) (Nj := some 16) #[true, true, true, true, true, true, true, true, true, false, false, false, false, false, false] #[true, true, true, true, true, true, true, true, false, false, false, false, true, false, false] rfl rfl rfl rfl (two_of HT_.out (by kernel_rfl)) (by decide) (by decide) (fun K hK => ?_) (fun K hK => ?_)
                  ·skip
                   refine goes_ Try.func14 (by kernel_rfl) rfl #[.agg #[.int .i64 ((rd_T25 y135 x10_1).f0), .int .i64 ((rd_T25 y135 x10_1).f1)], .agg #[.int .i64 ((rd_T25 y135 x11_2).f0), .int .i64 ((rd_T25 y135 x11_2).f1)]] (by rfl) rfl rfl (by (try simp only [List.map_toArray, List.map_cons, List.map_nil]); first | done | rfl | (simp only [List.length_drop, List.length_take]; rfl)) ?_
                   with_reducible refine (vec_Sub.calls ((rd_T25 y135 x10_1).f0) ((rd_T25 y135 x10_1).f1) ((rd_T25 y135 x11_2).f0) ((rd_T25 y135 x11_2).f1) t152 t153 t154 _ A28.out).mono ?_
                   rintro e w55 ⟨rfl, hb⟩
                   have HS0_ := (hb.cell (World.block_lt_of_cell? _ _ (hHeld.1))).trans (hHeld.1)
                   have HS1_ := (hb.cell (World.block_lt_of_cell? _ _ (hHeld.2.1))).trans (hHeld.2.1)
                   have HS2_ := (hb.cell (World.block_lt_of_cell? _ _ (hHeld.2.2.1))).trans (hHeld.2.2.1)
                   have HS3_ := (hb.cell (World.block_lt_of_cell? _ _ (hHeld.2.2.2))).trans (hHeld.2.2.2)
                   refine ⟨_, rfl, ?_⟩
                   have n0_ := Aside0.mk (Kd.R_below (by (with_reducible repeat (first | apply Kd.R_alloc | apply Kd.R_drewN | apply Kd.R_drew)); exact HO_9.out) hb)
                   have n1_ := Aside0.mk (blk_below (g := gb143) (o := .cells #[.int .i64 t140, .int .i64 t141] 25 (0, 0)) (by (with_reducible repeat (first | refine blk_drewN ?_ _ | refine blk_drew ?_ | refine blk_alloc ?_ _)); exact BK143.out) hb)
                   have n2_ := Aside0.mk (blk_below (g := gb149) (o := .cells #[.int .i64 t146, .int .i64 t147] 25 (0, 0)) (by (with_reducible repeat (first | refine blk_drewN ?_ _ | refine blk_drew ?_ | refine blk_alloc ?_ _)); exact BK149.out) hb)
                   have n3_ := Aside0.mk (below_step (by repeat (first | (with_reducible first | exact HB.out | apply below_alloc | apply pw_below_drewN | apply below_drew1 | refine below_set ?_ GE143.out | refine below_set ?_ GE149.out) | exact HB.out)) hb)
                   clear HO_9
                   clear BK143
                   clear BK149
                   clear HB
                   have HO_9 := n0_
                   have BK143 := n1_
                   have BK149 := n2_
                   have HB := n3_
                   clear n0_ n1_ n2_ n3_
                   (try clear hb)
                   (try clear hb2)
                   (try clear hk)
                   (try clear hi)
                   refine hK.out _ _ ⟨HS0_, HS1_, HS2_, HS3_⟩ (fun hHeld => ?_)
                   clear hK K
                   refine norm_ (a' := ?_) ?_ ?_
                   rotate_left
                   ·show Act.put _ (some 87) _ = _
                    simp only [Act.put, List.setIfInBounds_toArray, List.set_cons_zero, List.set_cons_succ, i64_w, i32_w]
                    rfl
                   refine pure_ (i := 9) (N := some 78) (v := ?_) (a' := ?_) #[true, true, true, true, true, true, true, true, true, true, false, false, false, false, false] rfl rfl (any_of HT_.out (by kernel_rfl)) (fun _ _ _ h => h) (Or.inl ⟨by rfl, ?_⟩) ?_ ?_
                   rotate_left
                   ·intro w'
                    go_simp
                    with_reducible rfl
                   rotate_left
                   ·simp only [Act.put, List.setIfInBounds_toArray, List.set_cons_zero, List.set_cons_succ, i64_w, i32_w]
                    rfl
                   refine pure_ (i := 10) (N := some 88) (v := ?_) (a' := ?_) #[true, true, true, true, true, true, true, true, true, true, true, false, false, false, false] rfl rfl (any_of HT_.out (by kernel_rfl)) (fun _ _ _ h => h) (Or.inl ⟨by rfl, ?_⟩) ?_ ?_
                   rotate_left
                   ·intro w'
                    go_simp
                    with_reducible rfl
                   rotate_left
                   ·simp only [Act.put, List.setIfInBounds_toArray, List.set_cons_zero, List.set_cons_succ, i64_w, i32_w]
                    rfl
                   refine pure_ (i := 11) (N := some 89) (v := ?_) (a' := ?_) #[true, true, true, true, true, true, true, true, true, true, true, true, false, false, false] rfl rfl (any_of HT_.out (by kernel_rfl)) (fun _ _ _ h => h) (Or.inl ⟨by rfl, ?_⟩) ?_ ?_
                   rotate_left
                   ·intro w'
                    go_simp
                    with_reducible rfl
                   rotate_left
                   ·simp only [Act.put, List.setIfInBounds_toArray, List.set_cons_zero, List.set_cons_succ, i64_w, i32_w]
                    rfl
                   refine one_ (i := 12) (N := some 16) #[true, true, true, true, true, true, true, true, true, true, true, true, true, false, false] rfl rfl (one_of HT_.out (by kernel_rfl)) (by decide) (fun K hK => ?_)
                   refine box_step ?hg (N := 16) ?hd (cs := #[.int .i64 0, .int .i64 0]) (t := 25) ?hr ?_; (case hd => rfl); (case hg => rfl); (case hr => first | (go_simp; done) | (go_simp; rfl))
                   intro gb155 hg w56 hbox hb
                   have HS0_ := (hb.cell (World.block_lt_of_cell? _ _ (hHeld.1))).trans (hHeld.1)
                   have HS1_ := (hb.cell (World.block_lt_of_cell? _ _ (hHeld.2.1))).trans (hHeld.2.1)
                   have HS2_ := (hb.cell (World.block_lt_of_cell? _ _ (hHeld.2.2.1))).trans (hHeld.2.2.1)
                   have HS3_ := (hb.cell (World.block_lt_of_cell? _ _ (hHeld.2.2.2))).trans (hHeld.2.2.2)
                   have n0_ := Aside0.mk (Kd.R_below (Kd.R_elderB (by (with_reducible repeat (first | apply Kd.R_alloc | apply Kd.R_drewN | apply Kd.R_drew)); exact HO_9.out) gb155 (Nat.le_of_eq hg.symm)) hb)
                   have n1_ := Aside0.mk (blk_below (g := gb143) (o := .cells #[.int .i64 t140, .int .i64 t141] 25 (0, 0)) (by (with_reducible repeat (first | refine blk_drewN ?_ _ | refine blk_drew ?_ | refine blk_alloc ?_ _)); exact BK143.out) hb)
                   have n2_ := Aside0.mk (blk_below (g := gb149) (o := .cells #[.int .i64 t146, .int .i64 t147] 25 (0, 0)) (by (with_reducible repeat (first | refine blk_drewN ?_ _ | refine blk_drew ?_ | refine blk_alloc ?_ _)); exact BK149.out) hb)
                   have n3_ := Aside0.mk (below_step (by repeat (first | (with_reducible first | exact HB.out | apply below_alloc | apply pw_below_drewN | apply below_drew1 | refine below_set ?_ GE143.out | refine below_set ?_ GE149.out) | exact HB.out)) hb)
                   have n4_ := Aside0.mk (hbox)
                   have n5_ := Aside0.mk ((by rw [hg]; exact (below_size (by repeat (first | (with_reducible first | exact HB.out | apply below_alloc | apply pw_below_drewN | apply below_drew1 | refine below_set ?_ GE143.out | refine below_set ?_ GE149.out) | exact HB.out))) : w.heap.size ≤ gb155))
                   have n6_ := Aside0.mk ((by rw [hg]; exact (below_size (by repeat (first | (with_reducible first | exact HB.out | apply below_alloc | apply pw_below_drewN | apply below_drew1 | refine below_set ?_ GE143.out | refine below_set ?_ GE149.out) | exact HB.out))) : w.heap.size ≤ gb155))
                   have n7_ := Aside0.mk ((by rw [hg]; exact Nat.ne_of_lt (blk_lt (g := gb143) (o := .cells #[.int .i64 t140, .int .i64 t141] 25 (0, 0)) (by (with_reducible repeat (first | refine blk_drewN ?_ _ | refine blk_drew ?_ | refine blk_alloc ?_ _)); exact BK143.out)) : gb143 ≠ gb155))
                   have n8_ := Aside0.mk ((by rw [hg]; exact Nat.ne_of_gt (blk_lt (g := gb143) (o := .cells #[.int .i64 t140, .int .i64 t141] 25 (0, 0)) (by (with_reducible repeat (first | refine blk_drewN ?_ _ | refine blk_drew ?_ | refine blk_alloc ?_ _)); exact BK143.out)) : gb155 ≠ gb143))
                   have n9_ := Aside0.mk ((by rw [hg]; exact Nat.ne_of_lt (blk_lt (g := gb149) (o := .cells #[.int .i64 t146, .int .i64 t147] 25 (0, 0)) (by (with_reducible repeat (first | refine blk_drewN ?_ _ | refine blk_drew ?_ | refine blk_alloc ?_ _)); exact BK149.out)) : gb149 ≠ gb155))
                   have n10_ := Aside0.mk ((by rw [hg]; exact Nat.ne_of_gt (blk_lt (g := gb149) (o := .cells #[.int .i64 t146, .int .i64 t147] 25 (0, 0)) (by (with_reducible repeat (first | refine blk_drewN ?_ _ | refine blk_drew ?_ | refine blk_alloc ?_ _)); exact BK149.out)) : gb155 ≠ gb149))
                   clear HO_9
                   clear BK143
                   clear BK149
                   clear HB
                   have HO_9 := n0_
                   have BK143 := n1_
                   have BK149 := n2_
                   have HB := n3_
                   have BK155 := n4_
                   have GW155 := n5_
                   have GE155 := n6_
                   have NB143_155 := n7_
                   have NB155_143 := n8_
                   have NB149_155 := n9_
                   have NB155_149 := n10_
                   clear n0_ n1_ n2_ n3_ n4_ n5_ n6_ n7_ n8_ n9_ n10_
                   clear hb hbox hg
                   refine hK.out _ _ ⟨HS0_, HS1_, HS2_, HS3_⟩ (fun hHeld => ?_)
                   clear hK K
                   refine norm_ (a' := ?_) ?_ ?_
                   rotate_left
                   ·show Act.put _ (some 16) _ = _
                    simp only [Act.put, List.setIfInBounds_toArray, List.set_cons_zero, List.set_cons_succ, i64_w, i32_w]
                    rfl
                   exact norm_ (by simp only [putAll, Act.put, List.setIfInBounds_toArray, List.set_cons_zero, List.set_cons_succ]) (hCont (gb155) _ ⟨hHeld, (by (with_reducible repeat (first | apply Kd.R_alloc | apply Kd.R_drewN | apply Kd.R_drew)); exact Kd.R_mono HO_9.out (fun _ hk => ⟨hk.1.1, ⟨hk.1.2, hk.2⟩⟩)), (by (with_reducible repeat (first | refine blk_drewN ?_ _ | refine blk_drew ?_ | refine blk_alloc ?_ _)); exact BK143.out), (by (with_reducible repeat (first | refine blk_drewN ?_ _ | refine blk_drew ?_ | refine blk_alloc ?_ _)); exact BK149.out), (by (with_reducible repeat (first | refine blk_drewN ?_ _ | refine blk_drew ?_ | refine blk_alloc ?_ _)); exact BK155.out), GW155.out, GE155.out, NB143_155.out, NB155_143.out, NB149_155.out, NB155_149.out, (by repeat (first | (with_reducible first | exact HB.out | apply below_alloc | apply pw_below_drewN | apply below_drew1 | refine below_set ?_ GE143.out | refine below_set ?_ GE149.out | refine below_set ?_ GE155.out) | exact HB.out))⟩)
                  ·skip
                   refine box_step ?hg (N := 16) ?hd (cs := #[.int .i64 0, .int .i64 0]) (t := 25) ?hr ?_; (case hd => rfl); (case hg => rfl); (case hr => first | (go_simp; done) | (go_simp; rfl))
                   intro gb155 hg w55 hbox hb
                   have HS0_ := (hb.cell (World.block_lt_of_cell? _ _ (hHeld.1))).trans (hHeld.1)
                   have HS1_ := (hb.cell (World.block_lt_of_cell? _ _ (hHeld.2.1))).trans (hHeld.2.1)
                   have HS2_ := (hb.cell (World.block_lt_of_cell? _ _ (hHeld.2.2.1))).trans (hHeld.2.2.1)
                   have HS3_ := (hb.cell (World.block_lt_of_cell? _ _ (hHeld.2.2.2))).trans (hHeld.2.2.2)
                   have n0_ := Aside0.mk (Kd.R_below (Kd.R_elderB (by (with_reducible repeat (first | apply Kd.R_alloc | apply Kd.R_drewN | apply Kd.R_drew)); exact HO_9.out) gb155 (Nat.le_of_eq hg.symm)) hb)
                   have n1_ := Aside0.mk (blk_below (g := gb143) (o := .cells #[.int .i64 t140, .int .i64 t141] 25 (0, 0)) (by (with_reducible repeat (first | refine blk_drewN ?_ _ | refine blk_drew ?_ | refine blk_alloc ?_ _)); exact BK143.out) hb)
                   have n2_ := Aside0.mk (blk_below (g := gb149) (o := .cells #[.int .i64 t146, .int .i64 t147] 25 (0, 0)) (by (with_reducible repeat (first | refine blk_drewN ?_ _ | refine blk_drew ?_ | refine blk_alloc ?_ _)); exact BK149.out) hb)
                   have n3_ := Aside0.mk (below_step (by repeat (first | (with_reducible first | exact HB.out | apply below_alloc | apply pw_below_drewN | apply below_drew1 | refine below_set ?_ GE143.out | refine below_set ?_ GE149.out) | exact HB.out)) hb)
                   have n4_ := Aside0.mk (hbox)
                   have n5_ := Aside0.mk ((by rw [hg]; exact (below_size (by repeat (first | (with_reducible first | exact HB.out | apply below_alloc | apply pw_below_drewN | apply below_drew1 | refine below_set ?_ GE143.out | refine below_set ?_ GE149.out) | exact HB.out))) : w.heap.size ≤ gb155))
                   have n6_ := Aside0.mk ((by rw [hg]; exact (below_size (by repeat (first | (with_reducible first | exact HB.out | apply below_alloc | apply pw_below_drewN | apply below_drew1 | refine below_set ?_ GE143.out | refine below_set ?_ GE149.out) | exact HB.out))) : w.heap.size ≤ gb155))
                   have n7_ := Aside0.mk ((by rw [hg]; exact Nat.ne_of_lt (blk_lt (g := gb143) (o := .cells #[.int .i64 t140, .int .i64 t141] 25 (0, 0)) (by (with_reducible repeat (first | refine blk_drewN ?_ _ | refine blk_drew ?_ | refine blk_alloc ?_ _)); exact BK143.out)) : gb143 ≠ gb155))
                   have n8_ := Aside0.mk ((by rw [hg]; exact Nat.ne_of_gt (blk_lt (g := gb143) (o := .cells #[.int .i64 t140, .int .i64 t141] 25 (0, 0)) (by (with_reducible repeat (first | refine blk_drewN ?_ _ | refine blk_drew ?_ | refine blk_alloc ?_ _)); exact BK143.out)) : gb155 ≠ gb143))
                   have n9_ := Aside0.mk ((by rw [hg]; exact Nat.ne_of_lt (blk_lt (g := gb149) (o := .cells #[.int .i64 t146, .int .i64 t147] 25 (0, 0)) (by (with_reducible repeat (first | refine blk_drewN ?_ _ | refine blk_drew ?_ | refine blk_alloc ?_ _)); exact BK149.out)) : gb149 ≠ gb155))
                   have n10_ := Aside0.mk ((by rw [hg]; exact Nat.ne_of_gt (blk_lt (g := gb149) (o := .cells #[.int .i64 t146, .int .i64 t147] 25 (0, 0)) (by (with_reducible repeat (first | refine blk_drewN ?_ _ | refine blk_drew ?_ | refine blk_alloc ?_ _)); exact BK149.out)) : gb155 ≠ gb149))
                   clear HO_9
                   clear BK143
                   clear BK149
                   clear HB
                   have HO_9 := n0_
                   have BK143 := n1_
                   have BK149 := n2_
                   have HB := n3_
                   have BK155 := n4_
                   have GW155 := n5_
                   have GE155 := n6_
                   have NB143_155 := n7_
                   have NB155_143 := n8_
                   have NB149_155 := n9_
                   have NB155_149 := n10_
                   clear n0_ n1_ n2_ n3_ n4_ n5_ n6_ n7_ n8_ n9_ n10_
                   clear hb hbox hg
                   refine hK.out _ _ ⟨HS0_, HS1_, HS2_, HS3_⟩ (fun hHeld => ?_)
                   clear hK K
                   refine norm_ (a' := ?_) ?_ ?_
                   rotate_left
                   ·show Act.put _ (some 16) _ = _
                    simp only [Act.put, List.setIfInBounds_toArray, List.set_cons_zero, List.set_cons_succ, i64_w, i32_w]
                    rfl
                   refine one_ (i := 8) (N := some 87) #[true, true, true, true, true, true, true, true, true, false, false, false, true, false, false] rfl rfl (one_of HT_.out (by kernel_rfl)) (by decide) (fun K hK => ?_)
                   refine goes_ Try.func14 (by kernel_rfl) rfl #[.agg #[.int .i64 ((rd_T25 y135 x10_1).f0), .int .i64 ((rd_T25 y135 x10_1).f1)], .agg #[.int .i64 ((rd_T25 y135 x11_2).f0), .int .i64 ((rd_T25 y135 x11_2).f1)]] (by rfl) rfl rfl (by (try simp only [List.map_toArray, List.map_cons, List.map_nil]); first | done | rfl | (simp only [List.length_drop, List.length_take]; rfl)) ?_
                   with_reducible refine (vec_Sub.calls ((rd_T25 y135 x10_1).f0) ((rd_T25 y135 x10_1).f1) ((rd_T25 y135 x11_2).f0) ((rd_T25 y135 x11_2).f1) t152 t153 t154 _ A28.out).mono ?_
                   rintro e w56 ⟨rfl, hb⟩
                   have HS0_ := (hb.cell (World.block_lt_of_cell? _ _ (hHeld.1))).trans (hHeld.1)
                   have HS1_ := (hb.cell (World.block_lt_of_cell? _ _ (hHeld.2.1))).trans (hHeld.2.1)
                   have HS2_ := (hb.cell (World.block_lt_of_cell? _ _ (hHeld.2.2.1))).trans (hHeld.2.2.1)
                   have HS3_ := (hb.cell (World.block_lt_of_cell? _ _ (hHeld.2.2.2))).trans (hHeld.2.2.2)
                   refine ⟨_, rfl, ?_⟩
                   have n0_ := Aside0.mk (Kd.R_below (by (with_reducible repeat (first | apply Kd.R_alloc | apply Kd.R_drewN | apply Kd.R_drew)); exact HO_9.out) hb)
                   have n1_ := Aside0.mk (blk_below (g := gb143) (o := .cells #[.int .i64 t140, .int .i64 t141] 25 (0, 0)) (by (with_reducible repeat (first | refine blk_drewN ?_ _ | refine blk_drew ?_ | refine blk_alloc ?_ _)); exact BK143.out) hb)
                   have n2_ := Aside0.mk (blk_below (g := gb149) (o := .cells #[.int .i64 t146, .int .i64 t147] 25 (0, 0)) (by (with_reducible repeat (first | refine blk_drewN ?_ _ | refine blk_drew ?_ | refine blk_alloc ?_ _)); exact BK149.out) hb)
                   have n3_ := Aside0.mk (blk_below (g := gb155) (o := .cells #[.int .i64 0, .int .i64 0] 25 (0, 0)) (by (with_reducible repeat (first | refine blk_drewN ?_ _ | refine blk_drew ?_ | refine blk_alloc ?_ _)); exact BK155.out) hb)
                   have n4_ := Aside0.mk (below_step (by repeat (first | (with_reducible first | exact HB.out | apply below_alloc | apply pw_below_drewN | apply below_drew1 | refine below_set ?_ GE143.out | refine below_set ?_ GE149.out | refine below_set ?_ GE155.out) | exact HB.out)) hb)
                   clear HO_9
                   clear BK143
                   clear BK149
                   clear BK155
                   clear HB
                   have HO_9 := n0_
                   have BK143 := n1_
                   have BK149 := n2_
                   have BK155 := n3_
                   have HB := n4_
                   clear n0_ n1_ n2_ n3_ n4_
                   (try clear hb)
                   (try clear hb2)
                   (try clear hk)
                   (try clear hi)
                   refine hK.out _ _ ⟨HS0_, HS1_, HS2_, HS3_⟩ (fun hHeld => ?_)
                   clear hK K
                   refine norm_ (a' := ?_) ?_ ?_
                   rotate_left
                   ·show Act.put _ (some 87) _ = _
                    simp only [Act.put, List.setIfInBounds_toArray, List.set_cons_zero, List.set_cons_succ, i64_w, i32_w]
                    rfl
                   refine pure_ (i := 9) (N := some 78) (v := ?_) (a' := ?_) #[true, true, true, true, true, true, true, true, true, true, false, false, true, false, false] rfl rfl (any_of HT_.out (by kernel_rfl)) (fun _ _ _ h => h) (Or.inl ⟨by rfl, ?_⟩) ?_ ?_
                   rotate_left
                   ·intro w'
                    go_simp
                    with_reducible rfl
                   rotate_left
                   ·simp only [Act.put, List.setIfInBounds_toArray, List.set_cons_zero, List.set_cons_succ, i64_w, i32_w]
                    rfl
                   refine pure_ (i := 10) (N := some 88) (v := ?_) (a' := ?_) #[true, true, true, true, true, true, true, true, true, true, true, false, true, false, false] rfl rfl (any_of HT_.out (by kernel_rfl)) (fun _ _ _ h => h) (Or.inl ⟨by rfl, ?_⟩) ?_ ?_
                   rotate_left
                   ·intro w'
                    go_simp
                    with_reducible rfl
                   rotate_left
                   ·simp only [Act.put, List.setIfInBounds_toArray, List.set_cons_zero, List.set_cons_succ, i64_w, i32_w]
                    rfl
                   refine pure_ (i := 11) (N := some 89) (v := ?_) (a' := ?_) #[true, true, true, true, true, true, true, true, true, true, true, true, true, false, false] rfl rfl (any_of HT_.out (by kernel_rfl)) (fun _ _ _ h => h) (Or.inl ⟨by rfl, ?_⟩) ?_ ?_
                   rotate_left
                   ·intro w'
                    go_simp
                    with_reducible rfl
                   rotate_left
                   ·simp only [Act.put, List.setIfInBounds_toArray, List.set_cons_zero, List.set_cons_succ, i64_w, i32_w]
                    rfl
                   exact norm_ (by simp only [putAll, Act.put, List.setIfInBounds_toArray, List.set_cons_zero, List.set_cons_succ]) (hCont (gb155) _ ⟨hHeld, (by (with_reducible repeat (first | apply Kd.R_alloc | apply Kd.R_drewN | apply Kd.R_drew)); exact Kd.R_mono HO_9.out (fun _ hk => ⟨hk.1.1, ⟨hk.1.2, hk.2⟩⟩)), (by (with_reducible repeat (first | refine blk_drewN ?_ _ | refine blk_drew ?_ | refine blk_alloc ?_ _)); exact BK143.out), (by (with_reducible repeat (first | refine blk_drewN ?_ _ | refine blk_drew ?_ | refine blk_alloc ?_ _)); exact BK149.out), (by (with_reducible repeat (first | refine blk_drewN ?_ _ | refine blk_drew ?_ | refine blk_alloc ?_ _)); exact BK155.out), GW155.out, GE155.out, NB143_155.out, NB155_143.out, NB149_155.out, NB155_149.out, (by repeat (first | (with_reducible first | exact HB.out | apply below_alloc | apply pw_below_drewN | apply below_drew1 | refine below_set ?_ GE143.out | refine below_set ?_ GE149.out | refine below_set ?_ GE155.out) | exact HB.out))⟩)
                 rintro gb155 w57 ⟨hS_, h0_, h1_, h2_, h3_, h4_, h5_, h6_, h7_, h8_, h9_, h10_⟩
                 have n0_ : Aside0 (Kd.R k25 25 w57 w.heap.size (fun k_ => k_ ≠ gb143 ∧ k_ ≠ gb149 ∧ k_ ≠ gb155) (.slice (some ad138) y135.length co21) y135) := ⟨h0_⟩
                 have n1_ : Aside0 (w57.heap[gb143]? = some (.cells #[.int .i64 t140, .int .i64 t141] 25 (0, 0))) := ⟨h1_⟩
                 have n2_ : Aside0 (w57.heap[gb149]? = some (.cells #[.int .i64 t146, .int .i64 t147] 25 (0, 0))) := ⟨h2_⟩
                 have n3_ : Aside0 (w57.heap[gb155]? = some (.cells #[.int .i64 0, .int .i64 0] 25 (0, 0))) := ⟨h3_⟩
                 have n4_ : Aside0 (w.heap.size ≤ gb155) := ⟨h4_⟩
                 have n5_ : Aside0 (w.heap.size ≤ gb155) := ⟨h5_⟩
                 have n6_ : Aside0 (gb143 ≠ gb155) := ⟨h6_⟩
                 have n7_ : Aside0 (gb155 ≠ gb143) := ⟨h7_⟩
                 have n8_ : Aside0 (gb149 ≠ gb155) := ⟨h8_⟩
                 have n9_ : Aside0 (gb155 ≠ gb149) := ⟨h9_⟩
                 have n10_ : Aside0 (Below w.heap.size w w57) := ⟨h10_⟩
                 clear HO_9
                 clear BK143
                 clear BK149
                 clear HB
                 clear h0_ h1_ h2_ h3_ h4_ h5_ h6_ h7_ h8_ h9_ h10_
                 have HO_9 := n0_
                 have BK143 := n1_
                 have BK149 := n2_
                 have BK155 := n3_
                 have GW155 := n4_
                 have GE155 := n5_
                 have NB143_155 := n6_
                 have NB155_143 := n7_
                 have NB149_155 := n8_
                 have NB155_149 := n9_
                 have HB := n10_
                 clear n0_ n1_ n2_ n3_ n4_ n5_ n6_ n7_ n8_ n9_ n10_
                 have hHeld : w57.cell? (ad138.add ((x10_1).toNat * 2)) = some (.int .i64 ((rd_T25 y135 x10_1).f0)) ∧ w57.cell? ⟨(ad138.add ((x10_1).toNat * 2)).block, (ad138.add ((x10_1).toNat * 2)).off + 1, none⟩ = some (.int .i64 ((rd_T25 y135 x10_1).f1)) ∧ w57.cell? (ad138.add ((x11_2).toNat * 2)) = some (.int .i64 ((rd_T25 y135 x11_2).f0)) ∧ w57.cell? ⟨(ad138.add ((x11_2).toNat * 2)).block, (ad138.add ((x11_2).toNat * 2)).off + 1, none⟩ = some (.int .i64 ((rd_T25 y135 x11_2).f1)) := hS_
                 refine norm_ (a' := ?_) ?_ ?_
                 rotate_left
                 ·simp only [putAll, Act.put, List.setIfInBounds_toArray, List.set_cons_zero, List.set_cons_succ]
                  rfl
                 refine one_ (i := 13) (N := none) #[true, true, true, true, true, true, true, true, true, true, true, true, true, true, false] rfl rfl (one_of HT_.out (by kernel_rfl)) (by decide) (fun K hK => ?_)
                 have hs58 : w57.cell? ⟨gb155, 0, none⟩ = some (.int .i64 0) := (blk_cell BK155.out 0).trans rfl
                 have hfs58 := blk_frozen BK155.out 0
                 have hns58_0 := NB143_155.out
                 have hns58_1 := NB149_155.out
                 have hms58_0 := NB155_143.out
                 have hms58_1 := NB155_149.out
                 have hs59 : w57.cell? ⟨gb155, 1, none⟩ = some (.int .i64 0) := (blk_cell BK155.out 1).trans rfl
                 have hfs59 := blk_frozen BK155.out 1
                 have hns59_0 := NB143_155.out
                 have hns59_1 := NB149_155.out
                 have hms59_0 := NB155_143.out
                 have hms59_1 := NB155_149.out
                 refine skip_ (w1 := ?_) (by rfl) rfl ?_ ?_
                 rotate_left
                 ·go_simp
                  rfl
                 refine hK.out _ _ ⟨((cell_far (p := ⟨gb155, _, none⟩) (by first | exact Kd.own_blk (Kd.R_away HO_9.out (fun _ hk => hk.2.2)) | (rw [add_block]; exact Kd.own_blk (Kd.R_away HO_9.out (fun _ hk => hk.2.2))) | (show (Addr.add _ _).block ≠ _; rw [add_block]; exact Kd.own_blk (Kd.R_away HO_9.out (fun _ hk => hk.2.2))) | (dsimp only; exact Kd.own_blk (Kd.R_away HO_9.out (fun _ hk => hk.2.2)))) _).trans (((cell_far (p := ⟨gb155, _, none⟩) (by first | exact Kd.own_blk (Kd.R_away HO_9.out (fun _ hk => hk.2.2)) | (rw [add_block]; exact Kd.own_blk (Kd.R_away HO_9.out (fun _ hk => hk.2.2))) | (show (Addr.add _ _).block ≠ _; rw [add_block]; exact Kd.own_blk (Kd.R_away HO_9.out (fun _ hk => hk.2.2))) | (dsimp only; exact Kd.own_blk (Kd.R_away HO_9.out (fun _ hk => hk.2.2)))) _).trans (hHeld.1)))), ((cell_far (p := ⟨gb155, _, none⟩) (by first | exact Kd.own_blk (Kd.R_away HO_9.out (fun _ hk => hk.2.2)) | (rw [add_block]; exact Kd.own_blk (Kd.R_away HO_9.out (fun _ hk => hk.2.2))) | (show (Addr.add _ _).block ≠ _; rw [add_block]; exact Kd.own_blk (Kd.R_away HO_9.out (fun _ hk => hk.2.2))) | (dsimp only; exact Kd.own_blk (Kd.R_away HO_9.out (fun _ hk => hk.2.2)))) _).trans (((cell_far (p := ⟨gb155, _, none⟩) (by first | exact Kd.own_blk (Kd.R_away HO_9.out (fun _ hk => hk.2.2)) | (rw [add_block]; exact Kd.own_blk (Kd.R_away HO_9.out (fun _ hk => hk.2.2))) | (show (Addr.add _ _).block ≠ _; rw [add_block]; exact Kd.own_blk (Kd.R_away HO_9.out (fun _ hk => hk.2.2))) | (dsimp only; exact Kd.own_blk (Kd.R_away HO_9.out (fun _ hk => hk.2.2)))) _).trans (hHeld.2.1)))), ((cell_far (p := ⟨gb155, _, none⟩) (by first | exact Kd.own_blk (Kd.R_away HO_9.out (fun _ hk => hk.2.2)) | (rw [add_block]; exact Kd.own_blk (Kd.R_away HO_9.out (fun _ hk => hk.2.2))) | (show (Addr.add _ _).block ≠ _; rw [add_block]; exact Kd.own_blk (Kd.R_away HO_9.out (fun _ hk => hk.2.2))) | (dsimp only; exact Kd.own_blk (Kd.R_away HO_9.out (fun _ hk => hk.2.2)))) _).trans (((cell_far (p := ⟨gb155, _, none⟩) (by first | exact Kd.own_blk (Kd.R_away HO_9.out (fun _ hk => hk.2.2)) | (rw [add_block]; exact Kd.own_blk (Kd.R_away HO_9.out (fun _ hk => hk.2.2))) | (show (Addr.add _ _).block ≠ _; rw [add_block]; exact Kd.own_blk (Kd.R_away HO_9.out (fun _ hk => hk.2.2))) | (dsimp only; exact Kd.own_blk (Kd.R_away HO_9.out (fun _ hk => hk.2.2)))) _).trans (hHeld.2.2.1)))), ((cell_far (p := ⟨gb155, _, none⟩) (by first | exact Kd.own_blk (Kd.R_away HO_9.out (fun _ hk => hk.2.2)) | (rw [add_block]; exact Kd.own_blk (Kd.R_away HO_9.out (fun _ hk => hk.2.2))) | (show (Addr.add _ _).block ≠ _; rw [add_block]; exact Kd.own_blk (Kd.R_away HO_9.out (fun _ hk => hk.2.2))) | (dsimp only; exact Kd.own_blk (Kd.R_away HO_9.out (fun _ hk => hk.2.2)))) _).trans (((cell_far (p := ⟨gb155, _, none⟩) (by first | exact Kd.own_blk (Kd.R_away HO_9.out (fun _ hk => hk.2.2)) | (rw [add_block]; exact Kd.own_blk (Kd.R_away HO_9.out (fun _ hk => hk.2.2))) | (show (Addr.add _ _).block ≠ _; rw [add_block]; exact Kd.own_blk (Kd.R_away HO_9.out (fun _ hk => hk.2.2))) | (dsimp only; exact Kd.own_blk (Kd.R_away HO_9.out (fun _ hk => hk.2.2)))) _).trans (hHeld.2.2.2))))⟩ (fun hHeld => ?_)
                 clear hK K
                 refine pure_ (i := 14) (N := some 17) (v := ?_) (a' := ?_) #[true, true, true, true, true, true, true, true, true, true, true, true, true, true, true] rfl rfl (any_of HT_.out (by kernel_rfl)) (fun _ _ _ h => h) (Or.inl ⟨by rfl, ?_⟩) ?_ ?_
                 rotate_left
                 ·intro w'
                  go_simp
                  with_reducible rfl
                 rotate_left
                 ·simp only [Act.put, List.setIfInBounds_toArray, List.set_cons_zero, List.set_cons_succ, i64_w, i32_w]
                  rfl
                 refine done_ (done_of HT_.out (by kernel_rfl)) ?_
                 try go_wp2
                 have n0_ : Aside0 (Kd.R k25 25 ((w57.setCell ⟨gb155, 0, none⟩ (.int .i64 t152)).setCell ⟨gb155, 1, none⟩ (.int .i64 t153)) w.heap.size (fun k_ => k_ ≠ gb143 ∧ k_ ≠ gb149 ∧ k_ ≠ gb155) (.slice (some ad138) y135.length co21) y135) := ⟨by (with_reducible repeat (first | apply Kd.R_alloc | apply Kd.R_drewN | apply Kd.R_drew)); exact Kd.R_mono (Kd.R_far (p := ⟨gb155, 1, none⟩) (Kd.R_far (p := ⟨gb155, 0, none⟩) (Kd.R_mono HO_9.out (fun k_ hk => (⟨hk, hk.2.2⟩ : _ ∧ k_ ≠ gb155))) (fun _ hk => hk.2) (.int .i64 t152)) (fun _ hk => hk.2) (.int .i64 t153)) (fun _ hk => ⟨hk.1.1, ⟨hk.1.2.1, hk.1.2.2⟩⟩)⟩
                 have n1_ : Aside0 (((w57.setCell ⟨gb155, 0, none⟩ (.int .i64 t152)).setCell ⟨gb155, 1, none⟩ (.int .i64 t153)).heap[gb143]? = some (.cells #[.int .i64 t140, .int .i64 t141] 25 (0, 0))) := ⟨by (with_reducible repeat (first | refine blk_drewN ?_ _ | refine blk_drew ?_ | refine blk_alloc ?_ _)); refine blk_far ?_ NB143_155.out _; (with_reducible repeat (first | refine blk_drewN ?_ _ | refine blk_drew ?_ | refine blk_alloc ?_ _)); refine blk_far ?_ NB143_155.out _; (with_reducible repeat (first | refine blk_drewN ?_ _ | refine blk_drew ?_ | refine blk_alloc ?_ _)); exact BK143.out⟩
                 have n2_ : Aside0 (((w57.setCell ⟨gb155, 0, none⟩ (.int .i64 t152)).setCell ⟨gb155, 1, none⟩ (.int .i64 t153)).heap[gb149]? = some (.cells #[.int .i64 t146, .int .i64 t147] 25 (0, 0))) := ⟨by (with_reducible repeat (first | refine blk_drewN ?_ _ | refine blk_drew ?_ | refine blk_alloc ?_ _)); refine blk_far ?_ NB149_155.out _; (with_reducible repeat (first | refine blk_drewN ?_ _ | refine blk_drew ?_ | refine blk_alloc ?_ _)); refine blk_far ?_ NB149_155.out _; (with_reducible repeat (first | refine blk_drewN ?_ _ | refine blk_drew ?_ | refine blk_alloc ?_ _)); exact BK149.out⟩
                 have n3_ : Aside0 (((w57.setCell ⟨gb155, 0, none⟩ (.int .i64 t152)).setCell ⟨gb155, 1, none⟩ (.int .i64 t153)).heap[gb155]? = some (.cells #[.int .i64 t152, .int .i64 t153] 25 (0, 0))) := ⟨by (with_reducible repeat (first | refine blk_drewN ?_ _ | refine blk_drew ?_ | refine blk_alloc ?_ _)); refine blk_put (cs := #[.int .i64 t152, .int .i64 0]) ?_ 1 _ rfl; (with_reducible repeat (first | refine blk_drewN ?_ _ | refine blk_drew ?_ | refine blk_alloc ?_ _)); refine blk_put (cs := #[.int .i64 0, .int .i64 0]) ?_ 0 _ rfl; (with_reducible repeat (first | refine blk_drewN ?_ _ | refine blk_drew ?_ | refine blk_alloc ?_ _)); exact BK155.out⟩
                 have n4_ : Aside0 (Below w.heap.size w ((w57.setCell ⟨gb155, 0, none⟩ (.int .i64 t152)).setCell ⟨gb155, 1, none⟩ (.int .i64 t153))) := ⟨by repeat (first | (with_reducible first | exact HB.out | apply below_alloc | apply pw_below_drewN | apply below_drew1 | refine below_set ?_ GE143.out | refine below_set ?_ GE149.out | refine below_set ?_ GE155.out) | exact HB.out)⟩
                 (try clear HO_9)
                 (try clear BK143)
                 (try clear BK149)
                 (try clear BK155)
                 (try clear HB)
                 generalize ((w57.setCell ⟨gb155, 0, none⟩ (.int .i64 t152)).setCell ⟨gb155, 1, none⟩ (.int .i64 t153)) = w60 at n0_ n1_ n2_ n3_ n4_ ⊢
                 have HO_9 := n0_
                 have BK143 := n1_
                 have BK149 := n2_
                 have BK155 := n3_
                 have HB := n4_
                 clear n0_ n1_ n2_ n3_ n4_
                 have n0_ := Aside0.mk (Kd.R_drew HO_9.out)
                 have n1_ := Aside0.mk (blk_drew BK143.out)
                 have n2_ := Aside0.mk (blk_drew BK149.out)
                 have n3_ := Aside0.mk (blk_drew BK155.out)
                 have n4_ := Aside0.mk (below_drew1 HB.out)
                 clear HO_9
                 clear BK143
                 clear BK149
                 clear BK155
                 clear HB
                 have HO_9 := n0_
                 have BK143 := n1_
                 have BK149 := n2_
                 have BK155 := n3_
                 have HB := n4_
                 clear n0_ n1_ n2_ n3_ n4_
                 have p156 : 0 ≤ (x10_1 : Int) := of_decide_eq_true (by first | (with_reducible assumption) | assumption)
                 have q156 : x10_1 < (y135.length : Int) := of_decide_eq_true (by first | (with_reducible assumption) | assumption)
                 obtain ⟨ad156, e156, hx156_0, hx156_1⟩ := at_T25 (Kd.R_reads' HO_9.out).2.2 x10_1 p156 q156
                 obtain rfl : ad138 = ad156 := (by injection e156)
                 replace p156 := eq_true p156
                 replace q156 := eq_true q156
                 have p157 : 0 ≤ (x11_2 : Int) := of_decide_eq_true (by first | (with_reducible assumption) | assumption)
                 have q157 : x11_2 < (y135.length : Int) := of_decide_eq_true (by first | (with_reducible assumption) | assumption)
                 obtain ⟨ad157, e157, hx157_0, hx157_1⟩ := at_T25 (Kd.R_reads' HO_9.out).2.2 x11_2 p157 q157
                 obtain rfl : ad138 = ad157 := (by injection e157)
                 replace p157 := eq_true p157
                 replace q157 := eq_true q157
                 refine start_ (n := 15) (S := fun w' => w'.cell? (ad138.add ((x10_1).toNat * 2)) = some (.int .i64 ((rd_T25 y135 x10_1).f0)) ∧ w'.cell? ⟨(ad138.add ((x10_1).toNat * 2)).block, (ad138.add ((x10_1).toNat * 2)).off + 1, none⟩ = some (.int .i64 ((rd_T25 y135 x10_1).f1)) ∧ w'.cell? (ad138.add ((x11_2).toNat * 2)) = some (.int .i64 ((rd_T25 y135 x11_2).f0)) ∧ w'.cell? ⟨(ad138.add ((x11_2).toNat * 2)).block, (ad138.add ((x11_2).toNat * 2)).off + 1, none⟩ = some (.int .i64 ((rd_T25 y135 x11_2).f1))) (ds := []) #[false, false, false, false, false, false, false, false, false, false, false, false, false, false, false] (by kernel_rfl) rfl rfl ⟨hx156_0, hx156_1, hx157_0, hx157_1⟩ (fun hHeld => ?_); refine with_tabW joinerylaw1_VecAll.tab13 joinerylaw1_VecAll.bits13 (fun HT_ HW_ => ?_)
                 generalize w60.drew = w61 at HO_9 BK143 BK149 BK155 HB hx156_0 hx156_1 hx157_0 hx157_1 hHeld ⊢
                 refine pure_ (i := 0) (N := some 91) (v := ?_) (a' := ?_) #[true, false, false, false, false, false, false, false, false, false, false, false, false, false, false] rfl rfl (any_of HT_.out (by kernel_rfl)) (fun _ _ _ h => h) (Or.inl ⟨by rfl, ?_⟩) ?_ ?_
                 rotate_left
                 ·intro w'
                  go_simp
                  with_reducible rfl
                 rotate_left
                 ·simp only [Act.put, List.setIfInBounds_toArray, List.set_cons_zero, List.set_cons_succ, i64_w, i32_w]
                  rfl
                 refine pure_ (i := 1) (N := some 92) (v := ?_) (a' := ?_) #[true, true, false, false, false, false, false, false, false, false, false, false, false, false, false] rfl rfl (any_of HT_.out (by kernel_rfl)) (fun _ _ _ h => h) (Or.inl ⟨by rfl, ?_⟩) ?_ ?_
                 rotate_left
                 ·intro w'
                  go_simp
                  with_reducible rfl
                 rotate_left
                 ·simp only [Act.put, List.setIfInBounds_toArray, List.set_cons_zero, List.set_cons_succ, i64_w, i32_w]
                  rfl
                 refine pure_ (i := 2) (N := some 93) (v := ?_) (a' := ?_) #[true, true, true, false, false, false, false, false, false, false, false, false, false, false, false] rfl rfl (any_of HT_.out (by kernel_rfl)) (fun _ _ _ h => h) (Or.inl ⟨by rfl, ?_⟩) ?_ ?_
                 rotate_left
                 ·intro w'
                  go_simp
                  with_reducible rfl
                 rotate_left
                 ·simp only [Act.put, List.setIfInBounds_toArray, List.set_cons_zero, List.set_cons_succ, i64_w, i32_w]
                  rfl
                 refine pure_ (i := 4) (N := some 95) (v := ?_) (a' := ?_) #[true, true, true, false, true, false, false, false, false, false, false, false, false, false, false] rfl rfl (any_of HT_.out (by kernel_rfl)) (fun _ _ _ h => h) (Or.inl ⟨by rfl, ?_⟩) ?_ ?_
                 rotate_left
                 ·intro w'
                  go_simp
                  with_reducible rfl
                 rotate_left
                 ·simp only [Act.put, List.setIfInBounds_toArray, List.set_cons_zero, List.set_cons_succ, i64_w, i32_w]
                  rfl
                 refine pure_ (i := 5) (N := some 96) (v := ?_) (a' := ?_) #[true, true, true, false, true, true, false, false, false, false, false, false, false, false, false] rfl rfl (any_of HT_.out (by kernel_rfl)) (fun _ _ _ h => h) (Or.inl ⟨by rfl, ?_⟩) ?_ ?_
                 rotate_left
                 ·intro w'
                  go_simp
                  with_reducible rfl
                 rotate_left
                 ·simp only [Act.put, List.setIfInBounds_toArray, List.set_cons_zero, List.set_cons_succ, i64_w, i32_w]
                  rfl
                 refine pure_ (i := 6) (N := some 97) (v := ?_) (a' := ?_) #[true, true, true, false, true, true, true, false, false, false, false, false, false, false, false] rfl rfl (any_of HT_.out (by kernel_rfl)) (fun _ _ _ h => h) (Or.inl ⟨by rfl, ?_⟩) ?_ ?_
                 rotate_left
                 ·intro w'
                  go_simp
                  with_reducible rfl
                 rotate_left
                 ·simp only [Act.put, List.setIfInBounds_toArray, List.set_cons_zero, List.set_cons_succ, i64_w, i32_w]
                  rfl
                 refine take_ (i := 3) (N := some 94) (v := ?_) (a' := ?_) #[true, true, true, true, true, true, true, false, false, false, false, false, false, false, false] rfl rfl (take_ofW HT_.out HW_.out (by kernel_rfl)) (fun _ _ _ h => h) (Or.inl ⟨by rfl, ?_⟩) hHeld ?_ ?_
                 rotate_left
                 ·rintro w' ⟨s0, s1, s2, s3⟩
                  go_simp
                  with_reducible rfl
                 rotate_left
                 ·simp only [Act.put, List.setIfInBounds_toArray, List.set_cons_zero, List.set_cons_succ, i64_w, i32_w]
                  rfl
                 refine take_ (i := 7) (N := some 98) (v := ?_) (a' := ?_) #[true, true, true, true, true, true, true, true, false, false, false, false, false, false, false] rfl rfl (take_ofW HT_.out HW_.out (by kernel_rfl)) (fun _ _ _ h => h) (Or.inl ⟨by rfl, ?_⟩) hHeld ?_ ?_
                 rotate_left
                 ·rintro w' ⟨s0, s1, s2, s3⟩
                  go_simp
                  with_reducible rfl
                 rotate_left
                 ·simp only [Act.put, List.setIfInBounds_toArray, List.set_cons_zero, List.set_cons_succ, i64_w, i32_w]
                  rfl
                 refine join_ (σ := Nat) 2 #[true, true, true, true, true, true, true, true, true, true, true, true, true, false, false] (fun s_ => [(99, .tuple #[.agg #[.int .i64 t158, .int .i64 t159], .int .i64 t160]), (18, .pointer (some ⟨s_, 0, none⟩)), (90, .tuple #[.agg #[.int .i64 t158, .int .i64 t159], .int .i64 t160]), (100, .agg #[.int .i64 t158, .int .i64 t159]), (101, .int .i64 t160)]) (fun s_ w' => (w'.cell? (ad138.add ((x10_1).toNat * 2)) = some (.int .i64 ((rd_T25 y135 x10_1).f0)) ∧ w'.cell? ⟨(ad138.add ((x10_1).toNat * 2)).block, (ad138.add ((x10_1).toNat * 2)).off + 1, none⟩ = some (.int .i64 ((rd_T25 y135 x10_1).f1)) ∧ w'.cell? (ad138.add ((x11_2).toNat * 2)) = some (.int .i64 ((rd_T25 y135 x11_2).f0)) ∧ w'.cell? ⟨(ad138.add ((x11_2).toNat * 2)).block, (ad138.add ((x11_2).toNat * 2)).off + 1, none⟩ = some (.int .i64 ((rd_T25 y135 x11_2).f1))) ∧ (Kd.R k25 25 w' w.heap.size (fun k_ => k_ ≠ gb143 ∧ k_ ≠ gb149 ∧ k_ ≠ gb155 ∧ k_ ≠ s_) (.slice (some ad138) y135.length co21) y135) ∧ (w'.heap[gb143]? = some (.cells #[.int .i64 t140, .int .i64 t141] 25 (0, 0))) ∧ (w'.heap[gb149]? = some (.cells #[.int .i64 t146, .int .i64 t147] 25 (0, 0))) ∧ (w'.heap[gb155]? = some (.cells #[.int .i64 t152, .int .i64 t153] 25 (0, 0))) ∧ (w'.heap[s_]? = some (.cells #[.int .i64 0, .int .i64 0] 25 (0, 0))) ∧ (w.heap.size ≤ s_) ∧ (w.heap.size ≤ s_) ∧ (gb143 ≠ s_) ∧ (s_ ≠ gb143) ∧ (gb149 ≠ s_) ∧ (s_ ≠ gb149) ∧ (gb155 ≠ s_) ∧ (s_ ≠ gb155) ∧ (Below w.heap.size w w')) ?_ ?_
                 rotate_left
                 ·intro hCont
                  refine two_ (i := 8) (j := 12) (Ni := some 99) (Nj := some 18) #[true, true, true, true, true, true, true, true, true, false, false, false, false, false, false] #[true, true, true, true, true, true, true, true, false, false, false, false, true, false, false] rfl rfl rfl rfl (two_of HT_.out (by kernel_rfl)) (by decide) (by decide) (fun K hK => ?_) (fun K hK => ?_)
                  ·skip
                   refine goes_ Try.func18 (by kernel_rfl) rfl #[.agg #[.int .i64 ((rd_T25 y135 x10_1).f0), .int .i64 ((rd_T25 y135 x10_1).f1)], .agg #[.int .i64 ((rd_T25 y135 x11_2).f0), .int .i64 ((rd_T25 y135 x11_2).f1)]] (by rfl) rfl rfl (by (try simp only [List.map_toArray, List.map_cons, List.map_nil]); first | done | rfl | (simp only [List.length_drop, List.length_take]; rfl)) ?_
                   with_reducible refine (joineryref1_Sub.calls k2 ((rd_T25 y135 x10_1).f0) ((rd_T25 y135 x10_1).f1) ((rd_T25 y135 x11_2).f0) ((rd_T25 y135 x11_2).f1) t158 t159 t160 _ A29.out).mono ?_
                   rintro e w62 ⟨rfl, hb⟩
                   have HS0_ := (hb.cell (World.block_lt_of_cell? _ _ (hHeld.1))).trans (hHeld.1)
                   have HS1_ := (hb.cell (World.block_lt_of_cell? _ _ (hHeld.2.1))).trans (hHeld.2.1)
                   have HS2_ := (hb.cell (World.block_lt_of_cell? _ _ (hHeld.2.2.1))).trans (hHeld.2.2.1)
                   have HS3_ := (hb.cell (World.block_lt_of_cell? _ _ (hHeld.2.2.2))).trans (hHeld.2.2.2)
                   refine ⟨_, rfl, ?_⟩
                   have n0_ := Aside0.mk (Kd.R_below (by (with_reducible repeat (first | apply Kd.R_alloc | apply Kd.R_drewN | apply Kd.R_drew)); exact HO_9.out) hb)
                   have n1_ := Aside0.mk (blk_below (g := gb143) (o := .cells #[.int .i64 t140, .int .i64 t141] 25 (0, 0)) (by (with_reducible repeat (first | refine blk_drewN ?_ _ | refine blk_drew ?_ | refine blk_alloc ?_ _)); exact BK143.out) hb)
                   have n2_ := Aside0.mk (blk_below (g := gb149) (o := .cells #[.int .i64 t146, .int .i64 t147] 25 (0, 0)) (by (with_reducible repeat (first | refine blk_drewN ?_ _ | refine blk_drew ?_ | refine blk_alloc ?_ _)); exact BK149.out) hb)
                   have n3_ := Aside0.mk (blk_below (g := gb155) (o := .cells #[.int .i64 t152, .int .i64 t153] 25 (0, 0)) (by (with_reducible repeat (first | refine blk_drewN ?_ _ | refine blk_drew ?_ | refine blk_alloc ?_ _)); exact BK155.out) hb)
                   have n4_ := Aside0.mk (below_step (by repeat (first | (with_reducible first | exact HB.out | apply below_alloc | apply pw_below_drewN | apply below_drew1 | refine below_set ?_ GE143.out | refine below_set ?_ GE149.out | refine below_set ?_ GE155.out) | exact HB.out)) hb)
                   clear HO_9
                   clear BK143
                   clear BK149
                   clear BK155
                   clear HB
                   have HO_9 := n0_
                   have BK143 := n1_
                   have BK149 := n2_
                   have BK155 := n3_
                   have HB := n4_
                   clear n0_ n1_ n2_ n3_ n4_
                   (try clear hb)
                   (try clear hb2)
                   (try clear hk)
                   (try clear hi)
                   refine hK.out _ _ ⟨HS0_, HS1_, HS2_, HS3_⟩ (fun hHeld => ?_)
                   clear hK K
                   refine norm_ (a' := ?_) ?_ ?_
                   rotate_left
                   ·show Act.put _ (some 99) _ = _
                    simp only [Act.put, List.setIfInBounds_toArray, List.set_cons_zero, List.set_cons_succ, i64_w, i32_w]
                    rfl
                   refine pure_ (i := 9) (N := some 90) (v := ?_) (a' := ?_) #[true, true, true, true, true, true, true, true, true, true, false, false, false, false, false] rfl rfl (any_of HT_.out (by kernel_rfl)) (fun _ _ _ h => h) (Or.inl ⟨by rfl, ?_⟩) ?_ ?_
                   rotate_left
                   ·intro w'
                    go_simp
                    with_reducible rfl
                   rotate_left
                   ·simp only [Act.put, List.setIfInBounds_toArray, List.set_cons_zero, List.set_cons_succ, i64_w, i32_w]
                    rfl
                   refine pure_ (i := 10) (N := some 100) (v := ?_) (a' := ?_) #[true, true, true, true, true, true, true, true, true, true, true, false, false, false, false] rfl rfl (any_of HT_.out (by kernel_rfl)) (fun _ _ _ h => h) (Or.inl ⟨by rfl, ?_⟩) ?_ ?_
                   rotate_left
                   ·intro w'
                    go_simp
                    with_reducible rfl
                   rotate_left
                   ·simp only [Act.put, List.setIfInBounds_toArray, List.set_cons_zero, List.set_cons_succ, i64_w, i32_w]
                    rfl
                   refine pure_ (i := 11) (N := some 101) (v := ?_) (a' := ?_) #[true, true, true, true, true, true, true, true, true, true, true, true, false, false, false] rfl rfl (any_of HT_.out (by kernel_rfl)) (fun _ _ _ h => h) (Or.inl ⟨by rfl, ?_⟩) ?_ ?_
                   rotate_left
                   ·intro w'
                    go_simp
                    with_reducible rfl
                   rotate_left
                   ·simp only [Act.put, List.setIfInBounds_toArray, List.set_cons_zero, List.set_cons_succ, i64_w, i32_w]
                    rfl
                   refine one_ (i := 12) (N := some 18) #[true, true, true, true, true, true, true, true, true, true, true, true, true, false, false] rfl rfl (one_of HT_.out (by kernel_rfl)) (by decide) (fun K hK => ?_)
                   refine box_step ?hg (N := 18) ?hd (cs := #[.int .i64 0, .int .i64 0]) (t := 25) ?hr ?_; (case hd => rfl); (case hg => rfl); (case hr => first | (go_simp; done) | (go_simp; rfl))
                   intro gb161 hg w63 hbox hb
                   have HS0_ := (hb.cell (World.block_lt_of_cell? _ _ (hHeld.1))).trans (hHeld.1)
                   have HS1_ := (hb.cell (World.block_lt_of_cell? _ _ (hHeld.2.1))).trans (hHeld.2.1)
                   have HS2_ := (hb.cell (World.block_lt_of_cell? _ _ (hHeld.2.2.1))).trans (hHeld.2.2.1)
                   have HS3_ := (hb.cell (World.block_lt_of_cell? _ _ (hHeld.2.2.2))).trans (hHeld.2.2.2)
                   have n0_ := Aside0.mk (Kd.R_below (Kd.R_elderB (by (with_reducible repeat (first | apply Kd.R_alloc | apply Kd.R_drewN | apply Kd.R_drew)); exact HO_9.out) gb161 (Nat.le_of_eq hg.symm)) hb)
                   have n1_ := Aside0.mk (blk_below (g := gb143) (o := .cells #[.int .i64 t140, .int .i64 t141] 25 (0, 0)) (by (with_reducible repeat (first | refine blk_drewN ?_ _ | refine blk_drew ?_ | refine blk_alloc ?_ _)); exact BK143.out) hb)
                   have n2_ := Aside0.mk (blk_below (g := gb149) (o := .cells #[.int .i64 t146, .int .i64 t147] 25 (0, 0)) (by (with_reducible repeat (first | refine blk_drewN ?_ _ | refine blk_drew ?_ | refine blk_alloc ?_ _)); exact BK149.out) hb)
                   have n3_ := Aside0.mk (blk_below (g := gb155) (o := .cells #[.int .i64 t152, .int .i64 t153] 25 (0, 0)) (by (with_reducible repeat (first | refine blk_drewN ?_ _ | refine blk_drew ?_ | refine blk_alloc ?_ _)); exact BK155.out) hb)
                   have n4_ := Aside0.mk (below_step (by repeat (first | (with_reducible first | exact HB.out | apply below_alloc | apply pw_below_drewN | apply below_drew1 | refine below_set ?_ GE143.out | refine below_set ?_ GE149.out | refine below_set ?_ GE155.out) | exact HB.out)) hb)
                   have n5_ := Aside0.mk (hbox)
                   have n6_ := Aside0.mk ((by rw [hg]; exact (below_size (by repeat (first | (with_reducible first | exact HB.out | apply below_alloc | apply pw_below_drewN | apply below_drew1 | refine below_set ?_ GE143.out | refine below_set ?_ GE149.out | refine below_set ?_ GE155.out) | exact HB.out))) : w.heap.size ≤ gb161))
                   have n7_ := Aside0.mk ((by rw [hg]; exact (below_size (by repeat (first | (with_reducible first | exact HB.out | apply below_alloc | apply pw_below_drewN | apply below_drew1 | refine below_set ?_ GE143.out | refine below_set ?_ GE149.out | refine below_set ?_ GE155.out) | exact HB.out))) : w.heap.size ≤ gb161))
                   have n8_ := Aside0.mk ((by rw [hg]; exact Nat.ne_of_lt (blk_lt (g := gb143) (o := .cells #[.int .i64 t140, .int .i64 t141] 25 (0, 0)) (by (with_reducible repeat (first | refine blk_drewN ?_ _ | refine blk_drew ?_ | refine blk_alloc ?_ _)); exact BK143.out)) : gb143 ≠ gb161))
                   have n9_ := Aside0.mk ((by rw [hg]; exact Nat.ne_of_gt (blk_lt (g := gb143) (o := .cells #[.int .i64 t140, .int .i64 t141] 25 (0, 0)) (by (with_reducible repeat (first | refine blk_drewN ?_ _ | refine blk_drew ?_ | refine blk_alloc ?_ _)); exact BK143.out)) : gb161 ≠ gb143))
                   have n10_ := Aside0.mk ((by rw [hg]; exact Nat.ne_of_lt (blk_lt (g := gb149) (o := .cells #[.int .i64 t146, .int .i64 t147] 25 (0, 0)) (by (with_reducible repeat (first | refine blk_drewN ?_ _ | refine blk_drew ?_ | refine blk_alloc ?_ _)); exact BK149.out)) : gb149 ≠ gb161))
                   have n11_ := Aside0.mk ((by rw [hg]; exact Nat.ne_of_gt (blk_lt (g := gb149) (o := .cells #[.int .i64 t146, .int .i64 t147] 25 (0, 0)) (by (with_reducible repeat (first | refine blk_drewN ?_ _ | refine blk_drew ?_ | refine blk_alloc ?_ _)); exact BK149.out)) : gb161 ≠ gb149))
                   have n12_ := Aside0.mk ((by rw [hg]; exact Nat.ne_of_lt (blk_lt (g := gb155) (o := .cells #[.int .i64 t152, .int .i64 t153] 25 (0, 0)) (by (with_reducible repeat (first | refine blk_drewN ?_ _ | refine blk_drew ?_ | refine blk_alloc ?_ _)); exact BK155.out)) : gb155 ≠ gb161))
                   have n13_ := Aside0.mk ((by rw [hg]; exact Nat.ne_of_gt (blk_lt (g := gb155) (o := .cells #[.int .i64 t152, .int .i64 t153] 25 (0, 0)) (by (with_reducible repeat (first | refine blk_drewN ?_ _ | refine blk_drew ?_ | refine blk_alloc ?_ _)); exact BK155.out)) : gb161 ≠ gb155))
                   clear HO_9
                   clear BK143
                   clear BK149
                   clear BK155
                   clear HB
                   have HO_9 := n0_
                   have BK143 := n1_
                   have BK149 := n2_
                   have BK155 := n3_
                   have HB := n4_
                   have BK161 := n5_
                   have GW161 := n6_
                   have GE161 := n7_
                   have NB143_161 := n8_
                   have NB161_143 := n9_
                   have NB149_161 := n10_
                   have NB161_149 := n11_
                   have NB155_161 := n12_
                   have NB161_155 := n13_
                   clear n0_ n1_ n2_ n3_ n4_ n5_ n6_ n7_ n8_ n9_ n10_ n11_ n12_ n13_
                   clear hb hbox hg
                   refine hK.out _ _ ⟨HS0_, HS1_, HS2_, HS3_⟩ (fun hHeld => ?_)
                   clear hK K
                   refine norm_ (a' := ?_) ?_ ?_
                   rotate_left
                   ·show Act.put _ (some 18) _ = _
                    simp only [Act.put, List.setIfInBounds_toArray, List.set_cons_zero, List.set_cons_succ, i64_w, i32_w]
                    rfl
                   exact norm_ (by simp only [putAll, Act.put, List.setIfInBounds_toArray, List.set_cons_zero, List.set_cons_succ]) (hCont (gb161) _ ⟨hHeld, (by (with_reducible repeat (first | apply Kd.R_alloc | apply Kd.R_drewN | apply Kd.R_drew)); exact Kd.R_mono HO_9.out (fun _ hk => ⟨hk.1.1, ⟨hk.1.2.1, ⟨hk.1.2.2, hk.2⟩⟩⟩)), (by (with_reducible repeat (first | refine blk_drewN ?_ _ | refine blk_drew ?_ | refine blk_alloc ?_ _)); exact BK143.out), (by (with_reducible repeat (first | refine blk_drewN ?_ _ | refine blk_drew ?_ | refine blk_alloc ?_ _)); exact BK149.out), (by (with_reducible repeat (first | refine blk_drewN ?_ _ | refine blk_drew ?_ | refine blk_alloc ?_ _)); exact BK155.out), (by (with_reducible repeat (first | refine blk_drewN ?_ _ | refine blk_drew ?_ | refine blk_alloc ?_ _)); exact BK161.out), GW161.out, GE161.out, NB143_161.out, NB161_143.out, NB149_161.out, NB161_149.out, NB155_161.out, NB161_155.out, (by repeat (first | (with_reducible first | exact HB.out | apply below_alloc | apply pw_below_drewN | apply below_drew1 | refine below_set ?_ GE143.out | refine below_set ?_ GE149.out | refine below_set ?_ GE155.out | refine below_set ?_ GE161.out) | exact HB.out))⟩)
                  ·skip
                   refine box_step ?hg (N := 18) ?hd (cs := #[.int .i64 0, .int .i64 0]) (t := 25) ?hr ?_; (case hd => rfl); (case hg => rfl); (case hr => first | (go_simp; done) | (go_simp; rfl))
                   intro gb161 hg w62 hbox hb
                   have HS0_ := (hb.cell (World.block_lt_of_cell? _ _ (hHeld.1))).trans (hHeld.1)
                   have HS1_ := (hb.cell (World.block_lt_of_cell? _ _ (hHeld.2.1))).trans (hHeld.2.1)
                   have HS2_ := (hb.cell (World.block_lt_of_cell? _ _ (hHeld.2.2.1))).trans (hHeld.2.2.1)
                   have HS3_ := (hb.cell (World.block_lt_of_cell? _ _ (hHeld.2.2.2))).trans (hHeld.2.2.2)
                   have n0_ := Aside0.mk (Kd.R_below (Kd.R_elderB (by (with_reducible repeat (first | apply Kd.R_alloc | apply Kd.R_drewN | apply Kd.R_drew)); exact HO_9.out) gb161 (Nat.le_of_eq hg.symm)) hb)
                   have n1_ := Aside0.mk (blk_below (g := gb143) (o := .cells #[.int .i64 t140, .int .i64 t141] 25 (0, 0)) (by (with_reducible repeat (first | refine blk_drewN ?_ _ | refine blk_drew ?_ | refine blk_alloc ?_ _)); exact BK143.out) hb)
                   have n2_ := Aside0.mk (blk_below (g := gb149) (o := .cells #[.int .i64 t146, .int .i64 t147] 25 (0, 0)) (by (with_reducible repeat (first | refine blk_drewN ?_ _ | refine blk_drew ?_ | refine blk_alloc ?_ _)); exact BK149.out) hb)
                   have n3_ := Aside0.mk (blk_below (g := gb155) (o := .cells #[.int .i64 t152, .int .i64 t153] 25 (0, 0)) (by (with_reducible repeat (first | refine blk_drewN ?_ _ | refine blk_drew ?_ | refine blk_alloc ?_ _)); exact BK155.out) hb)
                   have n4_ := Aside0.mk (below_step (by repeat (first | (with_reducible first | exact HB.out | apply below_alloc | apply pw_below_drewN | apply below_drew1 | refine below_set ?_ GE143.out | refine below_set ?_ GE149.out | refine below_set ?_ GE155.out) | exact HB.out)) hb)
                   have n5_ := Aside0.mk (hbox)
                   have n6_ := Aside0.mk ((by rw [hg]; exact (below_size (by repeat (first | (with_reducible first | exact HB.out | apply below_alloc | apply pw_below_drewN | apply below_drew1 | refine below_set ?_ GE143.out | refine below_set ?_ GE149.out | refine below_set ?_ GE155.out) | exact HB.out))) : w.heap.size ≤ gb161))
                   have n7_ := Aside0.mk ((by rw [hg]; exact (below_size (by repeat (first | (with_reducible first | exact HB.out | apply below_alloc | apply pw_below_drewN | apply below_drew1 | refine below_set ?_ GE143.out | refine below_set ?_ GE149.out | refine below_set ?_ GE155.out) | exact HB.out))) : w.heap.size ≤ gb161))
                   have n8_ := Aside0.mk ((by rw [hg]; exact Nat.ne_of_lt (blk_lt (g := gb143) (o := .cells #[.int .i64 t140, .int .i64 t141] 25 (0, 0)) (by (with_reducible repeat (first | refine blk_drewN ?_ _ | refine blk_drew ?_ | refine blk_alloc ?_ _)); exact BK143.out)) : gb143 ≠ gb161))
                   have n9_ := Aside0.mk ((by rw [hg]; exact Nat.ne_of_gt (blk_lt (g := gb143) (o := .cells #[.int .i64 t140, .int .i64 t141] 25 (0, 0)) (by (with_reducible repeat (first | refine blk_drewN ?_ _ | refine blk_drew ?_ | refine blk_alloc ?_ _)); exact BK143.out)) : gb161 ≠ gb143))
                   have n10_ := Aside0.mk ((by rw [hg]; exact Nat.ne_of_lt (blk_lt (g := gb149) (o := .cells #[.int .i64 t146, .int .i64 t147] 25 (0, 0)) (by (with_reducible repeat (first | refine blk_drewN ?_ _ | refine blk_drew ?_ | refine blk_alloc ?_ _)); exact BK149.out)) : gb149 ≠ gb161))
                   have n11_ := Aside0.mk ((by rw [hg]; exact Nat.ne_of_gt (blk_lt (g := gb149) (o := .cells #[.int .i64 t146, .int .i64 t147] 25 (0, 0)) (by (with_reducible repeat (first | refine blk_drewN ?_ _ | refine blk_drew ?_ | refine blk_alloc ?_ _)); exact BK149.out)) : gb161 ≠ gb149))
                   have n12_ := Aside0.mk ((by rw [hg]; exact Nat.ne_of_lt (blk_lt (g := gb155) (o := .cells #[.int .i64 t152, .int .i64 t153] 25 (0, 0)) (by (with_reducible repeat (first | refine blk_drewN ?_ _ | refine blk_drew ?_ | refine blk_alloc ?_ _)); exact BK155.out)) : gb155 ≠ gb161))
                   have n13_ := Aside0.mk ((by rw [hg]; exact Nat.ne_of_gt (blk_lt (g := gb155) (o := .cells #[.int .i64 t152, .int .i64 t153] 25 (0, 0)) (by (with_reducible repeat (first | refine blk_drewN ?_ _ | refine blk_drew ?_ | refine blk_alloc ?_ _)); exact BK155.out)) : gb161 ≠ gb155))
                   clear HO_9
                   clear BK143
                   clear BK149
                   clear BK155
                   clear HB
                   have HO_9 := n0_
                   have BK143 := n1_
                   have BK149 := n2_
                   have BK155 := n3_
                   have HB := n4_
                   have BK161 := n5_
                   have GW161 := n6_
                   have GE161 := n7_
                   have NB143_161 := n8_
                   have NB161_143 := n9_
                   have NB149_161 := n10_
                   have NB161_149 := n11_
                   have NB155_161 := n12_
                   have NB161_155 := n13_
                   clear n0_ n1_ n2_ n3_ n4_ n5_ n6_ n7_ n8_ n9_ n10_ n11_ n12_ n13_
                   clear hb hbox hg
                   refine hK.out _ _ ⟨HS0_, HS1_, HS2_, HS3_⟩ (fun hHeld => ?_)
                   clear hK K
                   refine norm_ (a' := ?_) ?_ ?_
                   rotate_left
                   ·show Act.put _ (some 18) _ = _
                    simp only [Act.put, List.setIfInBounds_toArray, List.set_cons_zero, List.set_cons_succ, i64_w, i32_w]
                    rfl
                   refine one_ (i := 8) (N := some 99) #[true, true, true, true, true, true, true, true, true, false, false, false, true, false, false] rfl rfl (one_of HT_.out (by kernel_rfl)) (by decide) (fun K hK => ?_)
                   refine goes_ Try.func18 (by kernel_rfl) rfl #[.agg #[.int .i64 ((rd_T25 y135 x10_1).f0), .int .i64 ((rd_T25 y135 x10_1).f1)], .agg #[.int .i64 ((rd_T25 y135 x11_2).f0), .int .i64 ((rd_T25 y135 x11_2).f1)]] (by rfl) rfl rfl (by (try simp only [List.map_toArray, List.map_cons, List.map_nil]); first | done | rfl | (simp only [List.length_drop, List.length_take]; rfl)) ?_
                   with_reducible refine (joineryref1_Sub.calls k2 ((rd_T25 y135 x10_1).f0) ((rd_T25 y135 x10_1).f1) ((rd_T25 y135 x11_2).f0) ((rd_T25 y135 x11_2).f1) t158 t159 t160 _ A29.out).mono ?_
                   rintro e w63 ⟨rfl, hb⟩
                   have HS0_ := (hb.cell (World.block_lt_of_cell? _ _ (hHeld.1))).trans (hHeld.1)
                   have HS1_ := (hb.cell (World.block_lt_of_cell? _ _ (hHeld.2.1))).trans (hHeld.2.1)
                   have HS2_ := (hb.cell (World.block_lt_of_cell? _ _ (hHeld.2.2.1))).trans (hHeld.2.2.1)
                   have HS3_ := (hb.cell (World.block_lt_of_cell? _ _ (hHeld.2.2.2))).trans (hHeld.2.2.2)
                   refine ⟨_, rfl, ?_⟩
                   have n0_ := Aside0.mk (Kd.R_below (by (with_reducible repeat (first | apply Kd.R_alloc | apply Kd.R_drewN | apply Kd.R_drew)); exact HO_9.out) hb)
                   have n1_ := Aside0.mk (blk_below (g := gb143) (o := .cells #[.int .i64 t140, .int .i64 t141] 25 (0, 0)) (by (with_reducible repeat (first | refine blk_drewN ?_ _ | refine blk_drew ?_ | refine blk_alloc ?_ _)); exact BK143.out) hb)
                   have n2_ := Aside0.mk (blk_below (g := gb149) (o := .cells #[.int .i64 t146, .int .i64 t147] 25 (0, 0)) (by (with_reducible repeat (first | refine blk_drewN ?_ _ | refine blk_drew ?_ | refine blk_alloc ?_ _)); exact BK149.out) hb)
                   have n3_ := Aside0.mk (blk_below (g := gb155) (o := .cells #[.int .i64 t152, .int .i64 t153] 25 (0, 0)) (by (with_reducible repeat (first | refine blk_drewN ?_ _ | refine blk_drew ?_ | refine blk_alloc ?_ _)); exact BK155.out) hb)
                   have n4_ := Aside0.mk (blk_below (g := gb161) (o := .cells #[.int .i64 0, .int .i64 0] 25 (0, 0)) (by (with_reducible repeat (first | refine blk_drewN ?_ _ | refine blk_drew ?_ | refine blk_alloc ?_ _)); exact BK161.out) hb)
                   have n5_ := Aside0.mk (below_step (by repeat (first | (with_reducible first | exact HB.out | apply below_alloc | apply pw_below_drewN | apply below_drew1 | refine below_set ?_ GE143.out | refine below_set ?_ GE149.out | refine below_set ?_ GE155.out | refine below_set ?_ GE161.out) | exact HB.out)) hb)
                   clear HO_9
                   clear BK143
                   clear BK149
                   clear BK155
                   clear BK161
                   clear HB
                   have HO_9 := n0_
                   have BK143 := n1_
                   have BK149 := n2_
                   have BK155 := n3_
                   have BK161 := n4_
                   have HB := n5_
                   clear n0_ n1_ n2_ n3_ n4_ n5_
                   (try clear hb)
                   (try clear hb2)
                   (try clear hk)
                   (try clear hi)
                   refine hK.out _ _ ⟨HS0_, HS1_, HS2_, HS3_⟩ (fun hHeld => ?_)
                   clear hK K
                   refine norm_ (a' := ?_) ?_ ?_
                   rotate_left
                   ·show Act.put _ (some 99) _ = _
                    simp only [Act.put, List.setIfInBounds_toArray, List.set_cons_zero, List.set_cons_succ, i64_w, i32_w]
                    rfl
                   refine pure_ (i := 9) (N := some 90) (v := ?_) (a' := ?_) #[true, true, true, true, true, true, true, true, true, true, false, false, true, false, false] rfl rfl (any_of HT_.out (by kernel_rfl)) (fun _ _ _ h => h) (Or.inl ⟨by rfl, ?_⟩) ?_ ?_
                   rotate_left
                   ·intro w'
                    go_simp
                    with_reducible rfl
                   rotate_left
                   ·simp only [Act.put, List.setIfInBounds_toArray, List.set_cons_zero, List.set_cons_succ, i64_w, i32_w]
                    rfl
                   refine pure_ (i := 10) (N := some 100) (v := ?_) (a' := ?_) #[true, true, true, true, true, true, true, true, true, true, true, false, true, false, false] rfl rfl (any_of HT_.out (by kernel_rfl)) (fun _ _ _ h => h) (Or.inl ⟨by rfl, ?_⟩) ?_ ?_
                   rotate_left
                   ·intro w'
                    go_simp
                    with_reducible rfl
                   rotate_left
                   ·simp only [Act.put, List.setIfInBounds_toArray, List.set_cons_zero, List.set_cons_succ, i64_w, i32_w]
                    rfl
                   refine pure_ (i := 11) (N := some 101) (v := ?_) (a' := ?_) #[true, true, true, true, true, true, true, true, true, true, true, true, true, false, false] rfl rfl (any_of HT_.out (by kernel_rfl)) (fun _ _ _ h => h) (Or.inl ⟨by rfl, ?_⟩) ?_ ?_
                   rotate_left
                   ·intro w'
                    go_simp
                    with_reducible rfl
                   rotate_left
                   ·simp only [Act.put, List.setIfInBounds_toArray, List.set_cons_zero, List.set_cons_succ, i64_w, i32_w]
                    rfl
                   exact norm_ (by simp only [putAll, Act.put, List.setIfInBounds_toArray, List.set_cons_zero, List.set_cons_succ]) (hCont (gb161) _ ⟨hHeld, (by (with_reducible repeat (first | apply Kd.R_alloc | apply Kd.R_drewN | apply Kd.R_drew)); exact Kd.R_mono HO_9.out (fun _ hk => ⟨hk.1.1, ⟨hk.1.2.1, ⟨hk.1.2.2, hk.2⟩⟩⟩)), (by (with_reducible repeat (first | refine blk_drewN ?_ _ | refine blk_drew ?_ | refine blk_alloc ?_ _)); exact BK143.out), (by (with_reducible repeat (first | refine blk_drewN ?_ _ | refine blk_drew ?_ | refine blk_alloc ?_ _)); exact BK149.out), (by (with_reducible repeat (first | refine blk_drewN ?_ _ | refine blk_drew ?_ | refine blk_alloc ?_ _)); exact BK155.out), (by (with_reducible repeat (first | refine blk_drewN ?_ _ | refine blk_drew ?_ | refine blk_alloc ?_ _)); exact BK161.out), GW161.out, GE161.out, NB143_161.out, NB161_143.out, NB149_161.out, NB161_149.out, NB155_161.out, NB161_155.out, (by repeat (first | (with_reducible first | exact HB.out | apply below_alloc | apply pw_below_drewN | apply below_drew1 | refine below_set ?_ GE143.out | refine below_set ?_ GE149.out | refine below_set ?_ GE155.out | refine below_set ?_ GE161.out) | exact HB.out))⟩)
                 rintro gb161 w64 ⟨hS_, h0_, h1_, h2_, h3_, h4_, h5_, h6_, h7_, h8_, h9_, h10_, h11_, h12_, h13_⟩
                 have n0_ : Aside0 (Kd.R k25 25 w64 w.heap.size (fun k_ => k_ ≠ gb143 ∧ k_ ≠ gb149 ∧ k_ ≠ gb155 ∧ k_ ≠ gb161) (.slice (some ad138) y135.length co21) y135) := ⟨h0_⟩
                 have n1_ : Aside0 (w64.heap[gb143]? = some (.cells #[.int .i64 t140, .int .i64 t141] 25 (0, 0))) := ⟨h1_⟩
                 have n2_ : Aside0 (w64.heap[gb149]? = some (.cells #[.int .i64 t146, .int .i64 t147] 25 (0, 0))) := ⟨h2_⟩
                 have n3_ : Aside0 (w64.heap[gb155]? = some (.cells #[.int .i64 t152, .int .i64 t153] 25 (0, 0))) := ⟨h3_⟩
                 have n4_ : Aside0 (w64.heap[gb161]? = some (.cells #[.int .i64 0, .int .i64 0] 25 (0, 0))) := ⟨h4_⟩
                 have n5_ : Aside0 (w.heap.size ≤ gb161) := ⟨h5_⟩
                 have n6_ : Aside0 (w.heap.size ≤ gb161) := ⟨h6_⟩
                 have n7_ : Aside0 (gb143 ≠ gb161) := ⟨h7_⟩
                 have n8_ : Aside0 (gb161 ≠ gb143) := ⟨h8_⟩
                 have n9_ : Aside0 (gb149 ≠ gb161) := ⟨h9_⟩
                 have n10_ : Aside0 (gb161 ≠ gb149) := ⟨h10_⟩
                 have n11_ : Aside0 (gb155 ≠ gb161) := ⟨h11_⟩
                 have n12_ : Aside0 (gb161 ≠ gb155) := ⟨h12_⟩
                 have n13_ : Aside0 (Below w.heap.size w w64) := ⟨h13_⟩
                 clear HO_9
                 clear BK143
                 clear BK149
                 clear BK155
                 clear HB
                 clear h0_ h1_ h2_ h3_ h4_ h5_ h6_ h7_ h8_ h9_ h10_ h11_ h12_ h13_
                 have HO_9 := n0_
                 have BK143 := n1_
                 have BK149 := n2_
                 have BK155 := n3_
                 have BK161 := n4_
                 have GW161 := n5_
                 have GE161 := n6_
                 have NB143_161 := n7_
                 have NB161_143 := n8_
                 have NB149_161 := n9_
                 have NB161_149 := n10_
                 have NB155_161 := n11_
                 have NB161_155 := n12_
                 have HB := n13_
                 clear n0_ n1_ n2_ n3_ n4_ n5_ n6_ n7_ n8_ n9_ n10_ n11_ n12_ n13_
                 have hHeld : w64.cell? (ad138.add ((x10_1).toNat * 2)) = some (.int .i64 ((rd_T25 y135 x10_1).f0)) ∧ w64.cell? ⟨(ad138.add ((x10_1).toNat * 2)).block, (ad138.add ((x10_1).toNat * 2)).off + 1, none⟩ = some (.int .i64 ((rd_T25 y135 x10_1).f1)) ∧ w64.cell? (ad138.add ((x11_2).toNat * 2)) = some (.int .i64 ((rd_T25 y135 x11_2).f0)) ∧ w64.cell? ⟨(ad138.add ((x11_2).toNat * 2)).block, (ad138.add ((x11_2).toNat * 2)).off + 1, none⟩ = some (.int .i64 ((rd_T25 y135 x11_2).f1)) := hS_
                 refine norm_ (a' := ?_) ?_ ?_
                 rotate_left
                 ·simp only [putAll, Act.put, List.setIfInBounds_toArray, List.set_cons_zero, List.set_cons_succ]
                  rfl
                 refine one_ (i := 13) (N := none) #[true, true, true, true, true, true, true, true, true, true, true, true, true, true, false] rfl rfl (one_of HT_.out (by kernel_rfl)) (by decide) (fun K hK => ?_)
                 have hs65 : w64.cell? ⟨gb161, 0, none⟩ = some (.int .i64 0) := (blk_cell BK161.out 0).trans rfl
                 have hfs65 := blk_frozen BK161.out 0
                 have hns65_0 := NB143_161.out
                 have hns65_1 := NB149_161.out
                 have hns65_2 := NB155_161.out
                 have hms65_0 := NB161_143.out
                 have hms65_1 := NB161_149.out
                 have hms65_2 := NB161_155.out
                 have hs66 : w64.cell? ⟨gb161, 1, none⟩ = some (.int .i64 0) := (blk_cell BK161.out 1).trans rfl
                 have hfs66 := blk_frozen BK161.out 1
                 have hns66_0 := NB143_161.out
                 have hns66_1 := NB149_161.out
                 have hns66_2 := NB155_161.out
                 have hms66_0 := NB161_143.out
                 have hms66_1 := NB161_149.out
                 have hms66_2 := NB161_155.out
                 refine skip_ (w1 := ?_) (by rfl) rfl ?_ ?_
                 rotate_left
                 ·go_simp
                  rfl
                 refine hK.out _ _ ⟨((cell_far (p := ⟨gb161, _, none⟩) (by first | exact Kd.own_blk (Kd.R_away HO_9.out (fun _ hk => hk.2.2.2)) | (rw [add_block]; exact Kd.own_blk (Kd.R_away HO_9.out (fun _ hk => hk.2.2.2))) | (show (Addr.add _ _).block ≠ _; rw [add_block]; exact Kd.own_blk (Kd.R_away HO_9.out (fun _ hk => hk.2.2.2))) | (dsimp only; exact Kd.own_blk (Kd.R_away HO_9.out (fun _ hk => hk.2.2.2)))) _).trans (((cell_far (p := ⟨gb161, _, none⟩) (by first | exact Kd.own_blk (Kd.R_away HO_9.out (fun _ hk => hk.2.2.2)) | (rw [add_block]; exact Kd.own_blk (Kd.R_away HO_9.out (fun _ hk => hk.2.2.2))) | (show (Addr.add _ _).block ≠ _; rw [add_block]; exact Kd.own_blk (Kd.R_away HO_9.out (fun _ hk => hk.2.2.2))) | (dsimp only; exact Kd.own_blk (Kd.R_away HO_9.out (fun _ hk => hk.2.2.2)))) _).trans (hHeld.1)))), ((cell_far (p := ⟨gb161, _, none⟩) (by first | exact Kd.own_blk (Kd.R_away HO_9.out (fun _ hk => hk.2.2.2)) | (rw [add_block]; exact Kd.own_blk (Kd.R_away HO_9.out (fun _ hk => hk.2.2.2))) | (show (Addr.add _ _).block ≠ _; rw [add_block]; exact Kd.own_blk (Kd.R_away HO_9.out (fun _ hk => hk.2.2.2))) | (dsimp only; exact Kd.own_blk (Kd.R_away HO_9.out (fun _ hk => hk.2.2.2)))) _).trans (((cell_far (p := ⟨gb161, _, none⟩) (by first | exact Kd.own_blk (Kd.R_away HO_9.out (fun _ hk => hk.2.2.2)) | (rw [add_block]; exact Kd.own_blk (Kd.R_away HO_9.out (fun _ hk => hk.2.2.2))) | (show (Addr.add _ _).block ≠ _; rw [add_block]; exact Kd.own_blk (Kd.R_away HO_9.out (fun _ hk => hk.2.2.2))) | (dsimp only; exact Kd.own_blk (Kd.R_away HO_9.out (fun _ hk => hk.2.2.2)))) _).trans (hHeld.2.1)))), ((cell_far (p := ⟨gb161, _, none⟩) (by first | exact Kd.own_blk (Kd.R_away HO_9.out (fun _ hk => hk.2.2.2)) | (rw [add_block]; exact Kd.own_blk (Kd.R_away HO_9.out (fun _ hk => hk.2.2.2))) | (show (Addr.add _ _).block ≠ _; rw [add_block]; exact Kd.own_blk (Kd.R_away HO_9.out (fun _ hk => hk.2.2.2))) | (dsimp only; exact Kd.own_blk (Kd.R_away HO_9.out (fun _ hk => hk.2.2.2)))) _).trans (((cell_far (p := ⟨gb161, _, none⟩) (by first | exact Kd.own_blk (Kd.R_away HO_9.out (fun _ hk => hk.2.2.2)) | (rw [add_block]; exact Kd.own_blk (Kd.R_away HO_9.out (fun _ hk => hk.2.2.2))) | (show (Addr.add _ _).block ≠ _; rw [add_block]; exact Kd.own_blk (Kd.R_away HO_9.out (fun _ hk => hk.2.2.2))) | (dsimp only; exact Kd.own_blk (Kd.R_away HO_9.out (fun _ hk => hk.2.2.2)))) _).trans (hHeld.2.2.1)))), ((cell_far (p := ⟨gb161, _, none⟩) (by first | exact Kd.own_blk (Kd.R_away HO_9.out (fun _ hk => hk.2.2.2)) | (rw [add_block]; exact Kd.own_blk (Kd.R_away HO_9.out (fun _ hk => hk.2.2.2))) | (show (Addr.add _ _).block ≠ _; rw [add_block]; exact Kd.own_blk (Kd.R_away HO_9.out (fun _ hk => hk.2.2.2))) | (dsimp only; exact Kd.own_blk (Kd.R_away HO_9.out (fun _ hk => hk.2.2.2)))) _).trans (((cell_far (p := ⟨gb161, _, none⟩) (by first | exact Kd.own_blk (Kd.R_away HO_9.out (fun _ hk => hk.2.2.2)) | (rw [add_block]; exact Kd.own_blk (Kd.R_away HO_9.out (fun _ hk => hk.2.2.2))) | (show (Addr.add _ _).block ≠ _; rw [add_block]; exact Kd.own_blk (Kd.R_away HO_9.out (fun _ hk => hk.2.2.2))) | (dsimp only; exact Kd.own_blk (Kd.R_away HO_9.out (fun _ hk => hk.2.2.2)))) _).trans (hHeld.2.2.2))))⟩ (fun hHeld => ?_)
                 clear hK K
                 refine pure_ (i := 14) (N := some 19) (v := ?_) (a' := ?_) #[true, true, true, true, true, true, true, true, true, true, true, true, true, true, true] rfl rfl (any_of HT_.out (by kernel_rfl)) (fun _ _ _ h => h) (Or.inl ⟨by rfl, ?_⟩) ?_ ?_
                 rotate_left
                 ·intro w'
                  go_simp
                  with_reducible rfl
                 rotate_left
                 ·simp only [Act.put, List.setIfInBounds_toArray, List.set_cons_zero, List.set_cons_succ, i64_w, i32_w]
                  rfl
                 refine done_ (done_of HT_.out (by kernel_rfl)) ?_
                 try go_wp2
                 have n0_ : Aside0 (Kd.R k25 25 ((w64.setCell ⟨gb161, 0, none⟩ (.int .i64 t158)).setCell ⟨gb161, 1, none⟩ (.int .i64 t159)) w.heap.size (fun k_ => k_ ≠ gb143 ∧ k_ ≠ gb149 ∧ k_ ≠ gb155 ∧ k_ ≠ gb161) (.slice (some ad138) y135.length co21) y135) := ⟨by (with_reducible repeat (first | apply Kd.R_alloc | apply Kd.R_drewN | apply Kd.R_drew)); exact Kd.R_mono (Kd.R_far (p := ⟨gb161, 1, none⟩) (Kd.R_far (p := ⟨gb161, 0, none⟩) (Kd.R_mono HO_9.out (fun k_ hk => (⟨hk, hk.2.2.2⟩ : _ ∧ k_ ≠ gb161))) (fun _ hk => hk.2) (.int .i64 t158)) (fun _ hk => hk.2) (.int .i64 t159)) (fun _ hk => ⟨hk.1.1, ⟨hk.1.2.1, ⟨hk.1.2.2.1, hk.1.2.2.2⟩⟩⟩)⟩
                 have n1_ : Aside0 (((w64.setCell ⟨gb161, 0, none⟩ (.int .i64 t158)).setCell ⟨gb161, 1, none⟩ (.int .i64 t159)).heap[gb143]? = some (.cells #[.int .i64 t140, .int .i64 t141] 25 (0, 0))) := ⟨by (with_reducible repeat (first | refine blk_drewN ?_ _ | refine blk_drew ?_ | refine blk_alloc ?_ _)); refine blk_far ?_ NB143_161.out _; (with_reducible repeat (first | refine blk_drewN ?_ _ | refine blk_drew ?_ | refine blk_alloc ?_ _)); refine blk_far ?_ NB143_161.out _; (with_reducible repeat (first | refine blk_drewN ?_ _ | refine blk_drew ?_ | refine blk_alloc ?_ _)); exact BK143.out⟩
                 have n2_ : Aside0 (((w64.setCell ⟨gb161, 0, none⟩ (.int .i64 t158)).setCell ⟨gb161, 1, none⟩ (.int .i64 t159)).heap[gb149]? = some (.cells #[.int .i64 t146, .int .i64 t147] 25 (0, 0))) := ⟨by (with_reducible repeat (first | refine blk_drewN ?_ _ | refine blk_drew ?_ | refine blk_alloc ?_ _)); refine blk_far ?_ NB149_161.out _; (with_reducible repeat (first | refine blk_drewN ?_ _ | refine blk_drew ?_ | refine blk_alloc ?_ _)); refine blk_far ?_ NB149_161.out _; (with_reducible repeat (first | refine blk_drewN ?_ _ | refine blk_drew ?_ | refine blk_alloc ?_ _)); exact BK149.out⟩
                 have n3_ : Aside0 (((w64.setCell ⟨gb161, 0, none⟩ (.int .i64 t158)).setCell ⟨gb161, 1, none⟩ (.int .i64 t159)).heap[gb155]? = some (.cells #[.int .i64 t152, .int .i64 t153] 25 (0, 0))) := ⟨by (with_reducible repeat (first | refine blk_drewN ?_ _ | refine blk_drew ?_ | refine blk_alloc ?_ _)); refine blk_far ?_ NB155_161.out _; (with_reducible repeat (first | refine blk_drewN ?_ _ | refine blk_drew ?_ | refine blk_alloc ?_ _)); refine blk_far ?_ NB155_161.out _; (with_reducible repeat (first | refine blk_drewN ?_ _ | refine blk_drew ?_ | refine blk_alloc ?_ _)); exact BK155.out⟩
                 have n4_ : Aside0 (((w64.setCell ⟨gb161, 0, none⟩ (.int .i64 t158)).setCell ⟨gb161, 1, none⟩ (.int .i64 t159)).heap[gb161]? = some (.cells #[.int .i64 t158, .int .i64 t159] 25 (0, 0))) := ⟨by (with_reducible repeat (first | refine blk_drewN ?_ _ | refine blk_drew ?_ | refine blk_alloc ?_ _)); refine blk_put (cs := #[.int .i64 t158, .int .i64 0]) ?_ 1 _ rfl; (with_reducible repeat (first | refine blk_drewN ?_ _ | refine blk_drew ?_ | refine blk_alloc ?_ _)); refine blk_put (cs := #[.int .i64 0, .int .i64 0]) ?_ 0 _ rfl; (with_reducible repeat (first | refine blk_drewN ?_ _ | refine blk_drew ?_ | refine blk_alloc ?_ _)); exact BK161.out⟩
                 have n5_ : Aside0 (Below w.heap.size w ((w64.setCell ⟨gb161, 0, none⟩ (.int .i64 t158)).setCell ⟨gb161, 1, none⟩ (.int .i64 t159))) := ⟨by repeat (first | (with_reducible first | exact HB.out | apply below_alloc | apply pw_below_drewN | apply below_drew1 | refine below_set ?_ GE143.out | refine below_set ?_ GE149.out | refine below_set ?_ GE155.out | refine below_set ?_ GE161.out) | exact HB.out)⟩
                 (try clear HO_9)
                 (try clear BK143)
                 (try clear BK149)
                 (try clear BK155)
                 (try clear BK161)
                 (try clear HB)
                 generalize ((w64.setCell ⟨gb161, 0, none⟩ (.int .i64 t158)).setCell ⟨gb161, 1, none⟩ (.int .i64 t159)) = w67 at n0_ n1_ n2_ n3_ n4_ n5_ ⊢
                 have HO_9 := n0_
                 have BK143 := n1_
                 have BK149 := n2_
                 have BK155 := n3_
                 have BK161 := n4_
                 have HB := n5_
                 clear n0_ n1_ n2_ n3_ n4_ n5_
                 have n0_ := Aside0.mk (Kd.R_drew HO_9.out)
                 have n1_ := Aside0.mk (blk_drew BK143.out)
                 have n2_ := Aside0.mk (blk_drew BK149.out)
                 have n3_ := Aside0.mk (blk_drew BK155.out)
                 have n4_ := Aside0.mk (blk_drew BK161.out)
                 have n5_ := Aside0.mk (below_drew1 HB.out)
                 clear HO_9
                 clear BK143
                 clear BK149
                 clear BK155
                 clear BK161
                 clear HB
                 have HO_9 := n0_
                 have BK143 := n1_
                 have BK149 := n2_
                 have BK155 := n3_
                 have BK161 := n4_
                 have HB := n5_
                 clear n0_ n1_ n2_ n3_ n4_ n5_
                 have p162 : 0 ≤ (x10_1 : Int) := of_decide_eq_true (by first | (with_reducible assumption) | assumption)
                 have q162 : x10_1 < (y135.length : Int) := of_decide_eq_true (by first | (with_reducible assumption) | assumption)
                 obtain ⟨ad162, e162, hx162_0, hx162_1⟩ := at_T25 (Kd.R_reads' HO_9.out).2.2 x10_1 p162 q162
                 obtain rfl : ad138 = ad162 := (by injection e162)
                 replace p162 := eq_true p162
                 replace q162 := eq_true q162
                 have p163 : 0 ≤ (x11_2 : Int) := of_decide_eq_true (by first | (with_reducible assumption) | assumption)
                 have q163 : x11_2 < (y135.length : Int) := of_decide_eq_true (by first | (with_reducible assumption) | assumption)
                 obtain ⟨ad163, e163, hx163_0, hx163_1⟩ := at_T25 (Kd.R_reads' HO_9.out).2.2 x11_2 p163 q163
                 obtain rfl : ad138 = ad163 := (by injection e163)
                 replace p163 := eq_true p163
                 replace q163 := eq_true q163
                 have p165 : 0 ≤ (x10_1 : Int) := of_decide_eq_true (by first | (with_reducible assumption) | assumption)
                 have q165 : x10_1 < (y135.length : Int) := of_decide_eq_true (by first | (with_reducible assumption) | assumption)
                 obtain ⟨ad165, e165, hx165_0, hx165_1⟩ := at_T25 (Kd.R_reads' HO_9.out).2.2 x10_1 p165 q165
                 obtain rfl : ad138 = ad165 := (by injection e165)
                 replace p165 := eq_true p165
                 replace q165 := eq_true q165
                 have p166 : 0 ≤ (x11_2 : Int) := of_decide_eq_true (by first | (with_reducible assumption) | assumption)
                 have q166 : x11_2 < (y135.length : Int) := of_decide_eq_true (by first | (with_reducible assumption) | assumption)
                 obtain ⟨ad166, e166, hx166_0, hx166_1⟩ := at_T25 (Kd.R_reads' HO_9.out).2.2 x11_2 p166 q166
                 obtain rfl : ad138 = ad166 := (by injection e166)
                 replace p166 := eq_true p166
                 replace q166 := eq_true q166
                 have p168 : 0 ≤ (x10_1 : Int) := of_decide_eq_true (by first | (with_reducible assumption) | assumption)
                 have q168 : x10_1 < (y135.length : Int) := of_decide_eq_true (by first | (with_reducible assumption) | assumption)
                 obtain ⟨ad168, e168, hx168_0, hx168_1⟩ := at_T25 (Kd.R_reads' HO_9.out).2.2 x10_1 p168 q168
                 obtain rfl : ad138 = ad168 := (by injection e168)
                 replace p168 := eq_true p168
                 replace q168 := eq_true q168
                 have p170 : 0 ≤ (x10_1 : Int) := of_decide_eq_true (by first | (with_reducible assumption) | assumption)
                 have q170 : x10_1 < (y135.length : Int) := of_decide_eq_true (by first | (with_reducible assumption) | assumption)
                 obtain ⟨ad170, e170, hx170_0, hx170_1⟩ := at_T25 (Kd.R_reads' HO_9.out).2.2 x10_1 p170 q170
                 obtain rfl : ad138 = ad170 := (by injection e170)
                 replace p170 := eq_true p170
                 replace q170 := eq_true q170
                 refine start_ (n := 52) (S := fun w' => w'.cell? ⟨gb143, 0, none⟩ = some (.int .i64 t140) ∧ w'.cell? ⟨gb143, 1, none⟩ = some (.int .i64 t141) ∧ w'.cell? ⟨gb149, 0, none⟩ = some (.int .i64 t146) ∧ w'.cell? ⟨gb149, 1, none⟩ = some (.int .i64 t147) ∧ w'.cell? ⟨gb155, 0, none⟩ = some (.int .i64 t152) ∧ w'.cell? ⟨gb155, 1, none⟩ = some (.int .i64 t153) ∧ w'.cell? ⟨gb161, 0, none⟩ = some (.int .i64 t158) ∧ w'.cell? ⟨gb161, 1, none⟩ = some (.int .i64 t159) ∧ w'.cell? (ad138.add ((x10_1).toNat * 2)) = some (.int .i64 ((rd_T25 y135 x10_1).f0)) ∧ w'.cell? ⟨(ad138.add ((x10_1).toNat * 2)).block, (ad138.add ((x10_1).toNat * 2)).off + 1, none⟩ = some (.int .i64 ((rd_T25 y135 x10_1).f1)) ∧ w'.cell? (ad138.add ((x11_2).toNat * 2)) = some (.int .i64 ((rd_T25 y135 x11_2).f0)) ∧ w'.cell? ⟨(ad138.add ((x11_2).toNat * 2)).block, (ad138.add ((x11_2).toNat * 2)).off + 1, none⟩ = some (.int .i64 ((rd_T25 y135 x11_2).f1)) ∧ w'.cell? (ad138.add ((x10_1).toNat * 2)) = some (.int .i64 ((rd_T25 y135 x10_1).f0)) ∧ w'.cell? ⟨(ad138.add ((x10_1).toNat * 2)).block, (ad138.add ((x10_1).toNat * 2)).off + 1, none⟩ = some (.int .i64 ((rd_T25 y135 x10_1).f1)) ∧ w'.cell? (ad138.add ((x11_2).toNat * 2)) = some (.int .i64 ((rd_T25 y135 x11_2).f0)) ∧ w'.cell? ⟨(ad138.add ((x11_2).toNat * 2)).block, (ad138.add ((x11_2).toNat * 2)).off + 1, none⟩ = some (.int .i64 ((rd_T25 y135 x11_2).f1)) ∧ w'.cell? (ad138.add ((x10_1).toNat * 2)) = some (.int .i64 ((rd_T25 y135 x10_1).f0)) ∧ w'.cell? ⟨(ad138.add ((x10_1).toNat * 2)).block, (ad138.add ((x10_1).toNat * 2)).off + 1, none⟩ = some (.int .i64 ((rd_T25 y135 x10_1).f1)) ∧ w'.cell? (ad138.add ((x10_1).toNat * 2)) = some (.int .i64 ((rd_T25 y135 x10_1).f0)) ∧ w'.cell? ⟨(ad138.add ((x10_1).toNat * 2)).block, (ad138.add ((x10_1).toNat * 2)).off + 1, none⟩ = some (.int .i64 ((rd_T25 y135 x10_1).f1))) (ds := []) #[false, false, false, false, false, false, false, false, false, false, false, false, false, false, false, false, false, false, false, false, false, false, false, false, false, false, false, false, false, false, false, false, false, false, false, false, false, false, false, false, false, false, false, false, false, false, false, false, false, false, false, false] (by kernel_rfl) rfl rfl ⟨(blk_cell BK143.out 0).trans rfl, (blk_cell BK143.out 1).trans rfl, (blk_cell BK149.out 0).trans rfl, (blk_cell BK149.out 1).trans rfl, (blk_cell BK155.out 0).trans rfl, (blk_cell BK155.out 1).trans rfl, (blk_cell BK161.out 0).trans rfl, (blk_cell BK161.out 1).trans rfl, hx162_0, hx162_1, hx163_0, hx163_1, hx165_0, hx165_1, hx166_0, hx166_1, hx168_0, hx168_1, hx170_0, hx170_1⟩ (fun hHeld => ?_); refine with_tabW joinerylaw1_VecAll.tab14 joinerylaw1_VecAll.bits14 (fun HT_ HW_ => ?_)
                 generalize w67.drew = w68 at HO_9 BK143 BK149 BK155 BK161 HB hx162_0 hx162_1 hx163_0 hx163_1 hx165_0 hx165_1 hx166_0 hx166_1 hx168_0 hx168_1 hx170_0 hx170_1 hHeld ⊢
                 refine take_ (i := 0) (N := some 102) (v := ?_) (a' := ?_) #[true, false, false, false, false, false, false, false, false, false, false, false, false, false, false, false, false, false, false, false, false, false, false, false, false, false, false, false, false, false, false, false, false, false, false, false, false, false, false, false, false, false, false, false, false, false, false, false, false, false, false, false] rfl rfl (take_ofW HT_.out HW_.out (by kernel_rfl)) (fun _ _ _ h => h) (Or.inl ⟨by rfl, ?_⟩) hHeld ?_ ?_
                 rotate_left
                 ·rintro w' ⟨s0, s1, s2, s3, s4, s5, s6, s7, s8, s9, s10, s11, s12, s13, s14, s15, s16, s17, s18, s19⟩
                  go_simp
                  with_reducible rfl
                 rotate_left
                 ·simp only [Act.put, List.setIfInBounds_toArray, List.set_cons_zero, List.set_cons_succ, i64_w, i32_w]
                  rfl
                 refine take_ (i := 1) (N := some 103) (v := ?_) (a' := ?_) #[true, true, false, false, false, false, false, false, false, false, false, false, false, false, false, false, false, false, false, false, false, false, false, false, false, false, false, false, false, false, false, false, false, false, false, false, false, false, false, false, false, false, false, false, false, false, false, false, false, false, false, false] rfl rfl (take_ofW HT_.out HW_.out (by kernel_rfl)) (fun _ _ _ h => h) (Or.inl ⟨by rfl, ?_⟩) hHeld ?_ ?_
                 rotate_left
                 ·rintro w' ⟨s0, s1, s2, s3, s4, s5, s6, s7, s8, s9, s10, s11, s12, s13, s14, s15, s16, s17, s18, s19⟩
                  go_simp
                  with_reducible rfl
                 rotate_left
                 ·simp only [Act.put, List.setIfInBounds_toArray, List.set_cons_zero, List.set_cons_succ, i64_w, i32_w]
                  rfl
                 refine pure_ (i := 2) (N := some 104) (v := ?_) (a' := ?_) #[true, true, true, false, false, false, false, false, false, false, false, false, false, false, false, false, false, false, false, false, false, false, false, false, false, false, false, false, false, false, false, false, false, false, false, false, false, false, false, false, false, false, false, false, false, false, false, false, false, false, false, false] rfl rfl (any_of HT_.out (by kernel_rfl)) (fun _ _ _ h => h) (Or.inl ⟨by rfl, ?_⟩) ?_ ?_
                 rotate_left
                 ·intro w'
                  go_simp
                  with_reducible rfl
                 rotate_left
                 ·simp only [Act.put, List.setIfInBounds_toArray, List.set_cons_zero, List.set_cons_succ, i64_w, i32_w]
                  rfl
                 refine pure_ (i := 3) (N := some 105) (v := ?_) (a' := ?_) #[true, true, true, true, false, false, false, false, false, false, false, false, false, false, false, false, false, false, false, false, false, false, false, false, false, false, false, false, false, false, false, false, false, false, false, false, false, false, false, false, false, false, false, false, false, false, false, false, false, false, false, false] rfl rfl (any_of HT_.out (by kernel_rfl)) (fun _ _ _ h => h) (Or.inl ⟨by rfl, ?_⟩) ?_ ?_
                 rotate_left
                 ·intro w'
                  go_simp
                  with_reducible rfl
                 rotate_left
                 ·simp only [Act.put, List.setIfInBounds_toArray, List.set_cons_zero, List.set_cons_succ, i64_w, i32_w]
                  rfl
                 refine pure_ (i := 4) (N := some 106) (v := ?_) (a' := ?_) #[true, true, true, true, true, false, false, false, false, false, false, false, false, false, false, false, false, false, false, false, false, false, false, false, false, false, false, false, false, false, false, false, false, false, false, false, false, false, false, false, false, false, false, false, false, false, false, false, false, false, false, false] rfl rfl (any_of HT_.out (by kernel_rfl)) (fun _ _ _ h => h) (Or.inl ⟨by rfl, ?_⟩) ?_ ?_
                 rotate_left
                 ·intro w'
                  go_simp
                  with_reducible rfl
                 rotate_left
                 ·simp only [Act.put, List.setIfInBounds_toArray, List.set_cons_zero, List.set_cons_succ, i64_w, i32_w]
                  rfl
                 refine pure_ (i := 5) (N := some 107) (v := ?_) (a' := ?_) #[true, true, true, true, true, true, false, false, false, false, false, false, false, false, false, false, false, false, false, false, false, false, false, false, false, false, false, false, false, false, false, false, false, false, false, false, false, false, false, false, false, false, false, false, false, false, false, false, false, false, false, false] rfl rfl (any_of HT_.out (by kernel_rfl)) (fun _ _ _ h => h) (Or.inl ⟨by rfl, ?_⟩) ?_ ?_
                 rotate_left
                 ·intro w'
                  go_simp
                  with_reducible rfl
                 rotate_left
                 ·simp only [Act.put, List.setIfInBounds_toArray, List.set_cons_zero, List.set_cons_succ, i64_w, i32_w]
                  rfl
                 refine pure_ (i := 6) (N := some 108) (v := ?_) (a' := ?_) #[true, true, true, true, true, true, true, false, false, false, false, false, false, false, false, false, false, false, false, false, false, false, false, false, false, false, false, false, false, false, false, false, false, false, false, false, false, false, false, false, false, false, false, false, false, false, false, false, false, false, false, false] rfl rfl (any_of HT_.out (by kernel_rfl)) (fun _ _ _ h => h) (Or.inl ⟨by rfl, ?_⟩) ?_ ?_
                 rotate_left
                 ·intro w'
                  go_simp
                  with_reducible rfl
                 rotate_left
                 ·simp only [Act.put, List.setIfInBounds_toArray, List.set_cons_zero, List.set_cons_succ, i64_w, i32_w]
                  rfl
                 refine pure_ (i := 7) (N := some 109) (v := ?_) (a' := ?_) #[true, true, true, true, true, true, true, true, false, false, false, false, false, false, false, false, false, false, false, false, false, false, false, false, false, false, false, false, false, false, false, false, false, false, false, false, false, false, false, false, false, false, false, false, false, false, false, false, false, false, false, false] rfl rfl (any_of HT_.out (by kernel_rfl)) (fun _ _ _ h => h) (Or.inl ⟨by rfl, ?_⟩) ?_ ?_
                 rotate_left
                 ·intro w'
                  go_simp
                  with_reducible rfl
                 rotate_left
                 ·simp only [Act.put, List.setIfInBounds_toArray, List.set_cons_zero, List.set_cons_succ, i64_w, i32_w]
                  rfl
                 refine pure_ (i := 8) (N := some 110) (v := ?_) (a' := ?_) #[true, true, true, true, true, true, true, true, true, false, false, false, false, false, false, false, false, false, false, false, false, false, false, false, false, false, false, false, false, false, false, false, false, false, false, false, false, false, false, false, false, false, false, false, false, false, false, false, false, false, false, false] rfl rfl (any_of HT_.out (by kernel_rfl)) (fun _ _ _ h => h) (Or.inl ⟨by rfl, ?_⟩) ?_ ?_
                 rotate_left
                 ·intro w'
                  go_simp
                  with_reducible rfl
                 rotate_left
                 ·simp only [Act.put, List.setIfInBounds_toArray, List.set_cons_zero, List.set_cons_succ, i64_w, i32_w]
                  rfl
                 refine take_ (i := 9) (N := some 111) (v := ?_) (a' := ?_) #[true, true, true, true, true, true, true, true, true, true, false, false, false, false, false, false, false, false, false, false, false, false, false, false, false, false, false, false, false, false, false, false, false, false, false, false, false, false, false, false, false, false, false, false, false, false, false, false, false, false, false, false] rfl rfl (take_ofW HT_.out HW_.out (by kernel_rfl)) (fun _ _ _ h => h) (Or.inl ⟨by rfl, ?_⟩) hHeld ?_ ?_
                 rotate_left
                 ·rintro w' ⟨s0, s1, s2, s3, s4, s5, s6, s7, s8, s9, s10, s11, s12, s13, s14, s15, s16, s17, s18, s19⟩
                  go_simp
                  with_reducible rfl
                 rotate_left
                 ·simp only [Act.put, List.setIfInBounds_toArray, List.set_cons_zero, List.set_cons_succ, i64_w, i32_w]
                  rfl
                 refine take_ (i := 10) (N := some 112) (v := ?_) (a' := ?_) #[true, true, true, true, true, true, true, true, true, true, true, false, false, false, false, false, false, false, false, false, false, false, false, false, false, false, false, false, false, false, false, false, false, false, false, false, false, false, false, false, false, false, false, false, false, false, false, false, false, false, false, false] rfl rfl (take_ofW HT_.out HW_.out (by kernel_rfl)) (fun _ _ _ h => h) (Or.inl ⟨by rfl, ?_⟩) hHeld ?_ ?_
                 rotate_left
                 ·rintro w' ⟨s0, s1, s2, s3, s4, s5, s6, s7, s8, s9, s10, s11, s12, s13, s14, s15, s16, s17, s18, s19⟩
                  go_simp
                  with_reducible rfl
                 rotate_left
                 ·simp only [Act.put, List.setIfInBounds_toArray, List.set_cons_zero, List.set_cons_succ, i64_w, i32_w]
                  rfl
                 refine pure_ (i := 11) (N := some 113) (v := ?_) (a' := ?_) #[true, true, true, true, true, true, true, true, true, true, true, true, false, false, false, false, false, false, false, false, false, false, false, false, false, false, false, false, false, false, false, false, false, false, false, false, false, false, false, false, false, false, false, false, false, false, false, false, false, false, false, false] rfl rfl (any_of HT_.out (by kernel_rfl)) (fun _ _ _ h => h) (Or.inl ⟨by rfl, ?_⟩) ?_ ?_
                 rotate_left
                 ·intro w'
                  go_simp
                  with_reducible rfl
                 rotate_left
                 ·simp only [Act.put, List.setIfInBounds_toArray, List.set_cons_zero, List.set_cons_succ, i64_w, i32_w]
                  rfl
                 refine pure_ (i := 12) (N := some 114) (v := ?_) (a' := ?_) #[true, true, true, true, true, true, true, true, true, true, true, true, true, false, false, false, false, false, false, false, false, false, false, false, false, false, false, false, false, false, false, false, false, false, false, false, false, false, false, false, false, false, false, false, false, false, false, false, false, false, false, false] rfl rfl (any_of HT_.out (by kernel_rfl)) (fun _ _ _ h => h) (Or.inl ⟨by rfl, ?_⟩) ?_ ?_
                 rotate_left
                 ·intro w'
                  go_simp
                  with_reducible rfl
                 rotate_left
                 ·simp only [Act.put, List.setIfInBounds_toArray, List.set_cons_zero, List.set_cons_succ, i64_w, i32_w]
                  rfl
                 refine pure_ (i := 13) (N := some 115) (v := ?_) (a' := ?_) #[true, true, true, true, true, true, true, true, true, true, true, true, true, true, false, false, false, false, false, false, false, false, false, false, false, false, false, false, false, false, false, false, false, false, false, false, false, false, false, false, false, false, false, false, false, false, false, false, false, false, false, false] rfl rfl (any_of HT_.out (by kernel_rfl)) (fun _ _ _ h => h) (Or.inl ⟨by rfl, ?_⟩) ?_ ?_
                 rotate_left
                 ·intro w'
                  go_simp
                  with_reducible rfl
                 rotate_left
                 ·simp only [Act.put, List.setIfInBounds_toArray, List.set_cons_zero, List.set_cons_succ, i64_w, i32_w]
                  rfl
                 refine pure_ (i := 14) (N := some 116) (v := ?_) (a' := ?_) #[true, true, true, true, true, true, true, true, true, true, true, true, true, true, true, false, false, false, false, false, false, false, false, false, false, false, false, false, false, false, false, false, false, false, false, false, false, false, false, false, false, false, false, false, false, false, false, false, false, false, false, false] rfl rfl (any_of HT_.out (by kernel_rfl)) (fun _ _ _ h => h) (Or.inl ⟨by rfl, ?_⟩) ?_ ?_
                 rotate_left
                 ·intro w'
                  go_simp
                  with_reducible rfl
                 rotate_left
                 ·simp only [Act.put, List.setIfInBounds_toArray, List.set_cons_zero, List.set_cons_succ, i64_w, i32_w]
                  rfl
                 refine pure_ (i := 15) (N := some 117) (v := ?_) (a' := ?_) #[true, true, true, true, true, true, true, true, true, true, true, true, true, true, true, true, false, false, false, false, false, false, false, false, false, false, false, false, false, false, false, false, false, false, false, false, false, false, false, false, false, false, false, false, false, false, false, false, false, false, false, false] rfl rfl (any_of HT_.out (by kernel_rfl)) (fun _ _ _ h => h) (Or.inl ⟨by rfl, ?_⟩) ?_ ?_
                 rotate_left
                 ·intro w'
                  go_simp
                  with_reducible rfl
                 rotate_left
                 ·simp only [Act.put, List.setIfInBounds_toArray, List.set_cons_zero, List.set_cons_succ, i64_w, i32_w]
                  rfl
                 refine pure_ (i := 16) (N := some 118) (v := ?_) (a' := ?_) #[true, true, true, true, true, true, true, true, true, true, true, true, true, true, true, true, true, false, false, false, false, false, false, false, false, false, false, false, false, false, false, false, false, false, false, false, false, false, false, false, false, false, false, false, false, false, false, false, false, false, false, false] rfl rfl (any_of HT_.out (by kernel_rfl)) (fun _ _ _ h => h) (Or.inl ⟨by rfl, ?_⟩) ?_ ?_
                 rotate_left
                 ·intro w'
                  go_simp
                  with_reducible rfl
                 rotate_left
                 ·simp only [Act.put, List.setIfInBounds_toArray, List.set_cons_zero, List.set_cons_succ, i64_w, i32_w]
                  rfl
                 refine pure_ (i := 17) (N := some 119) (v := ?_) (a' := ?_) #[true, true, true, true, true, true, true, true, true, true, true, true, true, true, true, true, true, true, false, false, false, false, false, false, false, false, false, false, false, false, false, false, false, false, false, false, false, false, false, false, false, false, false, false, false, false, false, false, false, false, false, false] rfl rfl (any_of HT_.out (by kernel_rfl)) (fun _ _ _ h => h) (Or.inl ⟨by rfl, ?_⟩) ?_ ?_
                 rotate_left
                 ·intro w'
                  go_simp
                  with_reducible rfl
                 rotate_left
                 ·simp only [Act.put, List.setIfInBounds_toArray, List.set_cons_zero, List.set_cons_succ, i64_w, i32_w]
                  rfl
                 refine pure_ (i := 18) (N := some 120) (v := ?_) (a' := ?_) #[true, true, true, true, true, true, true, true, true, true, true, true, true, true, true, true, true, true, true, false, false, false, false, false, false, false, false, false, false, false, false, false, false, false, false, false, false, false, false, false, false, false, false, false, false, false, false, false, false, false, false, false] rfl rfl (any_of HT_.out (by kernel_rfl)) (fun _ _ _ h => h) (Or.inl ⟨by rfl, ?_⟩) ?_ ?_
                 rotate_left
                 ·intro w'
                  go_simp
                  with_reducible rfl
                 rotate_left
                 ·simp only [Act.put, List.setIfInBounds_toArray, List.set_cons_zero, List.set_cons_succ, i64_w, i32_w]
                  rfl
                 refine pure_ (i := 19) (N := some 121) (v := ?_) (a' := ?_) #[true, true, true, true, true, true, true, true, true, true, true, true, true, true, true, true, true, true, true, true, false, false, false, false, false, false, false, false, false, false, false, false, false, false, false, false, false, false, false, false, false, false, false, false, false, false, false, false, false, false, false, false] rfl rfl (any_of HT_.out (by kernel_rfl)) (fun _ _ _ h => h) (Or.inl ⟨by rfl, ?_⟩) ?_ ?_
                 rotate_left
                 ·intro w'
                  go_simp
                  with_reducible rfl
                 rotate_left
                 ·simp only [Act.put, List.setIfInBounds_toArray, List.set_cons_zero, List.set_cons_succ, i64_w, i32_w]
                  rfl
                 refine pure_ (i := 20) (N := some 122) (v := ?_) (a' := ?_) #[true, true, true, true, true, true, true, true, true, true, true, true, true, true, true, true, true, true, true, true, true, false, false, false, false, false, false, false, false, false, false, false, false, false, false, false, false, false, false, false, false, false, false, false, false, false, false, false, false, false, false, false] rfl rfl (any_of HT_.out (by kernel_rfl)) (fun _ _ _ h => h) (Or.inl ⟨by rfl, ?_⟩) ?_ ?_
                 rotate_left
                 ·intro w'
                  go_simp
                  with_reducible rfl
                 rotate_left
                 ·simp only [Act.put, List.setIfInBounds_toArray, List.set_cons_zero, List.set_cons_succ, i64_w, i32_w]
                  rfl
                 refine pure_ (i := 21) (N := some 123) (v := ?_) (a' := ?_) #[true, true, true, true, true, true, true, true, true, true, true, true, true, true, true, true, true, true, true, true, true, true, false, false, false, false, false, false, false, false, false, false, false, false, false, false, false, false, false, false, false, false, false, false, false, false, false, false, false, false, false, false] rfl rfl (any_of HT_.out (by kernel_rfl)) (fun _ _ _ h => h) (Or.inl ⟨by rfl, ?_⟩) ?_ ?_
                 rotate_left
                 ·intro w'
                  go_simp
                  with_reducible rfl
                 rotate_left
                 ·simp only [Act.put, List.setIfInBounds_toArray, List.set_cons_zero, List.set_cons_succ, i64_w, i32_w]
                  rfl
                 refine pure_ (i := 23) (N := some 125) (v := ?_) (a' := ?_) #[true, true, true, true, true, true, true, true, true, true, true, true, true, true, true, true, true, true, true, true, true, true, false, true, false, false, false, false, false, false, false, false, false, false, false, false, false, false, false, false, false, false, false, false, false, false, false, false, false, false, false, false] rfl rfl (any_of HT_.out (by kernel_rfl)) (fun _ _ _ h => h) (Or.inl ⟨by rfl, ?_⟩) ?_ ?_
                 rotate_left
                 ·intro w'
                  go_simp
                  with_reducible rfl
                 rotate_left
                 ·simp only [Act.put, List.setIfInBounds_toArray, List.set_cons_zero, List.set_cons_succ, i64_w, i32_w]
                  rfl
                 refine pure_ (i := 24) (N := some 126) (v := ?_) (a' := ?_) #[true, true, true, true, true, true, true, true, true, true, true, true, true, true, true, true, true, true, true, true, true, true, false, true, true, false, false, false, false, false, false, false, false, false, false, false, false, false, false, false, false, false, false, false, false, false, false, false, false, false, false, false] rfl rfl (any_of HT_.out (by kernel_rfl)) (fun _ _ _ h => h) (Or.inl ⟨by rfl, ?_⟩) ?_ ?_
                 rotate_left
                 ·intro w'
                  go_simp
                  with_reducible rfl
                 rotate_left
                 ·simp only [Act.put, List.setIfInBounds_toArray, List.set_cons_zero, List.set_cons_succ, i64_w, i32_w]
                  rfl
                 refine pure_ (i := 25) (N := some 127) (v := ?_) (a' := ?_) #[true, true, true, true, true, true, true, true, true, true, true, true, true, true, true, true, true, true, true, true, true, true, false, true, true, true, false, false, false, false, false, false, false, false, false, false, false, false, false, false, false, false, false, false, false, false, false, false, false, false, false, false] rfl rfl (any_of HT_.out (by kernel_rfl)) (fun _ _ _ h => h) (Or.inl ⟨by rfl, ?_⟩) ?_ ?_
                 rotate_left
                 ·intro w'
                  go_simp
                  with_reducible rfl
                 rotate_left
                 ·simp only [Act.put, List.setIfInBounds_toArray, List.set_cons_zero, List.set_cons_succ, i64_w, i32_w]
                  rfl
                 refine pure_ (i := 28) (N := some 130) (v := ?_) (a' := ?_) #[true, true, true, true, true, true, true, true, true, true, true, true, true, true, true, true, true, true, true, true, true, true, false, true, true, true, false, false, true, false, false, false, false, false, false, false, false, false, false, false, false, false, false, false, false, false, false, false, false, false, false, false] rfl rfl (any_of HT_.out (by kernel_rfl)) (fun _ _ _ h => h) (Or.inl ⟨by rfl, ?_⟩) ?_ ?_
                 rotate_left
                 ·intro w'
                  go_simp
                  with_reducible rfl
                 rotate_left
                 ·simp only [Act.put, List.setIfInBounds_toArray, List.set_cons_zero, List.set_cons_succ, i64_w, i32_w]
                  rfl
                 refine pure_ (i := 29) (N := some 131) (v := ?_) (a' := ?_) #[true, true, true, true, true, true, true, true, true, true, true, true, true, true, true, true, true, true, true, true, true, true, false, true, true, true, false, false, true, true, false, false, false, false, false, false, false, false, false, false, false, false, false, false, false, false, false, false, false, false, false, false] rfl rfl (any_of HT_.out (by kernel_rfl)) (fun _ _ _ h => h) (Or.inl ⟨by rfl, ?_⟩) ?_ ?_
                 rotate_left
                 ·intro w'
                  go_simp
                  with_reducible rfl
                 rotate_left
                 ·simp only [Act.put, List.setIfInBounds_toArray, List.set_cons_zero, List.set_cons_succ, i64_w, i32_w]
                  rfl
                 refine pure_ (i := 30) (N := some 132) (v := ?_) (a' := ?_) #[true, true, true, true, true, true, true, true, true, true, true, true, true, true, true, true, true, true, true, true, true, true, false, true, true, true, false, false, true, true, true, false, false, false, false, false, false, false, false, false, false, false, false, false, false, false, false, false, false, false, false, false] rfl rfl (any_of HT_.out (by kernel_rfl)) (fun _ _ _ h => h) (Or.inl ⟨by rfl, ?_⟩) ?_ ?_
                 rotate_left
                 ·intro w'
                  go_simp
                  with_reducible rfl
                 rotate_left
                 ·simp only [Act.put, List.setIfInBounds_toArray, List.set_cons_zero, List.set_cons_succ, i64_w, i32_w]
                  rfl
                 refine pure_ (i := 32) (N := some 134) (v := ?_) (a' := ?_) #[true, true, true, true, true, true, true, true, true, true, true, true, true, true, true, true, true, true, true, true, true, true, false, true, true, true, false, false, true, true, true, false, true, false, false, false, false, false, false, false, false, false, false, false, false, false, false, false, false, false, false, false] rfl rfl (any_of HT_.out (by kernel_rfl)) (fun _ _ _ h => h) (Or.inl ⟨by rfl, ?_⟩) ?_ ?_
                 rotate_left
                 ·intro w'
                  go_simp
                  with_reducible rfl
                 rotate_left
                 ·simp only [Act.put, List.setIfInBounds_toArray, List.set_cons_zero, List.set_cons_succ, i64_w, i32_w]
                  rfl
                 refine pure_ (i := 33) (N := some 135) (v := ?_) (a' := ?_) #[true, true, true, true, true, true, true, true, true, true, true, true, true, true, true, true, true, true, true, true, true, true, false, true, true, true, false, false, true, true, true, false, true, true, false, false, false, false, false, false, false, false, false, false, false, false, false, false, false, false, false, false] rfl rfl (any_of HT_.out (by kernel_rfl)) (fun _ _ _ h => h) (Or.inl ⟨by rfl, ?_⟩) ?_ ?_
                 rotate_left
                 ·intro w'
                  go_simp
                  with_reducible rfl
                 rotate_left
                 ·simp only [Act.put, List.setIfInBounds_toArray, List.set_cons_zero, List.set_cons_succ, i64_w, i32_w]
                  rfl
                 refine pure_ (i := 34) (N := some 136) (v := ?_) (a' := ?_) #[true, true, true, true, true, true, true, true, true, true, true, true, true, true, true, true, true, true, true, true, true, true, false, true, true, true, false, false, true, true, true, false, true, true, true, false, false, false, false, false, false, false, false, false, false, false, false, false, false, false, false, false] rfl rfl (any_of HT_.out (by kernel_rfl)) (fun _ _ _ h => h) (Or.inl ⟨by rfl, ?_⟩) ?_ ?_
                 rotate_left
                 ·intro w'
                  go_simp
                  with_reducible rfl
                 rotate_left
                 ·simp only [Act.put, List.setIfInBounds_toArray, List.set_cons_zero, List.set_cons_succ, i64_w, i32_w]
                  rfl
                 refine take_ (i := 22) (N := some 124) (v := ?_) (a' := ?_) #[true, true, true, true, true, true, true, true, true, true, true, true, true, true, true, true, true, true, true, true, true, true, true, true, true, true, false, false, true, true, true, false, true, true, true, false, false, false, false, false, false, false, false, false, false, false, false, false, false, false, false, false] rfl rfl (take_ofW HT_.out HW_.out (by kernel_rfl)) (fun _ _ _ h => h) (Or.inl ⟨by rfl, ?_⟩) hHeld ?_ ?_
                 rotate_left
                 ·rintro w' ⟨s0, s1, s2, s3, s4, s5, s6, s7, s8, s9, s10, s11, s12, s13, s14, s15, s16, s17, s18, s19⟩
                  go_simp
                  with_reducible rfl
                 rotate_left
                 ·simp only [Act.put, List.setIfInBounds_toArray, List.set_cons_zero, List.set_cons_succ, i64_w, i32_w]
                  rfl
                 refine take_ (i := 26) (N := some 128) (v := ?_) (a' := ?_) #[true, true, true, true, true, true, true, true, true, true, true, true, true, true, true, true, true, true, true, true, true, true, true, true, true, true, true, false, true, true, true, false, true, true, true, false, false, false, false, false, false, false, false, false, false, false, false, false, false, false, false, false] rfl rfl (take_ofW HT_.out HW_.out (by kernel_rfl)) (fun _ _ _ h => h) (Or.inl ⟨by rfl, ?_⟩) hHeld ?_ ?_
                 rotate_left
                 ·rintro w' ⟨s0, s1, s2, s3, s4, s5, s6, s7, s8, s9, s10, s11, s12, s13, s14, s15, s16, s17, s18, s19⟩
                  go_simp
                  with_reducible rfl
                 rotate_left
                 ·simp only [Act.put, List.setIfInBounds_toArray, List.set_cons_zero, List.set_cons_succ, i64_w, i32_w]
                  rfl
                 refine take_ (i := 31) (N := some 133) (v := ?_) (a' := ?_) #[true, true, true, true, true, true, true, true, true, true, true, true, true, true, true, true, true, true, true, true, true, true, true, true, true, true, true, false, true, true, true, true, true, true, true, false, false, false, false, false, false, false, false, false, false, false, false, false, false, false, false, false] rfl rfl (take_ofW HT_.out HW_.out (by kernel_rfl)) (fun _ _ _ h => h) (Or.inl ⟨by rfl, ?_⟩) hHeld ?_ ?_
                 rotate_left
                 ·rintro w' ⟨s0, s1, s2, s3, s4, s5, s6, s7, s8, s9, s10, s11, s12, s13, s14, s15, s16, s17, s18, s19⟩
                  go_simp
                  with_reducible rfl
                 rotate_left
                 ·simp only [Act.put, List.setIfInBounds_toArray, List.set_cons_zero, List.set_cons_succ, i64_w, i32_w]
                  rfl
                 refine take_ (i := 35) (N := some 137) (v := ?_) (a' := ?_) #[true, true, true, true, true, true, true, true, true, true, true, true, true, true, true, true, true, true, true, true, true, true, true, true, true, true, true, false, true, true, true, true, true, true, true, true, false, false, false, false, false, false, false, false, false, false, false, false, false, false, false, false] rfl rfl (take_ofW HT_.out HW_.out (by kernel_rfl)) (fun _ _ _ h => h) (Or.inl ⟨by rfl, ?_⟩) hHeld ?_ ?_
                 rotate_left
                 ·rintro w' ⟨s0, s1, s2, s3, s4, s5, s6, s7, s8, s9, s10, s11, s12, s13, s14, s15, s16, s17, s18, s19⟩
                  go_simp
                  with_reducible rfl
                 rotate_left
                 ·simp only [Act.put, List.setIfInBounds_toArray, List.set_cons_zero, List.set_cons_succ, i64_w, i32_w]
                  rfl
                 refine one_ (i := 27) (N := some 129) #[true, true, true, true, true, true, true, true, true, true, true, true, true, true, true, true, true, true, true, true, true, true, true, true, true, true, true, true, true, true, true, true, true, true, true, true, false, false, false, false, false, false, false, false, false, false, false, false, false, false, false, false] rfl rfl (one_of HT_.out (by kernel_rfl)) (by decide) (fun K hK => ?_)
                 refine goes_ Try.func13 (by kernel_rfl) rfl #[.agg #[.int .i64 ((rd_T25 y135 x10_1).f0), .int .i64 ((rd_T25 y135 x10_1).f1)], .agg #[.int .i64 ((rd_T25 y135 x11_2).f0), .int .i64 ((rd_T25 y135 x11_2).f1)]] (by rfl) rfl rfl (by (try simp only [List.map_toArray, List.map_cons, List.map_nil]); first | done | rfl | (simp only [List.length_drop, List.length_take]; rfl)) ?_
                 with_reducible refine (vec_Fits.calls ((rd_T25 y135 x10_1).f0) ((rd_T25 y135 x10_1).f1) ((rd_T25 y135 x11_2).f0) ((rd_T25 y135 x11_2).f1) t164 _ A34.out).mono ?_
                 rintro e w69 ⟨rfl, hb⟩
                 have HS8_ := (hb.cell (World.block_lt_of_cell? _ _ (hHeld.2.2.2.2.2.2.2.2.1))).trans (hHeld.2.2.2.2.2.2.2.2.1)
                 have HS9_ := (hb.cell (World.block_lt_of_cell? _ _ (hHeld.2.2.2.2.2.2.2.2.2.1))).trans (hHeld.2.2.2.2.2.2.2.2.2.1)
                 have HS10_ := (hb.cell (World.block_lt_of_cell? _ _ (hHeld.2.2.2.2.2.2.2.2.2.2.1))).trans (hHeld.2.2.2.2.2.2.2.2.2.2.1)
                 have HS11_ := (hb.cell (World.block_lt_of_cell? _ _ (hHeld.2.2.2.2.2.2.2.2.2.2.2.1))).trans (hHeld.2.2.2.2.2.2.2.2.2.2.2.1)
                 have HS12_ := (hb.cell (World.block_lt_of_cell? _ _ (hHeld.2.2.2.2.2.2.2.2.2.2.2.2.1))).trans (hHeld.2.2.2.2.2.2.2.2.2.2.2.2.1)
                 have HS13_ := (hb.cell (World.block_lt_of_cell? _ _ (hHeld.2.2.2.2.2.2.2.2.2.2.2.2.2.1))).trans (hHeld.2.2.2.2.2.2.2.2.2.2.2.2.2.1)
                 have HS14_ := (hb.cell (World.block_lt_of_cell? _ _ (hHeld.2.2.2.2.2.2.2.2.2.2.2.2.2.2.1))).trans (hHeld.2.2.2.2.2.2.2.2.2.2.2.2.2.2.1)
                 have HS15_ := (hb.cell (World.block_lt_of_cell? _ _ (hHeld.2.2.2.2.2.2.2.2.2.2.2.2.2.2.2.1))).trans (hHeld.2.2.2.2.2.2.2.2.2.2.2.2.2.2.2.1)
                 have HS16_ := (hb.cell (World.block_lt_of_cell? _ _ (hHeld.2.2.2.2.2.2.2.2.2.2.2.2.2.2.2.2.1))).trans (hHeld.2.2.2.2.2.2.2.2.2.2.2.2.2.2.2.2.1)
                 have HS17_ := (hb.cell (World.block_lt_of_cell? _ _ (hHeld.2.2.2.2.2.2.2.2.2.2.2.2.2.2.2.2.2.1))).trans (hHeld.2.2.2.2.2.2.2.2.2.2.2.2.2.2.2.2.2.1)
                 have HS18_ := (hb.cell (World.block_lt_of_cell? _ _ (hHeld.2.2.2.2.2.2.2.2.2.2.2.2.2.2.2.2.2.2.1))).trans (hHeld.2.2.2.2.2.2.2.2.2.2.2.2.2.2.2.2.2.2.1)
                 have HS19_ := (hb.cell (World.block_lt_of_cell? _ _ (hHeld.2.2.2.2.2.2.2.2.2.2.2.2.2.2.2.2.2.2.2))).trans (hHeld.2.2.2.2.2.2.2.2.2.2.2.2.2.2.2.2.2.2.2)
                 refine ⟨_, rfl, ?_⟩
                 have n0_ := Aside0.mk (Kd.R_below (by (with_reducible repeat (first | apply Kd.R_alloc | apply Kd.R_drewN | apply Kd.R_drew)); exact HO_9.out) hb)
                 have n1_ := Aside0.mk (blk_below (g := gb143) (o := .cells #[.int .i64 t140, .int .i64 t141] 25 (0, 0)) (by (with_reducible repeat (first | refine blk_drewN ?_ _ | refine blk_drew ?_ | refine blk_alloc ?_ _)); exact BK143.out) hb)
                 have n2_ := Aside0.mk (blk_below (g := gb149) (o := .cells #[.int .i64 t146, .int .i64 t147] 25 (0, 0)) (by (with_reducible repeat (first | refine blk_drewN ?_ _ | refine blk_drew ?_ | refine blk_alloc ?_ _)); exact BK149.out) hb)
                 have n3_ := Aside0.mk (blk_below (g := gb155) (o := .cells #[.int .i64 t152, .int .i64 t153] 25 (0, 0)) (by (with_reducible repeat (first | refine blk_drewN ?_ _ | refine blk_drew ?_ | refine blk_alloc ?_ _)); exact BK155.out) hb)
                 have n4_ := Aside0.mk (blk_below (g := gb161) (o := .cells #[.int .i64 t158, .int .i64 t159] 25 (0, 0)) (by (with_reducible repeat (first | refine blk_drewN ?_ _ | refine blk_drew ?_ | refine blk_alloc ?_ _)); exact BK161.out) hb)
                 have n5_ := Aside0.mk (below_step (by repeat (first | (with_reducible first | exact HB.out | apply below_alloc | apply pw_below_drewN | apply below_drew1 | refine below_set ?_ GE143.out | refine below_set ?_ GE149.out | refine below_set ?_ GE155.out | refine below_set ?_ GE161.out) | exact HB.out)) hb)
                 clear HO_9
                 clear BK143
                 clear BK149
                 clear BK155
                 clear BK161
                 clear HB
                 have HO_9 := n0_
                 have BK143 := n1_
                 have BK149 := n2_
                 have BK155 := n3_
                 have BK161 := n4_
                 have HB := n5_
                 clear n0_ n1_ n2_ n3_ n4_ n5_
                 (try clear hb)
                 (try clear hb2)
                 (try clear hk)
                 (try clear hi)
                 refine hK.out _ _ ⟨(blk_cell BK143.out 0).trans rfl, (blk_cell BK143.out 1).trans rfl, (blk_cell BK149.out 0).trans rfl, (blk_cell BK149.out 1).trans rfl, (blk_cell BK155.out 0).trans rfl, (blk_cell BK155.out 1).trans rfl, (blk_cell BK161.out 0).trans rfl, (blk_cell BK161.out 1).trans rfl, HS8_, HS9_, HS10_, HS11_, HS12_, HS13_, HS14_, HS15_, HS16_, HS17_, HS18_, HS19_⟩ (fun hHeld => ?_)
                 clear hK K
                 refine norm_ (a' := ?_) ?_ ?_
                 rotate_left
                 ·show Act.put _ (some 129) _ = _
                  simp only [Act.put, List.setIfInBounds_toArray, List.set_cons_zero, List.set_cons_succ, i64_w, i32_w]
                  rfl
                 refine one_ (i := 36) (N := some 138) #[true, true, true, true, true, true, true, true, true, true, true, true, true, true, true, true, true, true, true, true, true, true, true, true, true, true, true, true, true, true, true, true, true, true, true, true, true, false, false, false, false, false, false, false, false, false, false, false, false, false, false, false] rfl rfl (one_of HT_.out (by kernel_rfl)) (by decide) (fun K hK => ?_)
                 refine goes_ Try.func19 (by kernel_rfl) rfl #[.agg #[.int .i64 ((rd_T25 y135 x10_1).f0), .int .i64 ((rd_T25 y135 x10_1).f1)], .agg #[.int .i64 ((rd_T25 y135 x11_2).f0), .int .i64 ((rd_T25 y135 x11_2).f1)]] (by rfl) rfl rfl (by (try simp only [List.map_toArray, List.map_cons, List.map_nil]); first | done | rfl | (simp only [List.length_drop, List.length_take]; rfl)) ?_
                 with_reducible refine (joineryref1_Fits.calls ((rd_T25 y135 x10_1).f0) ((rd_T25 y135 x10_1).f1) ((rd_T25 y135 x11_2).f0) ((rd_T25 y135 x11_2).f1) t167 _ A35.out).mono ?_
                 rintro e w70 ⟨rfl, hb⟩
                 have HS8_ := (hb.cell (World.block_lt_of_cell? _ _ (hHeld.2.2.2.2.2.2.2.2.1))).trans (hHeld.2.2.2.2.2.2.2.2.1)
                 have HS9_ := (hb.cell (World.block_lt_of_cell? _ _ (hHeld.2.2.2.2.2.2.2.2.2.1))).trans (hHeld.2.2.2.2.2.2.2.2.2.1)
                 have HS10_ := (hb.cell (World.block_lt_of_cell? _ _ (hHeld.2.2.2.2.2.2.2.2.2.2.1))).trans (hHeld.2.2.2.2.2.2.2.2.2.2.1)
                 have HS11_ := (hb.cell (World.block_lt_of_cell? _ _ (hHeld.2.2.2.2.2.2.2.2.2.2.2.1))).trans (hHeld.2.2.2.2.2.2.2.2.2.2.2.1)
                 have HS12_ := (hb.cell (World.block_lt_of_cell? _ _ (hHeld.2.2.2.2.2.2.2.2.2.2.2.2.1))).trans (hHeld.2.2.2.2.2.2.2.2.2.2.2.2.1)
                 have HS13_ := (hb.cell (World.block_lt_of_cell? _ _ (hHeld.2.2.2.2.2.2.2.2.2.2.2.2.2.1))).trans (hHeld.2.2.2.2.2.2.2.2.2.2.2.2.2.1)
                 have HS14_ := (hb.cell (World.block_lt_of_cell? _ _ (hHeld.2.2.2.2.2.2.2.2.2.2.2.2.2.2.1))).trans (hHeld.2.2.2.2.2.2.2.2.2.2.2.2.2.2.1)
                 have HS15_ := (hb.cell (World.block_lt_of_cell? _ _ (hHeld.2.2.2.2.2.2.2.2.2.2.2.2.2.2.2.1))).trans (hHeld.2.2.2.2.2.2.2.2.2.2.2.2.2.2.2.1)
                 have HS16_ := (hb.cell (World.block_lt_of_cell? _ _ (hHeld.2.2.2.2.2.2.2.2.2.2.2.2.2.2.2.2.1))).trans (hHeld.2.2.2.2.2.2.2.2.2.2.2.2.2.2.2.2.1)
                 have HS17_ := (hb.cell (World.block_lt_of_cell? _ _ (hHeld.2.2.2.2.2.2.2.2.2.2.2.2.2.2.2.2.2.1))).trans (hHeld.2.2.2.2.2.2.2.2.2.2.2.2.2.2.2.2.2.1)
                 have HS18_ := (hb.cell (World.block_lt_of_cell? _ _ (hHeld.2.2.2.2.2.2.2.2.2.2.2.2.2.2.2.2.2.2.1))).trans (hHeld.2.2.2.2.2.2.2.2.2.2.2.2.2.2.2.2.2.2.1)
                 have HS19_ := (hb.cell (World.block_lt_of_cell? _ _ (hHeld.2.2.2.2.2.2.2.2.2.2.2.2.2.2.2.2.2.2.2))).trans (hHeld.2.2.2.2.2.2.2.2.2.2.2.2.2.2.2.2.2.2.2)
                 refine ⟨_, rfl, ?_⟩
                 have n0_ := Aside0.mk (Kd.R_below (by (with_reducible repeat (first | apply Kd.R_alloc | apply Kd.R_drewN | apply Kd.R_drew)); exact HO_9.out) hb)
                 have n1_ := Aside0.mk (blk_below (g := gb143) (o := .cells #[.int .i64 t140, .int .i64 t141] 25 (0, 0)) (by (with_reducible repeat (first | refine blk_drewN ?_ _ | refine blk_drew ?_ | refine blk_alloc ?_ _)); exact BK143.out) hb)
                 have n2_ := Aside0.mk (blk_below (g := gb149) (o := .cells #[.int .i64 t146, .int .i64 t147] 25 (0, 0)) (by (with_reducible repeat (first | refine blk_drewN ?_ _ | refine blk_drew ?_ | refine blk_alloc ?_ _)); exact BK149.out) hb)
                 have n3_ := Aside0.mk (blk_below (g := gb155) (o := .cells #[.int .i64 t152, .int .i64 t153] 25 (0, 0)) (by (with_reducible repeat (first | refine blk_drewN ?_ _ | refine blk_drew ?_ | refine blk_alloc ?_ _)); exact BK155.out) hb)
                 have n4_ := Aside0.mk (blk_below (g := gb161) (o := .cells #[.int .i64 t158, .int .i64 t159] 25 (0, 0)) (by (with_reducible repeat (first | refine blk_drewN ?_ _ | refine blk_drew ?_ | refine blk_alloc ?_ _)); exact BK161.out) hb)
                 have n5_ := Aside0.mk (below_step (by repeat (first | (with_reducible first | exact HB.out | apply below_alloc | apply pw_below_drewN | apply below_drew1 | refine below_set ?_ GE143.out | refine below_set ?_ GE149.out | refine below_set ?_ GE155.out | refine below_set ?_ GE161.out) | exact HB.out)) hb)
                 clear HO_9
                 clear BK143
                 clear BK149
                 clear BK155
                 clear BK161
                 clear HB
                 have HO_9 := n0_
                 have BK143 := n1_
                 have BK149 := n2_
                 have BK155 := n3_
                 have BK161 := n4_
                 have HB := n5_
                 clear n0_ n1_ n2_ n3_ n4_ n5_
                 (try clear hb)
                 (try clear hb2)
                 (try clear hk)
                 (try clear hi)
                 refine hK.out _ _ ⟨(blk_cell BK143.out 0).trans rfl, (blk_cell BK143.out 1).trans rfl, (blk_cell BK149.out 0).trans rfl, (blk_cell BK149.out 1).trans rfl, (blk_cell BK155.out 0).trans rfl, (blk_cell BK155.out 1).trans rfl, (blk_cell BK161.out 0).trans rfl, (blk_cell BK161.out 1).trans rfl, HS8_, HS9_, HS10_, HS11_, HS12_, HS13_, HS14_, HS15_, HS16_, HS17_, HS18_, HS19_⟩ (fun hHeld => ?_)
                 clear hK K
                 refine norm_ (a' := ?_) ?_ ?_
                 rotate_left
                 ·show Act.put _ (some 138) _ = _
                  simp only [Act.put, List.setIfInBounds_toArray, List.set_cons_zero, List.set_cons_succ, i64_w, i32_w]
                  rfl
                 refine pure_ (i := 37) (N := some 139) (v := ?_) (a' := ?_) #[true, true, true, true, true, true, true, true, true, true, true, true, true, true, true, true, true, true, true, true, true, true, true, true, true, true, true, true, true, true, true, true, true, true, true, true, true, true, false, false, false, false, false, false, false, false, false, false, false, false, false, false] rfl rfl (any_of HT_.out (by kernel_rfl)) (fun _ _ _ h => h) (Or.inl ⟨by rfl, ?_⟩) ?_ ?_
                 rotate_left
                 ·intro w'
                  go_simp
                  with_reducible rfl
                 rotate_left
                 ·simp only [Act.put, List.setIfInBounds_toArray, List.set_cons_zero, List.set_cons_succ, i64_w, i32_w]
                  rfl
                 refine pure_ (i := 38) (N := some 140) (v := ?_) (a' := ?_) #[true, true, true, true, true, true, true, true, true, true, true, true, true, true, true, true, true, true, true, true, true, true, true, true, true, true, true, true, true, true, true, true, true, true, true, true, true, true, true, false, false, false, false, false, false, false, false, false, false, false, false, false] rfl rfl (any_of HT_.out (by kernel_rfl)) (fun _ _ _ h => h) (Or.inl ⟨by rfl, ?_⟩) ?_ ?_
                 rotate_left
                 ·intro w'
                  go_simp
                  with_reducible rfl
                 rotate_left
                 ·simp only [Act.put, List.setIfInBounds_toArray, List.set_cons_zero, List.set_cons_succ, i64_w, i32_w]
                  rfl
                 refine pure_ (i := 39) (N := some 141) (v := ?_) (a' := ?_) #[true, true, true, true, true, true, true, true, true, true, true, true, true, true, true, true, true, true, true, true, true, true, true, true, true, true, true, true, true, true, true, true, true, true, true, true, true, true, true, true, false, false, false, false, false, false, false, false, false, false, false, false] rfl rfl (any_of HT_.out (by kernel_rfl)) (fun _ _ _ h => h) (Or.inl ⟨by rfl, ?_⟩) ?_ ?_
                 rotate_left
                 ·intro w'
                  go_simp
                  with_reducible rfl
                 rotate_left
                 ·simp only [Act.put, List.setIfInBounds_toArray, List.set_cons_zero, List.set_cons_succ, i64_w, i32_w]
                  rfl
                 refine pure_ (i := 40) (N := some 142) (v := ?_) (a' := ?_) #[true, true, true, true, true, true, true, true, true, true, true, true, true, true, true, true, true, true, true, true, true, true, true, true, true, true, true, true, true, true, true, true, true, true, true, true, true, true, true, true, true, false, false, false, false, false, false, false, false, false, false, false] rfl rfl (any_of HT_.out (by kernel_rfl)) (fun _ _ _ h => h) (Or.inl ⟨by rfl, ?_⟩) ?_ ?_
                 rotate_left
                 ·intro w'
                  go_simp
                  with_reducible rfl
                 rotate_left
                 ·simp only [Act.put, List.setIfInBounds_toArray, List.set_cons_zero, List.set_cons_succ, i64_w, i32_w]
                  rfl
                 refine pure_ (i := 41) (N := some 143) (v := ?_) (a' := ?_) #[true, true, true, true, true, true, true, true, true, true, true, true, true, true, true, true, true, true, true, true, true, true, true, true, true, true, true, true, true, true, true, true, true, true, true, true, true, true, true, true, true, true, false, false, false, false, false, false, false, false, false, false] rfl rfl (any_of HT_.out (by kernel_rfl)) (fun _ _ _ h => h) (Or.inl ⟨by rfl, ?_⟩) ?_ ?_
                 rotate_left
                 ·intro w'
                  go_simp
                  with_reducible rfl
                 rotate_left
                 ·simp only [Act.put, List.setIfInBounds_toArray, List.set_cons_zero, List.set_cons_succ, i64_w, i32_w]
                  rfl
                 refine pure_ (i := 42) (N := some 144) (v := ?_) (a' := ?_) #[true, true, true, true, true, true, true, true, true, true, true, true, true, true, true, true, true, true, true, true, true, true, true, true, true, true, true, true, true, true, true, true, true, true, true, true, true, true, true, true, true, true, true, false, false, false, false, false, false, false, false, false] rfl rfl (any_of HT_.out (by kernel_rfl)) (fun _ _ _ h => h) (Or.inl ⟨by rfl, ?_⟩) ?_ ?_
                 rotate_left
                 ·intro w'
                  go_simp
                  with_reducible rfl
                 rotate_left
                 ·simp only [Act.put, List.setIfInBounds_toArray, List.set_cons_zero, List.set_cons_succ, i64_w, i32_w]
                  rfl
                 refine pure_ (i := 45) (N := some 147) (v := ?_) (a' := ?_) #[true, true, true, true, true, true, true, true, true, true, true, true, true, true, true, true, true, true, true, true, true, true, true, true, true, true, true, true, true, true, true, true, true, true, true, true, true, true, true, true, true, true, true, false, false, true, false, false, false, false, false, false] rfl rfl (any_of HT_.out (by kernel_rfl)) (fun _ _ _ h => h) (Or.inl ⟨by rfl, ?_⟩) ?_ ?_
                 rotate_left
                 ·intro w'
                  go_simp
                  with_reducible rfl
                 rotate_left
                 ·simp only [Act.put, List.setIfInBounds_toArray, List.set_cons_zero, List.set_cons_succ, i64_w, i32_w]
                  rfl
                 refine pure_ (i := 46) (N := some 148) (v := ?_) (a' := ?_) #[true, true, true, true, true, true, true, true, true, true, true, true, true, true, true, true, true, true, true, true, true, true, true, true, true, true, true, true, true, true, true, true, true, true, true, true, true, true, true, true, true, true, true, false, false, true, true, false, false, false, false, false] rfl rfl (any_of HT_.out (by kernel_rfl)) (fun _ _ _ h => h) (Or.inl ⟨by rfl, ?_⟩) ?_ ?_
                 rotate_left
                 ·intro w'
                  go_simp
                  with_reducible rfl
                 rotate_left
                 ·simp only [Act.put, List.setIfInBounds_toArray, List.set_cons_zero, List.set_cons_succ, i64_w, i32_w]
                  rfl
                 refine pure_ (i := 47) (N := some 149) (v := ?_) (a' := ?_) #[true, true, true, true, true, true, true, true, true, true, true, true, true, true, true, true, true, true, true, true, true, true, true, true, true, true, true, true, true, true, true, true, true, true, true, true, true, true, true, true, true, true, true, false, false, true, true, true, false, false, false, false] rfl rfl (any_of HT_.out (by kernel_rfl)) (fun _ _ _ h => h) (Or.inl ⟨by rfl, ?_⟩) ?_ ?_
                 rotate_left
                 ·intro w'
                  go_simp
                  with_reducible rfl
                 rotate_left
                 ·simp only [Act.put, List.setIfInBounds_toArray, List.set_cons_zero, List.set_cons_succ, i64_w, i32_w]
                  rfl
                 refine take_ (i := 43) (N := some 145) (v := ?_) (a' := ?_) #[true, true, true, true, true, true, true, true, true, true, true, true, true, true, true, true, true, true, true, true, true, true, true, true, true, true, true, true, true, true, true, true, true, true, true, true, true, true, true, true, true, true, true, true, false, true, true, true, false, false, false, false] rfl rfl (take_ofW HT_.out HW_.out (by kernel_rfl)) (fun _ _ _ h => h) (Or.inl ⟨by rfl, ?_⟩) hHeld ?_ ?_
                 rotate_left
                 ·rintro w' ⟨s0, s1, s2, s3, s4, s5, s6, s7, s8, s9, s10, s11, s12, s13, s14, s15, s16, s17, s18, s19⟩
                  go_simp
                  with_reducible rfl
                 rotate_left
                 ·simp only [Act.put, List.setIfInBounds_toArray, List.set_cons_zero, List.set_cons_succ, i64_w, i32_w]
                  rfl
                 refine take_ (i := 48) (N := some 150) (v := ?_) (a' := ?_) #[true, true, true, true, true, true, true, true, true, true, true, true, true, true, true, true, true, true, true, true, true, true, true, true, true, true, true, true, true, true, true, true, true, true, true, true, true, true, true, true, true, true, true, true, false, true, true, true, true, false, false, false] rfl rfl (take_ofW HT_.out HW_.out (by kernel_rfl)) (fun _ _ _ h => h) (Or.inl ⟨by rfl, ?_⟩) hHeld ?_ ?_
                 rotate_left
                 ·rintro w' ⟨s0, s1, s2, s3, s4, s5, s6, s7, s8, s9, s10, s11, s12, s13, s14, s15, s16, s17, s18, s19⟩
                  go_simp
                  with_reducible rfl
                 rotate_left
                 ·simp only [Act.put, List.setIfInBounds_toArray, List.set_cons_zero, List.set_cons_succ, i64_w, i32_w]
                  rfl
                 refine one_ (i := 44) (N := some 146) #[true, true, true, true, true, true, true, true, true, true, true, true, true, true, true, true, true, true, true, true, true, true, true, true, true, true, true, true, true, true, true, true, true, true, true, true, true, true, true, true, true, true, true, true, true, true, true, true, true, false, false, false] rfl rfl (one_of HT_.out (by kernel_rfl)) (by decide) (fun K hK => ?_)
                 refine goes_ Try.func20 (by kernel_rfl) rfl #[.agg #[.int .i64 ((rd_T25 y135 x10_1).f0), .int .i64 ((rd_T25 y135 x10_1).f1)]] (by rfl) rfl rfl (by (try simp only [List.map_toArray, List.map_cons, List.map_nil]); first | done | rfl | (simp only [List.length_drop, List.length_take]; rfl)) ?_
                 with_reducible refine (vec_Right.calls ((rd_T25 y135 x10_1).f0) ((rd_T25 y135 x10_1).f1) t169 _ A37.out).mono ?_
                 rintro e w71 ⟨rfl, hb⟩
                 have HS8_ := (hb.cell (World.block_lt_of_cell? _ _ (hHeld.2.2.2.2.2.2.2.2.1))).trans (hHeld.2.2.2.2.2.2.2.2.1)
                 have HS9_ := (hb.cell (World.block_lt_of_cell? _ _ (hHeld.2.2.2.2.2.2.2.2.2.1))).trans (hHeld.2.2.2.2.2.2.2.2.2.1)
                 have HS10_ := (hb.cell (World.block_lt_of_cell? _ _ (hHeld.2.2.2.2.2.2.2.2.2.2.1))).trans (hHeld.2.2.2.2.2.2.2.2.2.2.1)
                 have HS11_ := (hb.cell (World.block_lt_of_cell? _ _ (hHeld.2.2.2.2.2.2.2.2.2.2.2.1))).trans (hHeld.2.2.2.2.2.2.2.2.2.2.2.1)
                 have HS12_ := (hb.cell (World.block_lt_of_cell? _ _ (hHeld.2.2.2.2.2.2.2.2.2.2.2.2.1))).trans (hHeld.2.2.2.2.2.2.2.2.2.2.2.2.1)
                 have HS13_ := (hb.cell (World.block_lt_of_cell? _ _ (hHeld.2.2.2.2.2.2.2.2.2.2.2.2.2.1))).trans (hHeld.2.2.2.2.2.2.2.2.2.2.2.2.2.1)
                 have HS14_ := (hb.cell (World.block_lt_of_cell? _ _ (hHeld.2.2.2.2.2.2.2.2.2.2.2.2.2.2.1))).trans (hHeld.2.2.2.2.2.2.2.2.2.2.2.2.2.2.1)
                 have HS15_ := (hb.cell (World.block_lt_of_cell? _ _ (hHeld.2.2.2.2.2.2.2.2.2.2.2.2.2.2.2.1))).trans (hHeld.2.2.2.2.2.2.2.2.2.2.2.2.2.2.2.1)
                 have HS16_ := (hb.cell (World.block_lt_of_cell? _ _ (hHeld.2.2.2.2.2.2.2.2.2.2.2.2.2.2.2.2.1))).trans (hHeld.2.2.2.2.2.2.2.2.2.2.2.2.2.2.2.2.1)
                 have HS17_ := (hb.cell (World.block_lt_of_cell? _ _ (hHeld.2.2.2.2.2.2.2.2.2.2.2.2.2.2.2.2.2.1))).trans (hHeld.2.2.2.2.2.2.2.2.2.2.2.2.2.2.2.2.2.1)
                 have HS18_ := (hb.cell (World.block_lt_of_cell? _ _ (hHeld.2.2.2.2.2.2.2.2.2.2.2.2.2.2.2.2.2.2.1))).trans (hHeld.2.2.2.2.2.2.2.2.2.2.2.2.2.2.2.2.2.2.1)
                 have HS19_ := (hb.cell (World.block_lt_of_cell? _ _ (hHeld.2.2.2.2.2.2.2.2.2.2.2.2.2.2.2.2.2.2.2))).trans (hHeld.2.2.2.2.2.2.2.2.2.2.2.2.2.2.2.2.2.2.2)
                 refine ⟨_, rfl, ?_⟩
                 have n0_ := Aside0.mk (Kd.R_below (by (with_reducible repeat (first | apply Kd.R_alloc | apply Kd.R_drewN | apply Kd.R_drew)); exact HO_9.out) hb)
                 have n1_ := Aside0.mk (blk_below (g := gb143) (o := .cells #[.int .i64 t140, .int .i64 t141] 25 (0, 0)) (by (with_reducible repeat (first | refine blk_drewN ?_ _ | refine blk_drew ?_ | refine blk_alloc ?_ _)); exact BK143.out) hb)
                 have n2_ := Aside0.mk (blk_below (g := gb149) (o := .cells #[.int .i64 t146, .int .i64 t147] 25 (0, 0)) (by (with_reducible repeat (first | refine blk_drewN ?_ _ | refine blk_drew ?_ | refine blk_alloc ?_ _)); exact BK149.out) hb)
                 have n3_ := Aside0.mk (blk_below (g := gb155) (o := .cells #[.int .i64 t152, .int .i64 t153] 25 (0, 0)) (by (with_reducible repeat (first | refine blk_drewN ?_ _ | refine blk_drew ?_ | refine blk_alloc ?_ _)); exact BK155.out) hb)
                 have n4_ := Aside0.mk (blk_below (g := gb161) (o := .cells #[.int .i64 t158, .int .i64 t159] 25 (0, 0)) (by (with_reducible repeat (first | refine blk_drewN ?_ _ | refine blk_drew ?_ | refine blk_alloc ?_ _)); exact BK161.out) hb)
                 have n5_ := Aside0.mk (below_step (by repeat (first | (with_reducible first | exact HB.out | apply below_alloc | apply pw_below_drewN | apply below_drew1 | refine below_set ?_ GE143.out | refine below_set ?_ GE149.out | refine below_set ?_ GE155.out | refine below_set ?_ GE161.out) | exact HB.out)) hb)
                 clear HO_9
                 clear BK143
                 clear BK149
                 clear BK155
                 clear BK161
                 clear HB
                 have HO_9 := n0_
                 have BK143 := n1_
                 have BK149 := n2_
                 have BK155 := n3_
                 have BK161 := n4_
                 have HB := n5_
                 clear n0_ n1_ n2_ n3_ n4_ n5_
                 (try clear hb)
                 (try clear hb2)
                 (try clear hk)
                 (try clear hi)
                 refine hK.out _ _ ⟨(blk_cell BK143.out 0).trans rfl, (blk_cell BK143.out 1).trans rfl, (blk_cell BK149.out 0).trans rfl, (blk_cell BK149.out 1).trans rfl, (blk_cell BK155.out 0).trans rfl, (blk_cell BK155.out 1).trans rfl, (blk_cell BK161.out 0).trans rfl, (blk_cell BK161.out 1).trans rfl, HS8_, HS9_, HS10_, HS11_, HS12_, HS13_, HS14_, HS15_, HS16_, HS17_, HS18_, HS19_⟩ (fun hHeld => ?_)
                 clear hK K
                 refine norm_ (a' := ?_) ?_ ?_
                 rotate_left
                 ·show Act.put _ (some 146) _ = _
                  simp only [Act.put, List.setIfInBounds_toArray, List.set_cons_zero, List.set_cons_succ, i64_w, i32_w]
                  rfl
                 refine one_ (i := 49) (N := some 151) #[true, true, true, true, true, true, true, true, true, true, true, true, true, true, true, true, true, true, true, true, true, true, true, true, true, true, true, true, true, true, true, true, true, true, true, true, true, true, true, true, true, true, true, true, true, true, true, true, true, true, false, false] rfl rfl (one_of HT_.out (by kernel_rfl)) (by decide) (fun K hK => ?_)
                 refine goes_ Try.func21 (by kernel_rfl) rfl #[.agg #[.int .i64 ((rd_T25 y135 x10_1).f0), .int .i64 ((rd_T25 y135 x10_1).f1)]] (by rfl) rfl rfl (by (try simp only [List.map_toArray, List.map_cons, List.map_nil]); first | done | rfl | (simp only [List.length_drop, List.length_take]; rfl)) ?_
                 with_reducible refine (joineryref1_Right.calls ((rd_T25 y135 x10_1).f0) ((rd_T25 y135 x10_1).f1) t171 _ A38.out).mono ?_
                 rintro e w72 ⟨rfl, hb⟩
                 have HS8_ := (hb.cell (World.block_lt_of_cell? _ _ (hHeld.2.2.2.2.2.2.2.2.1))).trans (hHeld.2.2.2.2.2.2.2.2.1)
                 have HS9_ := (hb.cell (World.block_lt_of_cell? _ _ (hHeld.2.2.2.2.2.2.2.2.2.1))).trans (hHeld.2.2.2.2.2.2.2.2.2.1)
                 have HS10_ := (hb.cell (World.block_lt_of_cell? _ _ (hHeld.2.2.2.2.2.2.2.2.2.2.1))).trans (hHeld.2.2.2.2.2.2.2.2.2.2.1)
                 have HS11_ := (hb.cell (World.block_lt_of_cell? _ _ (hHeld.2.2.2.2.2.2.2.2.2.2.2.1))).trans (hHeld.2.2.2.2.2.2.2.2.2.2.2.1)
                 have HS12_ := (hb.cell (World.block_lt_of_cell? _ _ (hHeld.2.2.2.2.2.2.2.2.2.2.2.2.1))).trans (hHeld.2.2.2.2.2.2.2.2.2.2.2.2.1)
                 have HS13_ := (hb.cell (World.block_lt_of_cell? _ _ (hHeld.2.2.2.2.2.2.2.2.2.2.2.2.2.1))).trans (hHeld.2.2.2.2.2.2.2.2.2.2.2.2.2.1)
                 have HS14_ := (hb.cell (World.block_lt_of_cell? _ _ (hHeld.2.2.2.2.2.2.2.2.2.2.2.2.2.2.1))).trans (hHeld.2.2.2.2.2.2.2.2.2.2.2.2.2.2.1)
                 have HS15_ := (hb.cell (World.block_lt_of_cell? _ _ (hHeld.2.2.2.2.2.2.2.2.2.2.2.2.2.2.2.1))).trans (hHeld.2.2.2.2.2.2.2.2.2.2.2.2.2.2.2.1)
                 have HS16_ := (hb.cell (World.block_lt_of_cell? _ _ (hHeld.2.2.2.2.2.2.2.2.2.2.2.2.2.2.2.2.1))).trans (hHeld.2.2.2.2.2.2.2.2.2.2.2.2.2.2.2.2.1)
                 have HS17_ := (hb.cell (World.block_lt_of_cell? _ _ (hHeld.2.2.2.2.2.2.2.2.2.2.2.2.2.2.2.2.2.1))).trans (hHeld.2.2.2.2.2.2.2.2.2.2.2.2.2.2.2.2.2.1)
                 have HS18_ := (hb.cell (World.block_lt_of_cell? _ _ (hHeld.2.2.2.2.2.2.2.2.2.2.2.2.2.2.2.2.2.2.1))).trans (hHeld.2.2.2.2.2.2.2.2.2.2.2.2.2.2.2.2.2.2.1)
                 have HS19_ := (hb.cell (World.block_lt_of_cell? _ _ (hHeld.2.2.2.2.2.2.2.2.2.2.2.2.2.2.2.2.2.2.2))).trans (hHeld.2.2.2.2.2.2.2.2.2.2.2.2.2.2.2.2.2.2.2)
                 refine ⟨_, rfl, ?_⟩
                 have n0_ := Aside0.mk (Kd.R_below (by (with_reducible repeat (first | apply Kd.R_alloc | apply Kd.R_drewN | apply Kd.R_drew)); exact HO_9.out) hb)
                 have n1_ := Aside0.mk (blk_below (g := gb143) (o := .cells #[.int .i64 t140, .int .i64 t141] 25 (0, 0)) (by (with_reducible repeat (first | refine blk_drewN ?_ _ | refine blk_drew ?_ | refine blk_alloc ?_ _)); exact BK143.out) hb)
                 have n2_ := Aside0.mk (blk_below (g := gb149) (o := .cells #[.int .i64 t146, .int .i64 t147] 25 (0, 0)) (by (with_reducible repeat (first | refine blk_drewN ?_ _ | refine blk_drew ?_ | refine blk_alloc ?_ _)); exact BK149.out) hb)
                 have n3_ := Aside0.mk (blk_below (g := gb155) (o := .cells #[.int .i64 t152, .int .i64 t153] 25 (0, 0)) (by (with_reducible repeat (first | refine blk_drewN ?_ _ | refine blk_drew ?_ | refine blk_alloc ?_ _)); exact BK155.out) hb)
                 have n4_ := Aside0.mk (blk_below (g := gb161) (o := .cells #[.int .i64 t158, .int .i64 t159] 25 (0, 0)) (by (with_reducible repeat (first | refine blk_drewN ?_ _ | refine blk_drew ?_ | refine blk_alloc ?_ _)); exact BK161.out) hb)
                 have n5_ := Aside0.mk (below_step (by repeat (first | (with_reducible first | exact HB.out | apply below_alloc | apply pw_below_drewN | apply below_drew1 | refine below_set ?_ GE143.out | refine below_set ?_ GE149.out | refine below_set ?_ GE155.out | refine below_set ?_ GE161.out) | exact HB.out)) hb)
                 clear HO_9
                 clear BK143
                 clear BK149
                 clear BK155
                 clear BK161
                 clear HB
                 have HO_9 := n0_
                 have BK143 := n1_
                 have BK149 := n2_
                 have BK155 := n3_
                 have BK161 := n4_
                 have HB := n5_
                 clear n0_ n1_ n2_ n3_ n4_ n5_
                 (try clear hb)
                 (try clear hb2)
                 (try clear hk)
                 (try clear hi)
                 refine hK.out _ _ ⟨(blk_cell BK143.out 0).trans rfl, (blk_cell BK143.out 1).trans rfl, (blk_cell BK149.out 0).trans rfl, (blk_cell BK149.out 1).trans rfl, (blk_cell BK155.out 0).trans rfl, (blk_cell BK155.out 1).trans rfl, (blk_cell BK161.out 0).trans rfl, (blk_cell BK161.out 1).trans rfl, HS8_, HS9_, HS10_, HS11_, HS12_, HS13_, HS14_, HS15_, HS16_, HS17_, HS18_, HS19_⟩ (fun hHeld => ?_)
                 clear hK K
                 refine norm_ (a' := ?_) ?_ ?_
                 rotate_left
                 ·show Act.put _ (some 151) _ = _
                  simp only [Act.put, List.setIfInBounds_toArray, List.set_cons_zero, List.set_cons_succ, i64_w, i32_w]
                  rfl
                 refine pure_ (i := 50) (N := some 152) (v := ?_) (a' := ?_) #[true, true, true, true, true, true, true, true, true, true, true, true, true, true, true, true, true, true, true, true, true, true, true, true, true, true, true, true, true, true, true, true, true, true, true, true, true, true, true, true, true, true, true, true, true, true, true, true, true, true, true, false] rfl rfl (any_of HT_.out (by kernel_rfl)) (fun _ _ _ h => h) (Or.inl ⟨by rfl, ?_⟩) ?_ ?_
                 rotate_left
                 ·intro w'
                  go_simp
                  with_reducible rfl
                 rotate_left
                 ·simp only [Act.put, List.setIfInBounds_toArray, List.set_cons_zero, List.set_cons_succ, i64_w, i32_w]
                  rfl
                 refine pure_ (i := 51) (N := some 153) (v := ?_) (a' := ?_) #[true, true, true, true, true, true, true, true, true, true, true, true, true, true, true, true, true, true, true, true, true, true, true, true, true, true, true, true, true, true, true, true, true, true, true, true, true, true, true, true, true, true, true, true, true, true, true, true, true, true, true, true] rfl rfl (any_of HT_.out (by kernel_rfl)) (fun _ _ _ h => h) (Or.inl ⟨by rfl, ?_⟩) ?_ ?_
                 rotate_left
                 ·intro w'
                  go_simp
                  with_reducible rfl
                 rotate_left
                 ·simp only [Act.put, List.setIfInBounds_toArray, List.set_cons_zero, List.set_cons_succ, i64_w, i32_w]
                  rfl
                 refine done_ (done_of HT_.out (by kernel_rfl)) ?_
                 try go_wp2
                 go_roundg k2
                 case measure => have := HK1.out; have := HK2.out; omega
                 case rel => exact ⟨(wrap64 (x11_2 + 1)), (by first | rfl | (simp; done) | (simp [*]; done)), H', ⟨by have := HK1.out; have := HK2.out; omega⟩, ⟨by (with_reducible repeat (first | apply Kd.R_alloc | apply Kd.R_drewN | apply Kd.R_drew)); exact Kd.R_mono HO_9.out (fun _ hk => trivial)⟩, ⟨by repeat (first | (with_reducible first | exact HB.out | apply below_alloc | apply pw_below_drewN | apply below_drew1 | refine below_set ?_ GE143.out | refine below_set ?_ GE149.out | refine below_set ?_ GE155.out | refine below_set ?_ GE161.out) | exact HB.out)⟩⟩
              ·rw [if_neg c33] at H
               have c33b0 : (t154 == t160) = false := beq_eq_false_iff_ne.mpr c33
               have c33b1 : (t154 != t160) = true := bne_iff_ne.mpr c33
               obtain rfl := Option.some.inj H
               exact absurd hT_.out (by simp)
            ·rw [if_neg c31] at H
             have c31b0 : (t142 == t148) = false := beq_eq_false_iff_ne.mpr c31
             have c31b1 : (t142 != t148) = true := bne_iff_ne.mpr c31
             obtain rfl := Option.some.inj H
             exact absurd hT_.out (by simp)
          ·rw [if_neg c25] at H
           exact absurd H (by simp)
         ·rw [if_neg c24] at H
          exact absurd H (by simp)
        ·rw [if_neg c23] at H
         exact absurd H (by simp)
       ·rw [if_neg c22] at H
        have c22b0 : decide (x11_2 < (y135.length : Int)) = false := decide_eq_false c22
        clear c22
        have H' := Aside0.mk H
        clear H
        go_wp2
        go_roundg k2
        case measure => have := HK1.out; have := HK2.out; omega
        case rel => exact ⟨(wrap64 (x10_1 + 1)), (by first | rfl | (simp; done) | (simp [*]; done)), H', ⟨by have := HK1.out; have := HK2.out; omega⟩, ⟨by (with_reducible repeat (first | apply Kd.R_alloc | apply Kd.R_drewN | apply Kd.R_drew)); exact HO_9.out⟩, ⟨by repeat (first | (with_reducible first | exact HB.out | apply below_alloc | apply pw_below_drewN | apply below_drew1) | exact HB.out)⟩⟩
    ·rw [if_neg c20] at H
     have c20b0 : decide (x10_1 < (y135.length : Int)) = false := decide_eq_false c20
     clear c20
     obtain rfl := Option.some.inj H
     obtain ⟨Ao73, co73, eo73⟩ := Kd.R_slice HO_9.out
     subst eo73
     go_wp2
     go_ret
     exact ⟨by first | rfl | (simp [errW_none, errW_some] <;> rfl) | (simp [*, errW_none, errW_some] <;> rfl), by repeat (first | (with_reducible first | exact HB.out | apply below_alloc | apply pw_below_drewN | apply below_drew1) | exact HB.out)⟩
 ·replace c6 := Bool.eq_false_iff.mpr c6
  subst c6
  have H1 : (some false) = some r := by rw [if_neg (show ¬ (false = true) by decide)] at H; exact H
  clear H
  have H := H1
  clear H1
  obtain rfl := Option.some.inj H
  exact absurd hT_.out (by simp)

/-- THE ONE PURE STATEMENT of joinerylaw1_VecAll: yours. -/
def joinerylaw1_VecAll.Pure : Prop := ∀ (a0 : Int) (a1 : Int) (a2 : Int) (a3 : Int), (Lit.int .i64 a0).wf = true → (Lit.int .i64 a1).wf = true → (Lit.int .i64 a2).wf = true → (Lit.int .i64 a3).wf = true → ∃ k, joinerylaw1_VecAll.f k a0 a1 a2 a3 = some true
theorem joinerylaw1_VecAll.walk (P : joinerylaw1_VecAll.Pure) (a0 : Int) (a1 : Int) (a2 : Int) (a3 : Int) (w : World) (w0 : (Lit.int .i64 a0).wf = true) (w1 : (Lit.int .i64 a1).wf = true) (w2 : (Lit.int .i64 a2).wf = true) (w3 : (Lit.int .i64 a3).wf = true) :
  Calls Try.prog 4 #[.int .i64 a0, .int .i64 a1, .int .i64 a2, .int .i64 a3] w fun e w' => e = .returned (.bool true) ∧ Below w.heap.size w w' := by
 obtain ⟨k, h⟩ := P a0 a1 a2 a3 w0 w1 w2 w3
 refine (joinerylaw1_VecAll.calls k a0 a1 a2 a3 true w ⟨rfl⟩ h).mono ?_
 rintro e w' ⟨rfl, hd⟩
 exact ⟨rfl, hd⟩

end Go.Proofs.Ytoijbokiechibaa.A
