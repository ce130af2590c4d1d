-- Printed by wip/tools/gprint.py.
import Derived.Test.YtciedbaeenhgkaaQx0
import Derived.Test.YtciedbaeenhgkaaQx2
import Derived.Test.YtciedbaeenhgkaaQx4
import Derived.Test.YtciedbaeenhgkaaQx5
import Derived.Test.YtciedbaeenhgkaaQx7
namespace Go.Proofs.Ytciedbaeenhgkaa.Q
open Go.RowKit Go.Proofs.Ytciedbaeenhgkaa Go.Proofs.Ytciedbaeenhgkaa.Base Go.Proofs.Ytciedbaeenhgkaa.BaseM Go.Proofs.Ytciedbaeenhgkaa.BaseR Go.Proofs.YtciedbaeenhgkaaW.PrintWords Go.Proofs.YtciedbaeenhgkaaW.PrintLast Go.Proofs.YtciedbaeenhgkaaW.PrintMore
attribute [local go_sem] fwd_normal fwd_ret fwd_exit fwd_panic max2_int min2_int max_two min_two max_three min_three max_four min_four   -- for this text's walks alone
set_option linter.unusedVariables false
set_option linter.unusedSimpArgs false

/-! ### joinerylaw5_FitWhy: function 3 -/
def joinerylaw5_FitWhy.l0 : Nat → List Int → List (S25) → Int → ByteArray → Int → Int → Int → List ByteArray → List ByteArray → Bool → ByteArray → Int → Int → List ByteArray → List ByteArray → Bool → Option (Bool)
 | 0, _, _, _, _, _, _, _, _, _, _, _, _, _, _, _, _ => none
 | k + 1, x5, x15, x16, x221000, x221001, x221002, x221003, x221004, x221005, x221006, x222000, x222001, x222002, x222003, x222004, x222005 => if x16 < (x15.length : Int) then (if 0 ≤ x16 then ((joinerylaw5_beside.f k x5).bind fun t230 => ((fit_Why.f k x221000 x221001 x221002 x221003 x221004 x221005 x221006 x222000 x222001 x222002 x222003 x222004 x222005 ((rd_T25 x15 x16).f0) ((rd_T25 x15 x16).f1) t230).bind fun t233 => ((joinerylaw5_beside.f k x5).bind fun t235 => ((joineryref5_Why.f k x221000 x221001 x221002 x221003 x221004 x221005 x221006 x222000 x222001 x222002 x222003 x222004 x222005 ((rd_T25 x15 x16).f0) ((rd_T25 x15 x16).f1) t235).bind fun t238 => (if t233 = t238 then ((fit_Why.f k x221000 x221001 x221002 x221003 x221004 x221005 x221006 x222000 x222001 x222002 x222003 x222004 x222005 ((rd_T25 x15 x16).f0) ((rd_T25 x15 x16).f1) ([] : List (S41))).bind fun t240 => ((joineryref5_Why.f k x221000 x221001 x221002 x221003 x221004 x221005 x221006 x222000 x222001 x222002 x222003 x222004 x222005 ((rd_T25 x15 x16).f0) ((rd_T25 x15 x16).f1) ([] : List (S41))).bind fun t242 => (if t240 = t242 then (joinerylaw5_FitWhy.l0 k x5 x15 (wrap64 (x16 + 1)) x221000 x221001 x221002 x221003 x221004 x221005 x221006 x222000 x222001 x222002 x222003 x222004 x222005) else (some false)))) else (some false)))))) else (none)) else (some true)
def joinerylaw5_FitWhy.f (k : Nat) (a0 : Int) (a1 : Int) (a2 : Int) (a3 : Int) (a4 : Int) (l5 : List Int) : Option (Bool) := (joinerylaw5_known.f k).bind fun t198 => (if t198 = true then ((joinerylaw3_Pod.f k 0 a0 4).bind fun bt199 => ((joinerylaw3_Node.f k a1 a2).bind fun bt210 => ((joinerylaw5_within.f a3 12).bind fun t222 => ((joinerylaw5_within.f a4 12).bind fun t223 => ((joinerylaw1_Edge.f a3).bind fun t224 => ((joinerylaw1_Edge.f a4).bind fun t225 => (joinerylaw5_FitWhy.l0 k l5 (([(⟨t222, t223⟩ : S25), (⟨0, 0⟩ : S25), (⟨mx t224 0, mx t225 0⟩ : S25)] : List (S25))) 0 bt199.1 bt199.2.1 bt199.2.2.1 bt199.2.2.2.1 bt199.2.2.2.2.1 bt199.2.2.2.2.2.1 bt199.2.2.2.2.2.2 bt210.1 bt210.2.1 bt210.2.2.1 bt210.2.2.2.1 bt210.2.2.2.2.1 bt210.2.2.2.2.2))))))) else (some false))
def joinerylaw5_FitWhy.T8 : Bool × List (List Nat × List Nat) := (true, [([], []), ([], []), ([], []), ([], []), ([2, 3], [2, 3]), ([4], [4]), ([], []), ([6], [6]), ([0, 1, 5, 7, 7], [0, 1, 5, 7]), ([], []), ([], []), ([], []), ([], []), ([11, 12], [11, 12]), ([13], [13]), ([], []), ([15, 8], [15]), ([9, 10, 14, 16, 16], [9, 10, 14, 16]), ([8, 17], [8, 17]), ([18, 17], [18]), ([19], [19]), ([19], [19]), ([19], [19]), ([19], [19]), ([22, 23, 19], [19, 22, 23]), ([24, 19], [19, 24]), ([20, 21, 25, 19, 19], [19, 20, 21, 25]), ([19], [19]), ([19], [19]), ([19], [19]), ([19], [19]), ([29, 30, 19], [19, 29, 30]), ([31, 19], [19, 31]), ([27, 28, 32, 26, 19], [19, 27, 28, 32]), ([26, 33, 19], [19, 26, 33]), ([19, 34], [19, 34])])
def joinerylaw5_FitWhy.B8 : List Nat := [0, 0, 0, 0, 12, 28, 0, 64, 255, 0, 0, 0, 0, 6144, 14336, 0, 33279, 131071, 262143, 524287, 1048575, 1048575, 1048575, 1048575, 13631487, 30408703, 67108863, 1048575, 1048575, 1048575, 1048575, 1611661311, 3759144959, 8589934591, 17179869183, 34359738367]
theorem joinerylaw5_FitWhy.tab8 : rtab .any (opsOf Try.f3 8) = joinerylaw5_FitWhy.T8 := by kernel_rfl
theorem joinerylaw5_FitWhy.bits8 : waitsOk joinerylaw5_FitWhy.T8.2 joinerylaw5_FitWhy.B8 = true := by kernel_rfl
set_option maxHeartbeats 8000000 in
set_option maxRecDepth 100000 in
theorem joinerylaw5_FitWhy.calls (k : Nat) (a0 : Int) (a1 : Int) (a2 : Int) (a3 : Int) (a4 : Int) (A5 : Option Addr) (c5 : Nat) (l5 : List Int) (r : Bool) (w : World) (hr5 : Kd.C (Kd.int .i64) w A5 l5.length l5) (hc5 : l5.length ≤ c5) (hT_ : Aside0 (r = true)) (h : joinerylaw5_FitWhy.f k a0 a1 a2 a3 a4 l5 = some r) :
  Calls Try.prog 3 #[.int .i64 a0, .int .i64 a1, .int .i64 a2, .int .i64 a3, .int .i64 a4, .slice A5 l5.length c5] w fun e w' => e = .returned (.bool r) ∧ Below w.heap.size w w' := by
 have hu28 := Try.underlying28
 have hu31 := Try.underlying31
 have hu25 := Try.underlying25
 have HR5 := Aside0.mk hr5
 have HC5 := Aside0.mk hc5
 clear hr5 hc5
 have HB := Aside0.mk (Below.refl w.heap.size w)
 have H : ((joinerylaw5_known.f k).bind fun t198 => (if t198 = true then ((joinerylaw3_Pod.f k 0 a0 4).bind fun bt199 => ((joinerylaw3_Node.f k a1 a2).bind fun bt210 => ((joinerylaw5_within.f a3 12).bind fun t222 => ((joinerylaw5_within.f a4 12).bind fun t223 => ((joinerylaw1_Edge.f a3).bind fun t224 => ((joinerylaw1_Edge.f a4).bind fun t225 => (joinerylaw5_FitWhy.l0 k l5 (([(⟨t222, t223⟩ : S25), (⟨0, 0⟩ : S25), (⟨mx t224 0, mx t225 0⟩ : S25)] : List (S25))) 0 bt199.1 bt199.2.1 bt199.2.2.1 bt199.2.2.2.1 bt199.2.2.2.2.1 bt199.2.2.2.2.2.1 bt199.2.2.2.2.2.2 bt210.1 bt210.2.1 bt210.2.2.1 bt210.2.2.2.1 bt210.2.2.2.2.1 bt210.2.2.2.2.2))))))) else (some false))) = some r := h
 clear h
 replace H := Option.bind_eq_some_iff.mp H
 obtain ⟨t198, A70, H⟩ := H
 replace H : (if t198 = true then ((joinerylaw3_Pod.f k 0 a0 4).bind fun bt199 => ((joinerylaw3_Node.f k a1 a2).bind fun bt210 => ((joinerylaw5_within.f a3 12).bind fun t222 => ((joinerylaw5_within.f a4 12).bind fun t223 => ((joinerylaw1_Edge.f a3).bind fun t224 => ((joinerylaw1_Edge.f a4).bind fun t225 => (joinerylaw5_FitWhy.l0 k l5 (([(⟨t222, t223⟩ : S25), (⟨0, 0⟩ : S25), (⟨mx t224 0, mx t225 0⟩ : S25)] : List (S25))) 0 bt199.1 bt199.2.1 bt199.2.2.1 bt199.2.2.2.1 bt199.2.2.2.2.1 bt199.2.2.2.2.2.1 bt199.2.2.2.2.2.2 bt210.1 bt210.2.1 bt210.2.2.1 bt210.2.2.2.1 bt210.2.2.2.2.1 bt210.2.2.2.2.2))))))) else (some false)) = some r := H
 have A7 := Aside0.mk A70
 clear A70
 by_cases c8 : t198 = true
 ·subst c8
  have H1 : ((joinerylaw3_Pod.f k 0 a0 4).bind fun bt199 => ((joinerylaw3_Node.f k a1 a2).bind fun bt210 => ((joinerylaw5_within.f a3 12).bind fun t222 => ((joinerylaw5_within.f a4 12).bind fun t223 => ((joinerylaw1_Edge.f a3).bind fun t224 => ((joinerylaw1_Edge.f a4).bind fun t225 => (joinerylaw5_FitWhy.l0 k l5 (([(⟨t222, t223⟩ : S25), (⟨0, 0⟩ : S25), (⟨mx t224 0, mx t225 0⟩ : S25)] : List (S25))) 0 bt199.1 bt199.2.1 bt199.2.2.1 bt199.2.2.2.1 bt199.2.2.2.2.1 bt199.2.2.2.2.2.1 bt199.2.2.2.2.2.2 bt210.1 bt210.2.1 bt210.2.2.1 bt210.2.2.2.1 bt210.2.2.2.2.1 bt210.2.2.2.2.2))))))) = some r := by rw [if_pos rfl] at H; exact H
  clear H
  have H := H1
  clear H1
  replace H := Option.bind_eq_some_iff.mp H
  obtain ⟨⟨t199, t200, t201, t202, t203, t206, t209⟩, A90, H⟩ := H
  replace H : ((joinerylaw3_Node.f k a1 a2).bind fun bt210 => ((joinerylaw5_within.f a3 12).bind fun t222 => ((joinerylaw5_within.f a4 12).bind fun t223 => ((joinerylaw1_Edge.f a3).bind fun t224 => ((joinerylaw1_Edge.f a4).bind fun t225 => (joinerylaw5_FitWhy.l0 k l5 (([(⟨t222, t223⟩ : S25), (⟨0, 0⟩ : S25), (⟨mx t224 0, mx t225 0⟩ : S25)] : List (S25))) 0 t199 t200 t201 t202 t203 t206 t209 bt210.1 bt210.2.1 bt210.2.2.1 bt210.2.2.2.1 bt210.2.2.2.2.1 bt210.2.2.2.2.2)))))) = some r := H
  have A9 := Aside0.mk A90
  clear A90
  replace H := Option.bind_eq_some_iff.mp H
  obtain ⟨⟨t210, t211, t212, t213, t216, t219⟩, A100, H⟩ := H
  replace H : ((joinerylaw5_within.f a3 12).bind fun t222 => ((joinerylaw5_within.f a4 12).bind fun t223 => ((joinerylaw1_Edge.f a3).bind fun t224 => ((joinerylaw1_Edge.f a4).bind fun t225 => (joinerylaw5_FitWhy.l0 k l5 (([(⟨t222, t223⟩ : S25), (⟨0, 0⟩ : S25), (⟨mx t224 0, mx t225 0⟩ : S25)] : List (S25))) 0 t199 t200 t201 t202 t203 t206 t209 t210 t211 t212 t213 t216 t219))))) = some r := H
  have A10 := Aside0.mk A100
  clear A100
  replace H := Option.bind_eq_some_iff.mp H
  obtain ⟨t222, A110, H⟩ := H
  replace H : ((joinerylaw5_within.f a4 12).bind fun t223 => ((joinerylaw1_Edge.f a3).bind fun t224 => ((joinerylaw1_Edge.f a4).bind fun t225 => (joinerylaw5_FitWhy.l0 k l5 (([(⟨t222, t223⟩ : S25), (⟨0, 0⟩ : S25), (⟨mx t224 0, mx t225 0⟩ : S25)] : List (S25))) 0 t199 t200 t201 t202 t203 t206 t209 t210 t211 t212 t213 t216 t219)))) = some r := H
  have A11 := Aside0.mk A110
  clear A110
  replace H := Option.bind_eq_some_iff.mp H
  obtain ⟨t223, A120, H⟩ := H
  replace H : ((joinerylaw1_Edge.f a3).bind fun t224 => ((joinerylaw1_Edge.f a4).bind fun t225 => (joinerylaw5_FitWhy.l0 k l5 (([(⟨t222, t223⟩ : S25), (⟨0, 0⟩ : S25), (⟨mx t224 0, mx t225 0⟩ : S25)] : List (S25))) 0 t199 t200 t201 t202 t203 t206 t209 t210 t211 t212 t213 t216 t219))) = some r := H
  have A12 := Aside0.mk A120
  clear A120
  replace H := Option.bind_eq_some_iff.mp H
  obtain ⟨t224, A130, H⟩ := H
  replace H : ((joinerylaw1_Edge.f a4).bind fun t225 => (joinerylaw5_FitWhy.l0 k l5 (([(⟨t222, t223⟩ : S25), (⟨0, 0⟩ : S25), (⟨mx t224 0, mx t225 0⟩ : S25)] : List (S25))) 0 t199 t200 t201 t202 t203 t206 t209 t210 t211 t212 t213 t216 t219)) = some r := H
  have A13 := Aside0.mk A130
  clear A130
  obtain ⟨ji14, hji14⟩ : ∃ j_ : Int, (mx t224 0) = j_ := ⟨_, rfl⟩
  replace H : ((joinerylaw1_Edge.f a4).bind fun t225 => (joinerylaw5_FitWhy.l0 k l5 (([(⟨t222, t223⟩ : S25), (⟨0, 0⟩ : S25), (⟨ji14, mx t225 0⟩ : S25)] : List (S25))) 0 t199 t200 t201 t202 t203 t206 t209 t210 t211 t212 t213 t216 t219)) = some r := by first | (rw [hji14] at H; exact H) | (simp only [hji14] at H ⊢; exact H)
  (try rw [hji14] at A7)
  (try rw [hji14] at A9)
  (try rw [hji14] at A10)
  (try rw [hji14] at A11)
  (try rw [hji14] at A12)
  (try rw [hji14] at A13)
  (try (have hji14l : 0 ≤ ji14 := by (rw [← hji14]; unfold mx; (repeat' split) <;> omega)))
  (try (have hji14m : 0 ≤ ji14 := by omega))
  have hji14_ : (if t224 < 0 then 0 else t224) = ji14 := hji14
  replace H := Option.bind_eq_some_iff.mp H
  obtain ⟨t225, A150, H⟩ := H
  replace H : (joinerylaw5_FitWhy.l0 k l5 (([(⟨t222, t223⟩ : S25), (⟨0, 0⟩ : S25), (⟨ji14, mx t225 0⟩ : S25)] : List (S25))) 0 t199 t200 t201 t202 t203 t206 t209 t210 t211 t212 t213 t216 t219) = some r := H
  have A15 := Aside0.mk A150
  clear A150
  obtain ⟨ji16, hji16⟩ : ∃ j_ : Int, (mx t225 0) = j_ := ⟨_, rfl⟩
  replace H : (joinerylaw5_FitWhy.l0 k l5 (([(⟨t222, t223⟩ : S25), (⟨0, 0⟩ : S25), (⟨ji14, ji16⟩ : S25)] : List (S25))) 0 t199 t200 t201 t202 t203 t206 t209 t210 t211 t212 t213 t216 t219) = some r := by first | (rw [hji16] at H; exact H) | (simp only [hji16] at H ⊢; exact H)
  (try rw [hji16] at A7)
  (try rw [hji16] at A9)
  (try rw [hji16] at A10)
  (try rw [hji16] at A11)
  (try rw [hji16] at A12)
  (try rw [hji16] at A13)
  (try rw [hji16] at A15)
  (try (have hji16l : 0 ≤ ji16 := by (rw [← hji16]; unfold mx; (repeat' split) <;> omega)))
  (try (have hji16m : 0 ≤ ji16 := by omega))
  have hji16_ : (if t225 < 0 then 0 else t225) = ji16 := hji16
  obtain ⟨y226, hy226⟩ : ∃ y_ : List (S25), y_ = (([(⟨t222, t223⟩ : S25), (⟨0, 0⟩ : S25), (⟨ji14, ji16⟩ : S25)] : List (S25))) := ⟨_, rfl⟩
  replace H : (joinerylaw5_FitWhy.l0 k l5 y226 0 t199 t200 t201 t202 t203 t206 t209 t210 t211 t212 t213 t216 t219) = some r := by first | (rw [hy226]; with_reducible exact H) | (have H2_ := (Option.bind_some _ _).symm.trans H; rw [hy226]; with_reducible exact H2_) | (have H2_ := (Option.bind_some _ _).symm.trans H; with_reducible exact H2_) | with_reducible exact H | (rw [hy226]; exact H) | exact H
  have Ny226 := Aside0.mk hy226
  clear hy226
  have H' := Aside0.mk H
  clear H
  go_enter Try.func3, Try.ntmps3
  go_wp2_with (first | ((with_reducible refine gate_callee (f := 11) rfl ?_); refine goesL_ (some 17) rfl rfl Try.func11 (by kernel_rfl) rfl #[] rfl (by (try simp only [List.map_toArray, List.map_cons, List.map_nil]); first | done | rfl) ?_; (with_reducible refine (joinerylaw5_known.calls k  true _ A7.out).mono ?_); rintro e w17 ⟨rfl, hb⟩; refine ⟨_, rfl, ?_⟩; have n0_ := Aside0.mk (below_step (by repeat (with_reducible first | exact HB.out | apply below_alloc | apply pw_below_drewN | apply below_drew1)) hb); clear HB; have HB := n0_; clear n0_; (try clear hb)) | ((with_reducible refine gate_callee (f := 12) rfl ?_); refine goesL_ (some 20) rfl rfl Try.func12 (by kernel_rfl) rfl #[.int .i64 0, .int .i64 a0, .int .i64 4] rfl (by (try simp only [List.map_toArray, List.map_cons, List.map_nil]); first | done | rfl) ?_; (with_reducible refine (joinerylaw3_Pod.calls k 0 a0 4 t199 t200 t201 t202 t203 t206 t209 _ A9.out).mono ?_); rintro e w18 ⟨v204, v207, rfl, ho0, ho1, hb⟩; refine ⟨_, rfl, ?_⟩; have n0_ := Aside0.mk (Kd.R_lower ho0 (below_size (by repeat (with_reducible first | exact HB.out | apply below_alloc | apply pw_below_drewN | apply below_drew1)))); have n1_ := Aside0.mk (Kd.R_lower ho1 (below_size (by repeat (with_reducible first | exact HB.out | apply below_alloc | apply pw_below_drewN | apply below_drew1)))); have n2_ := Aside0.mk (below_step (by repeat (with_reducible first | exact HB.out | apply below_alloc | apply pw_below_drewN | apply below_drew1)) hb); clear HB; have HO205 := n0_; have HO208 := n1_; have HB := n2_; clear n0_ n1_ n2_; (try clear hb); (try clear ho0); (try clear ho1)) | ((with_reducible refine gate_callee (f := 13) rfl ?_); refine goesL_ (some 23) rfl rfl Try.func13 (by kernel_rfl) rfl #[.int .i64 a1, .int .i64 a2] rfl (by (try simp only [List.map_toArray, List.map_cons, List.map_nil]); first | done | rfl) ?_; (with_reducible refine (joinerylaw3_Node.calls k a1 a2 t210 t211 t212 t213 t216 t219 _ A10.out).mono ?_); rintro e w19 ⟨v214, v217, rfl, ho0, ho1, hb⟩; refine ⟨_, rfl, ?_⟩; have n0_ := Aside0.mk (Kd.R_mono (Kd.R_told (Kd.R_told (Kd.R_old (by (with_reducible repeat (first | apply Kd.R_alloc | apply Kd.R_drewN | apply Kd.R_drew)); exact HO205.out) hb) (Kd.R_base ho0)) (Kd.R_base ho1)) (fun _ h_ => h_.1)); have n1_ := Aside0.mk (Kd.R_mono (Kd.R_told (Kd.R_told (Kd.R_old (by (with_reducible repeat (first | apply Kd.R_alloc | apply Kd.R_drewN | apply Kd.R_drew)); exact HO208.out) hb) (Kd.R_base ho0)) (Kd.R_base ho1)) (fun _ h_ => h_.1)); have n2_ := Aside0.mk (Kd.R_lower (Kd.R_new' (Kd.R_new' ho0 (Kd.R_lt (by (with_reducible repeat (first | apply Kd.R_alloc | apply Kd.R_drewN | apply Kd.R_drew)); exact HO205.out))) (Kd.R_lt (by (with_reducible repeat (first | apply Kd.R_alloc | apply Kd.R_drewN | apply Kd.R_drew)); exact HO208.out))) (below_size (by repeat (with_reducible first | exact HB.out | apply below_alloc | apply pw_below_drewN | apply below_drew1)))); have n3_ := Aside0.mk (Kd.R_lower (Kd.R_new' (Kd.R_new' ho1 (Kd.R_lt (by (with_reducible repeat (first | apply Kd.R_alloc | apply Kd.R_drewN | apply Kd.R_drew)); exact HO205.out))) (Kd.R_lt (by (with_reducible repeat (first | apply Kd.R_alloc | apply Kd.R_drewN | apply Kd.R_drew)); exact HO208.out))) (below_size (by repeat (with_reducible first | exact HB.out | apply below_alloc | apply pw_below_drewN | apply below_drew1)))); have n4_ := Aside0.mk (below_step (by repeat (with_reducible first | exact HB.out | apply below_alloc | apply pw_below_drewN | apply below_drew1)) hb); clear HO205; clear HO208; clear HB; have HO205 := n0_; have HO208 := n1_; have HO215 := n2_; have HO218 := n3_; have HB := n4_; clear n0_ n1_ n2_ n3_ n4_; (try clear hb); (try clear ho0); (try clear ho1)) | ((with_reducible refine gate_dst (N := 13) rfl ?_); refine box_event ?hg (N := 13) ?hd (cs := #[.string (⟨#[]⟩ : ByteArray), .int .i64 0, .int .i64 0, .int .i64 0, .slice none 0 0, .slice none 0 0, .bool false]) (t := 28) ?hr ?_; (case hd => rfl); (case hg => rfl); (case hr => first | (go_simp; done) | (go_simp; rfl)); intro gb220 hg w20 hbox hb; have n0_ := Aside0.mk (Kd.R_below (by (with_reducible repeat (first | apply Kd.R_alloc | apply Kd.R_drewN | apply Kd.R_drew)); exact HO205.out) hb); have n1_ := Aside0.mk (Kd.R_below (by (with_reducible repeat (first | apply Kd.R_alloc | apply Kd.R_drewN | apply Kd.R_drew)); exact HO208.out) hb); have n2_ := Aside0.mk (Kd.R_below (by (with_reducible repeat (first | apply Kd.R_alloc | apply Kd.R_drewN | apply Kd.R_drew)); exact HO215.out) hb); have n3_ := Aside0.mk (Kd.R_below (by (with_reducible repeat (first | apply Kd.R_alloc | apply Kd.R_drewN | apply Kd.R_drew)); exact HO218.out) hb); have n4_ := Aside0.mk (below_step (by repeat (with_reducible first | exact HB.out | apply below_alloc | apply pw_below_drewN | apply below_drew1)) hb); have n5_ := Aside0.mk (hbox); have n6_ := Aside0.mk ((by rw [hg]; exact (below_size (by repeat (with_reducible first | exact HB.out | apply below_alloc | apply pw_below_drewN | apply below_drew1))) : w.heap.size ≤ gb220)); have n7_ := Aside0.mk ((by rw [hg]; exact (below_size (by repeat (with_reducible first | exact HB.out | apply below_alloc | apply pw_below_drewN | apply below_drew1))) : w.heap.size ≤ gb220)); clear HO205; clear HO208; clear HO215; clear HO218; clear HB; have HO205 := n0_; have HO208 := n1_; have HO215 := n2_; have HO218 := n3_; have HB := n4_; have BK220 := n5_; have GW220 := n6_; have GE220 := n7_; clear n0_ n1_ n2_ n3_ n4_ n5_ n6_ n7_; clear hb hbox hg) | ((with_reducible refine gate_dst (N := 14) rfl ?_); refine box_event ?hg (N := 14) ?hd (cs := #[.string (⟨#[]⟩ : ByteArray), .int .i64 0, .int .i64 0, .slice none 0 0, .slice none 0 0, .bool false]) (t := 31) ?hr ?_; (case hd => rfl); (case hg => rfl); (case hr => first | (go_simp; done) | (go_simp; rfl)); intro gb221 hg w21 hbox hb; have n0_ := Aside0.mk (Kd.R_below (by (with_reducible repeat (first | apply Kd.R_alloc | apply Kd.R_drewN | apply Kd.R_drew)); exact HO205.out) hb); have n1_ := Aside0.mk (Kd.R_below (by (with_reducible repeat (first | apply Kd.R_alloc | apply Kd.R_drewN | apply Kd.R_drew)); exact HO208.out) hb); have n2_ := Aside0.mk (Kd.R_below (by (with_reducible repeat (first | apply Kd.R_alloc | apply Kd.R_drewN | apply Kd.R_drew)); exact HO215.out) hb); have n3_ := Aside0.mk (Kd.R_below (by (with_reducible repeat (first | apply Kd.R_alloc | apply Kd.R_drewN | apply Kd.R_drew)); exact HO218.out) hb); have n4_ := Aside0.mk (blk_below (g := gb220) (o := .cells #[.string (⟨#[]⟩ : ByteArray), .int .i64 0, .int .i64 0, .int .i64 0, .slice none 0 0, .slice none 0 0, .bool false] 28 (0, 0)) (by (with_reducible repeat (first | refine blk_drewN ?_ _ | refine blk_drew ?_ | refine blk_alloc ?_ _)); exact BK220.out) hb); have n5_ := Aside0.mk (below_step (by repeat (first | (with_reducible first | exact HB.out | apply below_alloc | apply pw_below_drewN | apply below_drew1 | refine below_set ?_ GE220.out) | exact HB.out)) hb); have n6_ := Aside0.mk (hbox); have n7_ := Aside0.mk ((by rw [hg]; exact (below_size (by repeat (first | (with_reducible first | exact HB.out | apply below_alloc | apply pw_below_drewN | apply below_drew1 | refine below_set ?_ GE220.out) | exact HB.out))) : w.heap.size ≤ gb221)); have n8_ := Aside0.mk ((by rw [hg]; exact (below_size (by repeat (first | (with_reducible first | exact HB.out | apply below_alloc | apply pw_below_drewN | apply below_drew1 | refine below_set ?_ GE220.out) | exact HB.out))) : w.heap.size ≤ gb221)); have n9_ := Aside0.mk ((by rw [hg]; exact Nat.ne_of_lt (blk_lt (g := gb220) (o := .cells #[.string (⟨#[]⟩ : ByteArray), .int .i64 0, .int .i64 0, .int .i64 0, .slice none 0 0, .slice none 0 0, .bool false] 28 (0, 0)) (by (with_reducible repeat (first | refine blk_drewN ?_ _ | refine blk_drew ?_ | refine blk_alloc ?_ _)); exact BK220.out)) : gb220 ≠ gb221)); have n10_ := Aside0.mk ((by rw [hg]; exact Nat.ne_of_gt (blk_lt (g := gb220) (o := .cells #[.string (⟨#[]⟩ : ByteArray), .int .i64 0, .int .i64 0, .int .i64 0, .slice none 0 0, .slice none 0 0, .bool false] 28 (0, 0)) (by (with_reducible repeat (first | refine blk_drewN ?_ _ | refine blk_drew ?_ | refine blk_alloc ?_ _)); exact BK220.out)) : gb221 ≠ gb220)); clear HO205; clear HO208; clear HO215; clear HO218; clear BK220; clear HB; have HO205 := n0_; have HO208 := n1_; have HO215 := n2_; have HO218 := n3_; have BK220 := n4_; have HB := n5_; have BK221 := n6_; have GW221 := n7_; have GE221 := n8_; have NB220_221 := n9_; have NB221_220 := n10_; clear n0_ n1_ n2_ n3_ n4_ n5_ n6_ n7_ n8_ n9_ n10_; clear hb hbox hg; have hnb22 := NB220_221.out; have hnc22 := NB221_220.out; have hcz23_0 : w21.cell? ⟨gb220, 0, none⟩ = some (.string (⟨#[]⟩ : ByteArray)) := (blk_cell BK220.out 0).trans rfl; have hcz23_1 : w21.cell? ⟨gb220, 1, none⟩ = some (.int .i64 0) := (blk_cell BK220.out 1).trans rfl; have hcz23_2 : w21.cell? ⟨gb220, 2, none⟩ = some (.int .i64 0) := (blk_cell BK220.out 2).trans rfl; have hcz23_3 : w21.cell? ⟨gb220, 3, none⟩ = some (.int .i64 0) := (blk_cell BK220.out 3).trans rfl; have hcz23_4 : w21.cell? ⟨gb220, 4, none⟩ = some (.slice none 0 0) := (blk_cell BK220.out 4).trans rfl; have hcz23_5 : w21.cell? ⟨gb220, 5, none⟩ = some (.slice none 0 0) := (blk_cell BK220.out 5).trans rfl; have hcz23_6 : w21.cell? ⟨gb220, 6, none⟩ = some (.bool false) := (blk_cell BK220.out 6).trans rfl; have hfz23_0 := blk_frozen BK220.out 0; have hfz23_1 := blk_frozen BK220.out 1; have hfz23_2 := blk_frozen BK220.out 2; have hfz23_3 := blk_frozen BK220.out 3; have hfz23_4 := blk_frozen BK220.out 4; have hfz23_5 := blk_frozen BK220.out 5; have hfz23_6 := blk_frozen BK220.out 6; obtain ⟨Ao24, co24, eo24⟩ := Kd.R_slice HO205.out; subst eo24; obtain ⟨Ao25, co25, eo25⟩ := Kd.R_slice HO208.out; subst eo25; have hcz26_0 : w21.cell? ⟨gb221, 0, none⟩ = some (.string (⟨#[]⟩ : ByteArray)) := (blk_cell BK221.out 0).trans rfl; have hcz26_1 : w21.cell? ⟨gb221, 1, none⟩ = some (.int .i64 0) := (blk_cell BK221.out 1).trans rfl; have hcz26_2 : w21.cell? ⟨gb221, 2, none⟩ = some (.int .i64 0) := (blk_cell BK221.out 2).trans rfl; have hcz26_3 : w21.cell? ⟨gb221, 3, none⟩ = some (.slice none 0 0) := (blk_cell BK221.out 3).trans rfl; have hcz26_4 : w21.cell? ⟨gb221, 4, none⟩ = some (.slice none 0 0) := (blk_cell BK221.out 4).trans rfl; have hcz26_5 : w21.cell? ⟨gb221, 5, none⟩ = some (.bool false) := (blk_cell BK221.out 5).trans rfl; have hfz26_0 := blk_frozen BK221.out 0; have hfz26_1 := blk_frozen BK221.out 1; have hfz26_2 := blk_frozen BK221.out 2; have hfz26_3 := blk_frozen BK221.out 3; have hfz26_4 := blk_frozen BK221.out 4; have hfz26_5 := blk_frozen BK221.out 5; obtain ⟨Ao27, co27, eo27⟩ := Kd.R_slice HO215.out; subst eo27; obtain ⟨Ao28, co28, eo28⟩ := Kd.R_slice HO218.out; subst eo28) | ((with_reducible refine gate_callee (f := 14) rfl ?_); refine goesL_ (some 25) rfl rfl Try.func14 (by kernel_rfl) rfl #[.int .i64 a3, .int .i64 12] rfl (by (try simp only [List.map_toArray, List.map_cons, List.map_nil]); first | done | rfl) ?_; (with_reducible refine (joinerylaw5_within.calls a3 12 t222 _ A11.out).mono ?_); rintro e w' ⟨rfl, ⟨nd, rfl⟩⟩; refine ⟨_, rfl, ?_⟩) | ((with_reducible refine gate_callee (f := 14) rfl ?_); refine goesL_ (some 27) rfl rfl Try.func14 (by kernel_rfl) rfl #[.int .i64 a4, .int .i64 12] rfl (by (try simp only [List.map_toArray, List.map_cons, List.map_nil]); first | done | rfl) ?_; (with_reducible refine (joinerylaw5_within.calls a4 12 t223 _ A12.out).mono ?_); rintro e w' ⟨rfl, ⟨nd, rfl⟩⟩; refine ⟨_, rfl, ?_⟩) | ((with_reducible refine gate_callee (f := 15) rfl ?_); refine goesL_ (some 31) rfl rfl Try.func15 (by kernel_rfl) rfl #[.int .i64 a3] rfl (by (try simp only [List.map_toArray, List.map_cons, List.map_nil]); first | done | rfl) ?_; (with_reducible refine (joinerylaw1_Edge.calls a3 t224 _ A13.out).mono ?_); rintro e w29 ⟨rfl, hb⟩; refine ⟨_, rfl, ?_⟩; have n0_ := Aside0.mk (Kd.R_below (by (with_reducible repeat (first | apply Kd.R_alloc | apply Kd.R_drewN | apply Kd.R_drew)); exact (Kd.R_mono (Kd.R_mono (Kd.R_far (p := ⟨gb221, 5, none⟩) (Kd.R_far (p := ⟨gb221, 4, none⟩) (Kd.R_far (p := ⟨gb221, 3, none⟩) (Kd.R_far (p := ⟨gb221, 2, none⟩) (Kd.R_far (p := ⟨gb221, 1, none⟩) (Kd.R_far (p := ⟨gb221, 0, none⟩) (Kd.R_far (p := ⟨gb220, 6, none⟩) (Kd.R_far (p := ⟨gb220, 5, none⟩) (Kd.R_far (p := ⟨gb220, 4, none⟩) (Kd.R_far (p := ⟨gb220, 3, none⟩) (Kd.R_far (p := ⟨gb220, 2, none⟩) (Kd.R_far (p := ⟨gb220, 1, none⟩) (Kd.R_far (p := ⟨gb220, 0, none⟩) (Kd.R_types (Kd.R_types HO205.out BK220.out (by decide)) BK221.out (by decide)) (fun _ hk => hk.1.2) (.string t199)) (fun _ hk => hk.1.2) (.int .i64 t200)) (fun _ hk => hk.1.2) (.int .i64 t201)) (fun _ hk => hk.1.2) (.int .i64 t202)) (fun _ hk => hk.1.2) (.slice Ao24 t203.length co24)) (fun _ hk => hk.1.2) (.slice Ao25 t206.length co25)) (fun _ hk => hk.1.2) (.bool t209)) (fun _ hk => hk.2) (.string t210)) (fun _ hk => hk.2) (.int .i64 t211)) (fun _ hk => hk.2) (.int .i64 t212)) (fun _ hk => hk.2) (.slice Ao27 t213.length co27)) (fun _ hk => hk.2) (.slice Ao28 t216.length co28)) (fun _ hk => hk.2) (.bool t219)) (fun _ h_ => h_.1)) (fun _ h_ => h_.1))) hb); have n1_ := Aside0.mk (Kd.R_below (by (with_reducible repeat (first | apply Kd.R_alloc | apply Kd.R_drewN | apply Kd.R_drew)); exact (Kd.R_mono (Kd.R_mono (Kd.R_far (p := ⟨gb221, 5, none⟩) (Kd.R_far (p := ⟨gb221, 4, none⟩) (Kd.R_far (p := ⟨gb221, 3, none⟩) (Kd.R_far (p := ⟨gb221, 2, none⟩) (Kd.R_far (p := ⟨gb221, 1, none⟩) (Kd.R_far (p := ⟨gb221, 0, none⟩) (Kd.R_far (p := ⟨gb220, 6, none⟩) (Kd.R_far (p := ⟨gb220, 5, none⟩) (Kd.R_far (p := ⟨gb220, 4, none⟩) (Kd.R_far (p := ⟨gb220, 3, none⟩) (Kd.R_far (p := ⟨gb220, 2, none⟩) (Kd.R_far (p := ⟨gb220, 1, none⟩) (Kd.R_far (p := ⟨gb220, 0, none⟩) (Kd.R_types (Kd.R_types HO208.out BK220.out (by decide)) BK221.out (by decide)) (fun _ hk => hk.1.2) (.string t199)) (fun _ hk => hk.1.2) (.int .i64 t200)) (fun _ hk => hk.1.2) (.int .i64 t201)) (fun _ hk => hk.1.2) (.int .i64 t202)) (fun _ hk => hk.1.2) (.slice Ao24 t203.length co24)) (fun _ hk => hk.1.2) (.slice Ao25 t206.length co25)) (fun _ hk => hk.1.2) (.bool t209)) (fun _ hk => hk.2) (.string t210)) (fun _ hk => hk.2) (.int .i64 t211)) (fun _ hk => hk.2) (.int .i64 t212)) (fun _ hk => hk.2) (.slice Ao27 t213.length co27)) (fun _ hk => hk.2) (.slice Ao28 t216.length co28)) (fun _ hk => hk.2) (.bool t219)) (fun _ h_ => h_.1)) (fun _ h_ => h_.1))) hb); have n2_ := Aside0.mk (Kd.R_below (by (with_reducible repeat (first | apply Kd.R_alloc | apply Kd.R_drewN | apply Kd.R_drew)); exact (Kd.R_mono (Kd.R_mono (Kd.R_far (p := ⟨gb221, 5, none⟩) (Kd.R_far (p := ⟨gb221, 4, none⟩) (Kd.R_far (p := ⟨gb221, 3, none⟩) (Kd.R_far (p := ⟨gb221, 2, none⟩) (Kd.R_far (p := ⟨gb221, 1, none⟩) (Kd.R_far (p := ⟨gb221, 0, none⟩) (Kd.R_far (p := ⟨gb220, 6, none⟩) (Kd.R_far (p := ⟨gb220, 5, none⟩) (Kd.R_far (p := ⟨gb220, 4, none⟩) (Kd.R_far (p := ⟨gb220, 3, none⟩) (Kd.R_far (p := ⟨gb220, 2, none⟩) (Kd.R_far (p := ⟨gb220, 1, none⟩) (Kd.R_far (p := ⟨gb220, 0, none⟩) (Kd.R_types (Kd.R_types HO215.out BK220.out (by decide)) BK221.out (by decide)) (fun _ hk => hk.1.2) (.string t199)) (fun _ hk => hk.1.2) (.int .i64 t200)) (fun _ hk => hk.1.2) (.int .i64 t201)) (fun _ hk => hk.1.2) (.int .i64 t202)) (fun _ hk => hk.1.2) (.slice Ao24 t203.length co24)) (fun _ hk => hk.1.2) (.slice Ao25 t206.length co25)) (fun _ hk => hk.1.2) (.bool t209)) (fun _ hk => hk.2) (.string t210)) (fun _ hk => hk.2) (.int .i64 t211)) (fun _ hk => hk.2) (.int .i64 t212)) (fun _ hk => hk.2) (.slice Ao27 t213.length co27)) (fun _ hk => hk.2) (.slice Ao28 t216.length co28)) (fun _ hk => hk.2) (.bool t219)) (fun _ h_ => h_.1)) (fun _ h_ => h_.1))) hb); have n3_ := Aside0.mk (Kd.R_below (by (with_reducible repeat (first | apply Kd.R_alloc | apply Kd.R_drewN | apply Kd.R_drew)); exact (Kd.R_mono (Kd.R_mono (Kd.R_far (p := ⟨gb221, 5, none⟩) (Kd.R_far (p := ⟨gb221, 4, none⟩) (Kd.R_far (p := ⟨gb221, 3, none⟩) (Kd.R_far (p := ⟨gb221, 2, none⟩) (Kd.R_far (p := ⟨gb221, 1, none⟩) (Kd.R_far (p := ⟨gb221, 0, none⟩) (Kd.R_far (p := ⟨gb220, 6, none⟩) (Kd.R_far (p := ⟨gb220, 5, none⟩) (Kd.R_far (p := ⟨gb220, 4, none⟩) (Kd.R_far (p := ⟨gb220, 3, none⟩) (Kd.R_far (p := ⟨gb220, 2, none⟩) (Kd.R_far (p := ⟨gb220, 1, none⟩) (Kd.R_far (p := ⟨gb220, 0, none⟩) (Kd.R_types (Kd.R_types HO218.out BK220.out (by decide)) BK221.out (by decide)) (fun _ hk => hk.1.2) (.string t199)) (fun _ hk => hk.1.2) (.int .i64 t200)) (fun _ hk => hk.1.2) (.int .i64 t201)) (fun _ hk => hk.1.2) (.int .i64 t202)) (fun _ hk => hk.1.2) (.slice Ao24 t203.length co24)) (fun _ hk => hk.1.2) (.slice Ao25 t206.length co25)) (fun _ hk => hk.1.2) (.bool t209)) (fun _ hk => hk.2) (.string t210)) (fun _ hk => hk.2) (.int .i64 t211)) (fun _ hk => hk.2) (.int .i64 t212)) (fun _ hk => hk.2) (.slice Ao27 t213.length co27)) (fun _ hk => hk.2) (.slice Ao28 t216.length co28)) (fun _ hk => hk.2) (.bool t219)) (fun _ h_ => h_.1)) (fun _ h_ => h_.1))) hb); have n4_ := Aside0.mk (blk_below (g := gb220) (o := .cells #[.string t199, .int .i64 t200, .int .i64 t201, .int .i64 t202, .slice Ao24 t203.length co24, .slice Ao25 t206.length co25, .bool t209] 28 (0, 0)) (by (with_reducible repeat (first | refine blk_drewN ?_ _ | refine blk_drew ?_ | refine blk_alloc ?_ _)); refine blk_far ?_ NB220_221.out _; (with_reducible repeat (first | refine blk_drewN ?_ _ | refine blk_drew ?_ | refine blk_alloc ?_ _)); refine blk_far ?_ NB220_221.out _; (with_reducible repeat (first | refine blk_drewN ?_ _ | refine blk_drew ?_ | refine blk_alloc ?_ _)); refine blk_far ?_ NB220_221.out _; (with_reducible repeat (first | refine blk_drewN ?_ _ | refine blk_drew ?_ | refine blk_alloc ?_ _)); refine blk_far ?_ NB220_221.out _; (with_reducible repeat (first | refine blk_drewN ?_ _ | refine blk_drew ?_ | refine blk_alloc ?_ _)); refine blk_far ?_ NB220_221.out _; (with_reducible repeat (first | refine blk_drewN ?_ _ | refine blk_drew ?_ | refine blk_alloc ?_ _)); refine blk_far ?_ NB220_221.out _; (with_reducible repeat (first | refine blk_drewN ?_ _ | refine blk_drew ?_ | refine blk_alloc ?_ _)); refine blk_put (cs := #[.string t199, .int .i64 t200, .int .i64 t201, .int .i64 t202, .slice Ao24 t203.length co24, .slice Ao25 t206.length co25, .bool false]) ?_ 6 _ rfl; (with_reducible repeat (first | refine blk_drewN ?_ _ | refine blk_drew ?_ | refine blk_alloc ?_ _)); refine blk_put (cs := #[.string t199, .int .i64 t200, .int .i64 t201, .int .i64 t202, .slice Ao24 t203.length co24, .slice none 0 0, .bool false]) ?_ 5 _ rfl; (with_reducible repeat (first | refine blk_drewN ?_ _ | refine blk_drew ?_ | refine blk_alloc ?_ _)); refine blk_put (cs := #[.string t199, .int .i64 t200, .int .i64 t201, .int .i64 t202, .slice none 0 0, .slice none 0 0, .bool false]) ?_ 4 _ rfl; (with_reducible repeat (first | refine blk_drewN ?_ _ | refine blk_drew ?_ | refine blk_alloc ?_ _)); refine blk_put (cs := #[.string t199, .int .i64 t200, .int .i64 t201, .int .i64 0, .slice none 0 0, .slice none 0 0, .bool false]) ?_ 3 _ rfl; (with_reducible repeat (first | refine blk_drewN ?_ _ | refine blk_drew ?_ | refine blk_alloc ?_ _)); refine blk_put (cs := #[.string t199, .int .i64 t200, .int .i64 0, .int .i64 0, .slice none 0 0, .slice none 0 0, .bool false]) ?_ 2 _ rfl; (with_reducible repeat (first | refine blk_drewN ?_ _ | refine blk_drew ?_ | refine blk_alloc ?_ _)); refine blk_put (cs := #[.string t199, .int .i64 0, .int .i64 0, .int .i64 0, .slice none 0 0, .slice none 0 0, .bool false]) ?_ 1 _ rfl; (with_reducible repeat (first | refine blk_drewN ?_ _ | refine blk_drew ?_ | refine blk_alloc ?_ _)); refine blk_put (cs := #[.string (⟨#[]⟩ : ByteArray), .int .i64 0, .int .i64 0, .int .i64 0, .slice none 0 0, .slice none 0 0, .bool false]) ?_ 0 _ rfl; (with_reducible repeat (first | refine blk_drewN ?_ _ | refine blk_drew ?_ | refine blk_alloc ?_ _)); exact BK220.out) hb); have n5_ := Aside0.mk (blk_below (g := gb221) (o := .cells #[.string t210, .int .i64 t211, .int .i64 t212, .slice Ao27 t213.length co27, .slice Ao28 t216.length co28, .bool t219] 31 (0, 0)) (by (with_reducible repeat (first | refine blk_drewN ?_ _ | refine blk_drew ?_ | refine blk_alloc ?_ _)); refine blk_put (cs := #[.string t210, .int .i64 t211, .int .i64 t212, .slice Ao27 t213.length co27, .slice Ao28 t216.length co28, .bool false]) ?_ 5 _ rfl; (with_reducible repeat (first | refine blk_drewN ?_ _ | refine blk_drew ?_ | refine blk_alloc ?_ _)); refine blk_put (cs := #[.string t210, .int .i64 t211, .int .i64 t212, .slice Ao27 t213.length co27, .slice none 0 0, .bool false]) ?_ 4 _ rfl; (with_reducible repeat (first | refine blk_drewN ?_ _ | refine blk_drew ?_ | refine blk_alloc ?_ _)); refine blk_put (cs := #[.string t210, .int .i64 t211, .int .i64 t212, .slice none 0 0, .slice none 0 0, .bool false]) ?_ 3 _ rfl; (with_reducible repeat (first | refine blk_drewN ?_ _ | refine blk_drew ?_ | refine blk_alloc ?_ _)); refine blk_put (cs := #[.string t210, .int .i64 t211, .int .i64 0, .slice none 0 0, .slice none 0 0, .bool false]) ?_ 2 _ rfl; (with_reducible repeat (first | refine blk_drewN ?_ _ | refine blk_drew ?_ | refine blk_alloc ?_ _)); refine blk_put (cs := #[.string t210, .int .i64 0, .int .i64 0, .slice none 0 0, .slice none 0 0, .bool false]) ?_ 1 _ rfl; (with_reducible repeat (first | refine blk_drewN ?_ _ | refine blk_drew ?_ | refine blk_alloc ?_ _)); refine blk_put (cs := #[.string (⟨#[]⟩ : ByteArray), .int .i64 0, .int .i64 0, .slice none 0 0, .slice none 0 0, .bool false]) ?_ 0 _ rfl; (with_reducible repeat (first | refine blk_drewN ?_ _ | refine blk_drew ?_ | refine blk_alloc ?_ _)); refine blk_far ?_ NB221_220.out _; (with_reducible repeat (first | refine blk_drewN ?_ _ | refine blk_drew ?_ | refine blk_alloc ?_ _)); refine blk_far ?_ NB221_220.out _; (with_reducible repeat (first | refine blk_drewN ?_ _ | refine blk_drew ?_ | refine blk_alloc ?_ _)); refine blk_far ?_ NB221_220.out _; (with_reducible repeat (first | refine blk_drewN ?_ _ | refine blk_drew ?_ | refine blk_alloc ?_ _)); refine blk_far ?_ NB221_220.out _; (with_reducible repeat (first | refine blk_drewN ?_ _ | refine blk_drew ?_ | refine blk_alloc ?_ _)); refine blk_far ?_ NB221_220.out _; (with_reducible repeat (first | refine blk_drewN ?_ _ | refine blk_drew ?_ | refine blk_alloc ?_ _)); refine blk_far ?_ NB221_220.out _; (with_reducible repeat (first | refine blk_drewN ?_ _ | refine blk_drew ?_ | refine blk_alloc ?_ _)); refine blk_far ?_ NB221_220.out _; (with_reducible repeat (first | refine blk_drewN ?_ _ | refine blk_drew ?_ | refine blk_alloc ?_ _)); exact BK221.out) hb); have n6_ := Aside0.mk (below_step (by repeat (first | (with_reducible first | exact HB.out | apply below_alloc | apply pw_below_drewN | apply below_drew1 | refine below_set ?_ GE220.out | refine below_set ?_ GE221.out) | exact HB.out)) hb); clear HO205; clear HO208; clear HO215; clear HO218; clear BK220; clear BK221; clear HB; have HO205 := n0_; have HO208 := n1_; have HO215 := n2_; have HO218 := n3_; have BK220 := n4_; have BK221 := n5_; have HB := n6_; clear n0_ n1_ n2_ n3_ n4_ n5_ n6_; (try clear hb)) | ((with_reducible refine gate_callee (f := 15) rfl ?_); refine goesL_ (some 34) rfl rfl Try.func15 (by kernel_rfl) rfl #[.int .i64 a4] rfl (by (try simp only [List.map_toArray, List.map_cons, List.map_nil]); first | done | rfl) ?_; (with_reducible refine (joinerylaw1_Edge.calls a4 t225 _ A15.out).mono ?_); rintro e w30 ⟨rfl, hb⟩; refine ⟨_, rfl, ?_⟩; have n0_ := Aside0.mk (Kd.R_below (by (with_reducible repeat (first | apply Kd.R_alloc | apply Kd.R_drewN | apply Kd.R_drew)); exact HO205.out) hb); have n1_ := Aside0.mk (Kd.R_below (by (with_reducible repeat (first | apply Kd.R_alloc | apply Kd.R_drewN | apply Kd.R_drew)); exact HO208.out) hb); have n2_ := Aside0.mk (Kd.R_below (by (with_reducible repeat (first | apply Kd.R_alloc | apply Kd.R_drewN | apply Kd.R_drew)); exact HO215.out) hb); have n3_ := Aside0.mk (Kd.R_below (by (with_reducible repeat (first | apply Kd.R_alloc | apply Kd.R_drewN | apply Kd.R_drew)); exact HO218.out) hb); have n4_ := Aside0.mk (blk_below (g := gb220) (o := .cells #[.string t199, .int .i64 t200, .int .i64 t201, .int .i64 t202, .slice Ao24 t203.length co24, .slice Ao25 t206.length co25, .bool t209] 28 (0, 0)) (by (with_reducible repeat (first | refine blk_drewN ?_ _ | refine blk_drew ?_ | refine blk_alloc ?_ _)); exact BK220.out) hb); have n5_ := Aside0.mk (blk_below (g := gb221) (o := .cells #[.string t210, .int .i64 t211, .int .i64 t212, .slice Ao27 t213.length co27, .slice Ao28 t216.length co28, .bool t219] 31 (0, 0)) (by (with_reducible repeat (first | refine blk_drewN ?_ _ | refine blk_drew ?_ | refine blk_alloc ?_ _)); exact BK221.out) hb); have n6_ := Aside0.mk (below_step (by repeat (first | (with_reducible first | exact HB.out | apply below_alloc | apply pw_below_drewN | apply below_drew1 | refine below_set ?_ GE220.out | refine below_set ?_ GE221.out) | exact HB.out)) hb); clear HO205; clear HO208; clear HO215; clear HO218; clear BK220; clear BK221; clear HB; have HO205 := n0_; have HO208 := n1_; have HO215 := n2_; have HO218 := n3_; have BK220 := n4_; have BK221 := n5_; have HB := n6_; clear n0_ n1_ n2_ n3_ n4_ n5_ n6_; (try clear hb)) | ((with_reducible refine gate_dst (N := 37) rfl ?_); refine Kd.R_lit k25 _ 25 ?hg (N := 37) ?hd (xs := ([(⟨t222, t223⟩ : S25), (⟨0, 0⟩ : S25), (⟨ji14, ji16⟩ : S25)] : List (S25))) (inner := [.int .i64 t222, .int .i64 t223, .int .i64 0, .int .i64 0, .int .i64 ji14, .int .i64 ji16]) (ok := fun _ => True) (okp := fun _ => True) ?hr ?hp (fun _ hk => hk) trivial (Below.refl _ _) (Nat.le_refl _) (by simp) ?_; (case hd => rfl); (case hg => rfl); (case hr => first | (go_simp; done) | (go_simp; rfl)); (case hp => exact (Reps.c2 (show Kd.M k25 _ _ _ (⟨t222, t223⟩ : S25) [.int .i64 t222, .int .i64 t223] from (k25_mkM _ _ _ (⟨t222, t223⟩ : S25) )) (Reps.c2 (show Kd.M k25 _ _ _ (⟨0, 0⟩ : S25) [.int .i64 0, .int .i64 0] from (k25_mkM _ _ _ (⟨0, 0⟩ : S25) )) (Reps.c2 (show Kd.M k25 _ _ _ (⟨ji14, ji16⟩ : S25) [.int .i64 ji14, .int .i64 ji16] from (k25_mkM _ _ _ (⟨ji14, ji16⟩ : S25) )) (Reps.none _ _))))); intro v227 w31 ho32 hb hg_ hnew_; clear hg_ hnew_; (first | rw [← Ny226.out] at ho32 | (simp only [Int.reduceToNat] at ho32; rw [← Ny226.out] at ho32)); have n0_ := Aside0.mk (Kd.R_below (by (with_reducible repeat (first | apply Kd.R_alloc | apply Kd.R_drewN | apply Kd.R_drew)); exact HO205.out) hb); have n1_ := Aside0.mk (Kd.R_below (by (with_reducible repeat (first | apply Kd.R_alloc | apply Kd.R_drewN | apply Kd.R_drew)); exact HO208.out) hb); have n2_ := Aside0.mk (Kd.R_below (by (with_reducible repeat (first | apply Kd.R_alloc | apply Kd.R_drewN | apply Kd.R_drew)); exact HO215.out) hb); have n3_ := Aside0.mk (Kd.R_below (by (with_reducible repeat (first | apply Kd.R_alloc | apply Kd.R_drewN | apply Kd.R_drew)); exact HO218.out) hb); have n4_ := Aside0.mk (Kd.R_lower ho32 (below_size (by repeat (first | (with_reducible first | exact HB.out | apply below_alloc | apply pw_below_drewN | apply below_drew1 | refine below_set ?_ GE220.out | refine below_set ?_ GE221.out) | exact HB.out)))); have n5_ := Aside0.mk (blk_below (g := gb220) (o := .cells #[.string t199, .int .i64 t200, .int .i64 t201, .int .i64 t202, .slice Ao24 t203.length co24, .slice Ao25 t206.length co25, .bool t209] 28 (0, 0)) (by (with_reducible repeat (first | refine blk_drewN ?_ _ | refine blk_drew ?_ | refine blk_alloc ?_ _)); exact BK220.out) hb); have n6_ := Aside0.mk (blk_below (g := gb221) (o := .cells #[.string t210, .int .i64 t211, .int .i64 t212, .slice Ao27 t213.length co27, .slice Ao28 t216.length co28, .bool t219] 31 (0, 0)) (by (with_reducible repeat (first | refine blk_drewN ?_ _ | refine blk_drew ?_ | refine blk_alloc ?_ _)); exact BK221.out) hb); have n7_ := Aside0.mk (below_step (by repeat (first | (with_reducible first | exact HB.out | apply below_alloc | apply pw_below_drewN | apply below_drew1 | refine below_set ?_ GE220.out | refine below_set ?_ GE221.out) | exact HB.out)) hb); clear HO205; clear HO208; clear HO215; clear HO218; clear BK220; clear BK221; clear HB; have HO205 := n0_; have HO208 := n1_; have HO215 := n2_; have HO218 := n3_; have HO228 := n4_; have BK220 := n5_; have BK221 := n6_; have HB := n7_; clear n0_ n1_ n2_ n3_ n4_ n5_ n6_ n7_; clear hb ho32))
  go_loopg [16] k (fun kq v16 w' => ∃ (x16_1 : Int), v16 = .int .i64 x16_1 ∧ Aside0 (joinerylaw5_FitWhy.l0 kq l5 y226 x16_1 t199 t200 t201 t202 t203 t206 t209 t210 t211 t212 t213 t216 t219 = some r) ∧ Aside0 (kq ≤ k) ∧ Aside0 (Kd.R k25 25 w' w.heap.size (fun _ => True) v227 y226) ∧ Aside0 (Kd.R Kd.string 9 w' w.heap.size (fun k_ => some k_ ≠ ((.slice Ao25 t206.length co25) : Value).ownBlock ∧ some k_ ≠ ((.slice Ao27 t213.length co27) : Value).ownBlock ∧ some k_ ≠ ((.slice Ao28 t216.length co28) : Value).ownBlock) (.slice Ao24 t203.length co24) t203) ∧ Aside0 (Kd.R Kd.string 9 w' w.heap.size (fun k_ => some k_ ≠ ((.slice Ao24 t203.length co24) : Value).ownBlock ∧ some k_ ≠ ((.slice Ao27 t213.length co27) : Value).ownBlock ∧ some k_ ≠ ((.slice Ao28 t216.length co28) : Value).ownBlock) (.slice Ao25 t206.length co25) t206) ∧ Aside0 (Kd.R Kd.string 9 w' w.heap.size (fun k_ => some k_ ≠ ((.slice Ao24 t203.length co24) : Value).ownBlock ∧ some k_ ≠ ((.slice Ao25 t206.length co25) : Value).ownBlock ∧ some k_ ≠ ((.slice Ao28 t216.length co28) : Value).ownBlock) (.slice Ao27 t213.length co27) t213) ∧ Aside0 (Kd.R Kd.string 9 w' w.heap.size (fun k_ => some k_ ≠ ((.slice Ao24 t203.length co24) : Value).ownBlock ∧ some k_ ≠ ((.slice Ao25 t206.length co25) : Value).ownBlock ∧ some k_ ≠ ((.slice Ao27 t213.length co27) : Value).ownBlock) (.slice Ao28 t216.length co28) t216) ∧ Aside0 (w'.heap[gb220]? = some (.cells #[.string t199, .int .i64 t200, .int .i64 t201, .int .i64 t202, (.slice Ao24 t203.length co24), (.slice Ao25 t206.length co25), .bool t209] 28 (0, 0))) ∧ Aside0 (w'.heap[gb221]? = some (.cells #[.string t210, .int .i64 t211, .int .i64 t212, (.slice Ao27 t213.length co27), (.slice Ao28 t216.length co28), .bool t219] 31 (0, 0))) ∧ Aside0 (Below w.heap.size w w'))
  case atStart => exact ⟨(0), (by first | rfl | (simp [*]; done)), H', ⟨Nat.le_refl _⟩, ⟨by (with_reducible repeat (first | apply Kd.R_alloc | apply Kd.R_drewN | apply Kd.R_drew)); exact HO228.out⟩, ⟨by (with_reducible repeat (first | apply Kd.R_alloc | apply Kd.R_drewN | apply Kd.R_drew)); exact Kd.R_mono HO205.out (fun _ hk => ⟨hk.1.1, ⟨hk.1.2, hk.2⟩⟩)⟩, ⟨by (with_reducible repeat (first | apply Kd.R_alloc | apply Kd.R_drewN | apply Kd.R_drew)); exact Kd.R_mono HO208.out (fun _ hk => ⟨hk.1.1, ⟨hk.1.2, hk.2⟩⟩)⟩, ⟨by (with_reducible repeat (first | apply Kd.R_alloc | apply Kd.R_drewN | apply Kd.R_drew)); exact Kd.R_mono HO215.out (fun _ hk => ⟨hk.1.2, ⟨hk.2, hk.1.1⟩⟩)⟩, ⟨by (with_reducible repeat (first | apply Kd.R_alloc | apply Kd.R_drewN | apply Kd.R_drew)); exact Kd.R_mono HO218.out (fun _ hk => ⟨hk.1.2, ⟨hk.2, hk.1.1⟩⟩)⟩, ⟨by (with_reducible repeat (first | refine blk_drewN ?_ _ | refine blk_drew ?_ | refine blk_alloc ?_ _)); exact BK220.out⟩, ⟨by (with_reducible repeat (first | refine blk_drewN ?_ _ | refine blk_drew ?_ | refine blk_alloc ?_ _)); exact BK221.out⟩, ⟨by repeat (first | (with_reducible first | exact HB.out | apply below_alloc | apply pw_below_drewN | apply below_drew1 | refine below_set ?_ GE220.out | refine below_set ?_ GE221.out) | exact HB.out)⟩⟩
  case round =>
   clear H'
   try clear c1
   try clear c2
   try clear p2
   try clear c3
   try clear c5
   try clear c8
   try clear c11
   try clear c12
   try clear c13
   try clear c14
   try clear c15
   try clear c22
   try clear hcz23_0
   try clear hcz23_1
   try clear hcz23_2
   try clear hcz23_3
   try clear hcz23_4
   try clear hcz23_5
   try clear hcz23_6
   try clear hcz26_0
   try clear hcz26_1
   try clear hcz26_2
   try clear hcz26_3
   try clear hcz26_4
   try clear hcz26_5
   try clear hfz23_0
   try clear hfz23_1
   try clear hfz23_2
   try clear hfz23_3
   try clear hfz23_4
   try clear hfz23_5
   try clear hfz23_6
   try clear hfz26_0
   try clear hfz26_1
   try clear hfz26_2
   try clear hfz26_3
   try clear hfz26_4
   try clear hfz26_5
   obtain ⟨x16_1, rfl, HA, HK1, HO_15, HO_221004, HO_221005, HO_222003, HO_222004, BK220, BK221, HB⟩ := hrel
   cases gk with
   | zero => exact absurd HA.out (by simp [joinerylaw5_FitWhy.l0])
   | succ k1 =>
    have H := HA.out
    clear HA
    simp only [joinerylaw5_FitWhy.l0] at H
    by_cases c33 : x16_1 < (y226.length : Int)
    ·rw [if_pos c33] at H
     have c33b0 : decide (x16_1 < (y226.length : Int)) = true := decide_eq_true c33
     clear c33
     by_cases c34 : 0 ≤ x16_1
     ·rw [if_pos c34] at H
      have c34b0 : decide (0 ≤ x16_1) = true := decide_eq_true c34
      clear c34
      replace H := Option.bind_eq_some_iff.mp H
      obtain ⟨t230, A350, H⟩ := H
      replace H : ((fit_Why.f k1 t199 t200 t201 t202 t203 t206 t209 t210 t211 t212 t213 t216 t219 ((rd_T25 y226 x16_1).f0) ((rd_T25 y226 x16_1).f1) t230).bind fun t233 => ((joinerylaw5_beside.f k1 l5).bind fun t235 => ((joineryref5_Why.f k1 t199 t200 t201 t202 t203 t206 t209 t210 t211 t212 t213 t216 t219 ((rd_T25 y226 x16_1).f0) ((rd_T25 y226 x16_1).f1) t235).bind fun t238 => (if t233 = t238 then ((fit_Why.f k1 t199 t200 t201 t202 t203 t206 t209 t210 t211 t212 t213 t216 t219 ((rd_T25 y226 x16_1).f0) ((rd_T25 y226 x16_1).f1) ([] : List (S41))).bind fun t240 => ((joineryref5_Why.f k1 t199 t200 t201 t202 t203 t206 t209 t210 t211 t212 t213 t216 t219 ((rd_T25 y226 x16_1).f0) ((rd_T25 y226 x16_1).f1) ([] : List (S41))).bind fun t242 => (if t240 = t242 then (joinerylaw5_FitWhy.l0 k1 l5 y226 (wrap64 (x16_1 + 1)) t199 t200 t201 t202 t203 t206 t209 t210 t211 t212 t213 t216 t219) else (some false)))) else (some false))))) = some r := H
      have A35 := Aside0.mk A350
      clear A350
      replace H := Option.bind_eq_some_iff.mp H
      obtain ⟨t233, A360, H⟩ := H
      replace H : ((joinerylaw5_beside.f k1 l5).bind fun t235 => ((joineryref5_Why.f k1 t199 t200 t201 t202 t203 t206 t209 t210 t211 t212 t213 t216 t219 ((rd_T25 y226 x16_1).f0) ((rd_T25 y226 x16_1).f1) t235).bind fun t238 => (if t233 = t238 then ((fit_Why.f k1 t199 t200 t201 t202 t203 t206 t209 t210 t211 t212 t213 t216 t219 ((rd_T25 y226 x16_1).f0) ((rd_T25 y226 x16_1).f1) ([] : List (S41))).bind fun t240 => ((joineryref5_Why.f k1 t199 t200 t201 t202 t203 t206 t209 t210 t211 t212 t213 t216 t219 ((rd_T25 y226 x16_1).f0) ((rd_T25 y226 x16_1).f1) ([] : List (S41))).bind fun t242 => (if t240 = t242 then (joinerylaw5_FitWhy.l0 k1 l5 y226 (wrap64 (x16_1 + 1)) t199 t200 t201 t202 t203 t206 t209 t210 t211 t212 t213 t216 t219) else (some false)))) else (some false)))) = some r := H
      have A36 := Aside0.mk A360
      clear A360
      replace H := Option.bind_eq_some_iff.mp H
      obtain ⟨t235, A370, H⟩ := H
      replace H : ((joineryref5_Why.f k1 t199 t200 t201 t202 t203 t206 t209 t210 t211 t212 t213 t216 t219 ((rd_T25 y226 x16_1).f0) ((rd_T25 y226 x16_1).f1) t235).bind fun t238 => (if t233 = t238 then ((fit_Why.f k1 t199 t200 t201 t202 t203 t206 t209 t210 t211 t212 t213 t216 t219 ((rd_T25 y226 x16_1).f0) ((rd_T25 y226 x16_1).f1) ([] : List (S41))).bind fun t240 => ((joineryref5_Why.f k1 t199 t200 t201 t202 t203 t206 t209 t210 t211 t212 t213 t216 t219 ((rd_T25 y226 x16_1).f0) ((rd_T25 y226 x16_1).f1) ([] : List (S41))).bind fun t242 => (if t240 = t242 then (joinerylaw5_FitWhy.l0 k1 l5 y226 (wrap64 (x16_1 + 1)) t199 t200 t201 t202 t203 t206 t209 t210 t211 t212 t213 t216 t219) else (some false)))) else (some false))) = some r := H
      have A37 := Aside0.mk A370
      clear A370
      replace H := Option.bind_eq_some_iff.mp H
      obtain ⟨t238, A380, H⟩ := H
      replace H : (if t233 = t238 then ((fit_Why.f k1 t199 t200 t201 t202 t203 t206 t209 t210 t211 t212 t213 t216 t219 ((rd_T25 y226 x16_1).f0) ((rd_T25 y226 x16_1).f1) ([] : List (S41))).bind fun t240 => ((joineryref5_Why.f k1 t199 t200 t201 t202 t203 t206 t209 t210 t211 t212 t213 t216 t219 ((rd_T25 y226 x16_1).f0) ((rd_T25 y226 x16_1).f1) ([] : List (S41))).bind fun t242 => (if t240 = t242 then (joinerylaw5_FitWhy.l0 k1 l5 y226 (wrap64 (x16_1 + 1)) t199 t200 t201 t202 t203 t206 t209 t210 t211 t212 t213 t216 t219) else (some false)))) else (some false)) = some r := H
      have A38 := Aside0.mk A380
      clear A380
      by_cases c39 : t233 = t238
      ·rw [if_pos c39] at H
       have c39b0 : (t233 == t238) = true := beq_iff_eq.mpr c39
       have c39b1 : (t233 != t238) = false := bne_eq_false_iff_eq.mpr c39
       clear c39
       replace H := Option.bind_eq_some_iff.mp H
       obtain ⟨t240, A400, H⟩ := H
       replace H : ((joineryref5_Why.f k1 t199 t200 t201 t202 t203 t206 t209 t210 t211 t212 t213 t216 t219 ((rd_T25 y226 x16_1).f0) ((rd_T25 y226 x16_1).f1) ([] : List (S41))).bind fun t242 => (if t240 = t242 then (joinerylaw5_FitWhy.l0 k1 l5 y226 (wrap64 (x16_1 + 1)) t199 t200 t201 t202 t203 t206 t209 t210 t211 t212 t213 t216 t219) else (some false))) = some r := H
       have A40 := Aside0.mk A400
       clear A400
       replace H := Option.bind_eq_some_iff.mp H
       obtain ⟨t242, A410, H⟩ := H
       replace H : (if t240 = t242 then (joinerylaw5_FitWhy.l0 k1 l5 y226 (wrap64 (x16_1 + 1)) t199 t200 t201 t202 t203 t206 t209 t210 t211 t212 t213 t216 t219) else (some false)) = some r := H
       have A41 := Aside0.mk A410
       clear A410
       by_cases c42 : t240 = t242
       ·rw [if_pos c42] at H
        have c42b0 : (t240 == t242) = true := beq_iff_eq.mpr c42
        have c42b1 : (t240 != t242) = false := bne_eq_false_iff_eq.mpr c42
        clear c42
        have H' := Aside0.mk H
        clear H
        obtain ⟨Ao43, co43, eo43⟩ := Kd.R_slice HO_15.out
        subst eo43
        try go_wp2
        have n0_ := Aside0.mk (Kd.R_drew HO_15.out)
        have n1_ := Aside0.mk (Kd.R_drew HO_221004.out)
        have n2_ := Aside0.mk (Kd.R_drew HO_221005.out)
        have n3_ := Aside0.mk (Kd.R_drew HO_222003.out)
        have n4_ := Aside0.mk (Kd.R_drew HO_222004.out)
        have n5_ := Aside0.mk (blk_drew BK220.out)
        have n6_ := Aside0.mk (blk_drew BK221.out)
        have n7_ := Aside0.mk (below_drew1 HB.out)
        clear HO_15
        clear HO_221004
        clear HO_221005
        clear HO_222003
        clear HO_222004
        clear BK220
        clear BK221
        clear HB
        have HO_15 := n0_
        have HO_221004 := n1_
        have HO_221005 := n2_
        have HO_222003 := n3_
        have HO_222004 := n4_
        have BK220 := n5_
        have BK221 := n6_
        have HB := n7_
        clear n0_ n1_ n2_ n3_ n4_ n5_ n6_ n7_
        have p229 : 0 ≤ (x16_1 : Int) := of_decide_eq_true (by assumption)
        have q229 : x16_1 < (y226.length : Int) := of_decide_eq_true (by assumption)
        obtain ⟨ad229, e229, hx229_0, hx229_1⟩ := at_T25 (Kd.R_reads' HO_15.out).2.2 x16_1 p229 q229
        cases e229
        replace p229 := eq_true p229
        replace q229 := eq_true q229
        have p234 : 0 ≤ (x16_1 : Int) := of_decide_eq_true (by assumption)
        have q234 : x16_1 < (y226.length : Int) := of_decide_eq_true (by assumption)
        obtain ⟨ad234, e234, hx234_0, hx234_1⟩ := at_T25 (Kd.R_reads' HO_15.out).2.2 x16_1 p234 q234
        obtain rfl : ad229 = ad234 := (by injection e234)
        replace p234 := eq_true p234
        replace q234 := eq_true q234
        have p239 : 0 ≤ (x16_1 : Int) := of_decide_eq_true (by assumption)
        have q239 : x16_1 < (y226.length : Int) := of_decide_eq_true (by assumption)
        obtain ⟨ad239, e239, hx239_0, hx239_1⟩ := at_T25 (Kd.R_reads' HO_15.out).2.2 x16_1 p239 q239
        obtain rfl : ad229 = ad239 := (by injection e239)
        replace p239 := eq_true p239
        replace q239 := eq_true q239
        have p241 : 0 ≤ (x16_1 : Int) := of_decide_eq_true (by assumption)
        have q241 : x16_1 < (y226.length : Int) := of_decide_eq_true (by assumption)
        obtain ⟨ad241, e241, hx241_0, hx241_1⟩ := at_T25 (Kd.R_reads' HO_15.out).2.2 x16_1 p241 q241
        obtain rfl : ad229 = ad241 := (by injection e241)
        replace p241 := eq_true p241
        replace q241 := eq_true q241
        refine start_ (n := 36) (S := fun w' => w'.cell? ⟨gb220, 0, none⟩ = some (.string t199) ∧ w'.cell? ⟨gb220, 1, none⟩ = some (.int .i64 t200) ∧ w'.cell? ⟨gb220, 2, none⟩ = some (.int .i64 t201) ∧ w'.cell? ⟨gb220, 3, none⟩ = some (.int .i64 t202) ∧ w'.cell? ⟨gb220, 4, none⟩ = some (.slice Ao24 t203.length co24) ∧ w'.cell? ⟨gb220, 5, none⟩ = some (.slice Ao25 t206.length co25) ∧ w'.cell? ⟨gb220, 6, none⟩ = some (.bool t209) ∧ w'.cell? ⟨gb221, 0, none⟩ = some (.string t210) ∧ w'.cell? ⟨gb221, 1, none⟩ = some (.int .i64 t211) ∧ w'.cell? ⟨gb221, 2, none⟩ = some (.int .i64 t212) ∧ w'.cell? ⟨gb221, 3, none⟩ = some (.slice Ao27 t213.length co27) ∧ w'.cell? ⟨gb221, 4, none⟩ = some (.slice Ao28 t216.length co28) ∧ w'.cell? ⟨gb221, 5, none⟩ = some (.bool t219) ∧ w'.cell? (ad229.add ((x16_1).toNat * 2)) = some (.int .i64 ((rd_T25 y226 x16_1).f0)) ∧ w'.cell? ⟨(ad229.add ((x16_1).toNat * 2)).block, (ad229.add ((x16_1).toNat * 2)).off + 1, none⟩ = some (.int .i64 ((rd_T25 y226 x16_1).f1)) ∧ w'.cell? (ad229.add ((x16_1).toNat * 2)) = some (.int .i64 ((rd_T25 y226 x16_1).f0)) ∧ w'.cell? ⟨(ad229.add ((x16_1).toNat * 2)).block, (ad229.add ((x16_1).toNat * 2)).off + 1, none⟩ = some (.int .i64 ((rd_T25 y226 x16_1).f1)) ∧ w'.cell? (ad229.add ((x16_1).toNat * 2)) = some (.int .i64 ((rd_T25 y226 x16_1).f0)) ∧ w'.cell? ⟨(ad229.add ((x16_1).toNat * 2)).block, (ad229.add ((x16_1).toNat * 2)).off + 1, none⟩ = some (.int .i64 ((rd_T25 y226 x16_1).f1)) ∧ w'.cell? (ad229.add ((x16_1).toNat * 2)) = some (.int .i64 ((rd_T25 y226 x16_1).f0)) ∧ w'.cell? ⟨(ad229.add ((x16_1).toNat * 2)).block, (ad229.add ((x16_1).toNat * 2)).off + 1, none⟩ = some (.int .i64 ((rd_T25 y226 x16_1).f1))) (ds := []) #[false, false, false, false, false, false, false, false, false, false, false, false, false, false, false, false, false, false, false, false, false, false, false, false, false, false, false, false, false, false, false, false, false, false, false, false] (by kernel_rfl) rfl rfl ⟨(blk_cell BK220.out 0).trans rfl, (blk_cell BK220.out 1).trans rfl, (blk_cell BK220.out 2).trans rfl, (blk_cell BK220.out 3).trans rfl, (blk_cell BK220.out 4).trans rfl, (blk_cell BK220.out 5).trans rfl, (blk_cell BK220.out 6).trans rfl, (blk_cell BK221.out 0).trans rfl, (blk_cell BK221.out 1).trans rfl, (blk_cell BK221.out 2).trans rfl, (blk_cell BK221.out 3).trans rfl, (blk_cell BK221.out 4).trans rfl, (blk_cell BK221.out 5).trans rfl, hx229_0, hx229_1, hx234_0, hx234_1, hx239_0, hx239_1, hx241_0, hx241_1⟩ (fun hHeld => ?_); refine with_tabW joinerylaw5_FitWhy.tab8 joinerylaw5_FitWhy.bits8 (fun HT_ HW_ => ?_)
        generalize wr.drew = w44 at HO_15 HO_221004 HO_221005 HO_222003 HO_222004 BK220 BK221 HB hx229_0 hx229_1 hx234_0 hx234_1 hx239_0 hx239_1 hx241_0 hx241_1 hHeld ⊢
        refine pure_ (i := 2) (N := some 46) (v := ?_) (a' := ?_) #[false, false, true, false, false, false, false, false, false, false, false, false, false, false, false, false, false, false, false, false, false, false, false, false, false, false, false, false, false, false, false, false, false, false, false, false] rfl rfl (any_of HT_.out (by kernel_rfl)) (fun _ _ _ h => h) (Or.inl ⟨by rfl, ?_⟩) ?_ ?_
        rotate_left
        ·intro w'
         go_simp
         with_reducible rfl
        rotate_left
        ·simp only [Act.put, List.setIfInBounds_toArray, List.set_cons_zero, List.set_cons_succ, i64_w, i32_w]
         rfl
        refine pure_ (i := 3) (N := some 47) (v := ?_) (a' := ?_) #[false, false, true, true, false, false, false, false, false, false, false, false, false, false, false, false, false, false, false, false, false, false, false, false, false, false, false, false, false, false, false, false, false, false, false, false] rfl rfl (any_of HT_.out (by kernel_rfl)) (fun _ _ _ h => h) (Or.inl ⟨by rfl, ?_⟩) ?_ ?_
        rotate_left
        ·intro w'
         go_simp
         with_reducible rfl
        rotate_left
        ·simp only [Act.put, List.setIfInBounds_toArray, List.set_cons_zero, List.set_cons_succ, i64_w, i32_w]
         rfl
        refine pure_ (i := 4) (N := some 48) (v := ?_) (a' := ?_) #[false, false, true, true, true, false, false, false, false, false, false, false, false, false, false, false, false, false, false, false, false, false, false, false, false, false, false, false, false, false, false, false, false, false, false, false] rfl rfl (any_of HT_.out (by kernel_rfl)) (fun _ _ _ h => h) (Or.inl ⟨by rfl, ?_⟩) ?_ ?_
        rotate_left
        ·intro w'
         go_simp
         with_reducible rfl
        rotate_left
        ·simp only [Act.put, List.setIfInBounds_toArray, List.set_cons_zero, List.set_cons_succ, i64_w, i32_w]
         rfl
        refine pure_ (i := 6) (N := some 50) (v := ?_) (a' := ?_) #[false, false, true, true, true, false, true, false, false, false, false, false, false, false, false, false, false, false, false, false, false, false, false, false, false, false, false, false, false, false, false, false, false, false, false, false] rfl rfl (any_of HT_.out (by kernel_rfl)) (fun _ _ _ h => h) (Or.inl ⟨by rfl, ?_⟩) ?_ ?_
        rotate_left
        ·intro w'
         go_simp
         with_reducible rfl
        rotate_left
        ·simp only [Act.put, List.setIfInBounds_toArray, List.set_cons_zero, List.set_cons_succ, i64_w, i32_w]
         rfl
        refine pure_ (i := 11) (N := some 55) (v := ?_) (a' := ?_) #[false, false, true, true, true, false, true, false, false, false, false, true, false, false, false, false, false, false, false, false, false, false, false, false, false, false, false, false, false, false, false, false, false, false, false, false] rfl rfl (any_of HT_.out (by kernel_rfl)) (fun _ _ _ h => h) (Or.inl ⟨by rfl, ?_⟩) ?_ ?_
        rotate_left
        ·intro w'
         go_simp
         with_reducible rfl
        rotate_left
        ·simp only [Act.put, List.setIfInBounds_toArray, List.set_cons_zero, List.set_cons_succ, i64_w, i32_w]
         rfl
        refine pure_ (i := 12) (N := some 56) (v := ?_) (a' := ?_) #[false, false, true, true, true, false, true, false, false, false, false, true, true, false, false, false, false, false, false, false, false, false, false, false, false, false, false, false, false, false, false, false, false, false, false, false] rfl rfl (any_of HT_.out (by kernel_rfl)) (fun _ _ _ h => h) (Or.inl ⟨by rfl, ?_⟩) ?_ ?_
        rotate_left
        ·intro w'
         go_simp
         with_reducible rfl
        rotate_left
        ·simp only [Act.put, List.setIfInBounds_toArray, List.set_cons_zero, List.set_cons_succ, i64_w, i32_w]
         rfl
        refine pure_ (i := 13) (N := some 57) (v := ?_) (a' := ?_) #[false, false, true, true, true, false, true, false, false, false, false, true, true, true, false, false, false, false, false, false, false, false, false, false, false, false, false, false, false, false, false, false, false, false, false, false] rfl rfl (any_of HT_.out (by kernel_rfl)) (fun _ _ _ h => h) (Or.inl ⟨by rfl, ?_⟩) ?_ ?_
        rotate_left
        ·intro w'
         go_simp
         with_reducible rfl
        rotate_left
        ·simp only [Act.put, List.setIfInBounds_toArray, List.set_cons_zero, List.set_cons_succ, i64_w, i32_w]
         rfl
        refine pure_ (i := 15) (N := some 59) (v := ?_) (a' := ?_) #[false, false, true, true, true, false, true, false, false, false, false, true, true, true, false, true, false, false, false, false, false, false, false, false, false, false, false, false, false, false, false, false, false, false, false, false] rfl rfl (any_of HT_.out (by kernel_rfl)) (fun _ _ _ h => h) (Or.inl ⟨by rfl, ?_⟩) ?_ ?_
        rotate_left
        ·intro w'
         go_simp
         with_reducible rfl
        rotate_left
        ·simp only [Act.put, List.setIfInBounds_toArray, List.set_cons_zero, List.set_cons_succ, i64_w, i32_w]
         rfl
        refine take_ (i := 0) (N := some 44) (v := ?_) (a' := ?_) #[true, false, true, true, true, false, true, false, false, false, false, true, true, true, false, true, false, false, false, false, false, false, false, false, false, false, false, false, false, false, false, false, false, false, false, false] rfl rfl (take_ofW HT_.out HW_.out (by kernel_rfl)) (fun _ _ _ h => h) (Or.inl ⟨by rfl, ?_⟩) hHeld ?_ ?_
        rotate_left
        ·rintro w' ⟨s0, s1, s2, s3, s4, s5, s6, s7, s8, s9, s10, s11, s12, s13, s14, s15, s16, s17, s18, s19, s20⟩
         go_simp
         with_reducible rfl
        rotate_left
        ·simp only [Act.put, List.setIfInBounds_toArray, List.set_cons_zero, List.set_cons_succ, i64_w, i32_w]
         rfl
        refine take_ (i := 1) (N := some 45) (v := ?_) (a' := ?_) #[true, true, true, true, true, false, true, false, false, false, false, true, true, true, false, true, false, false, false, false, false, false, false, false, false, false, false, false, false, false, false, false, false, false, false, false] rfl rfl (take_ofW HT_.out HW_.out (by kernel_rfl)) (fun _ _ _ h => h) (Or.inl ⟨by rfl, ?_⟩) hHeld ?_ ?_
        rotate_left
        ·rintro w' ⟨s0, s1, s2, s3, s4, s5, s6, s7, s8, s9, s10, s11, s12, s13, s14, s15, s16, s17, s18, s19, s20⟩
         go_simp
         with_reducible rfl
        rotate_left
        ·simp only [Act.put, List.setIfInBounds_toArray, List.set_cons_zero, List.set_cons_succ, i64_w, i32_w]
         rfl
        refine take_ (i := 5) (N := some 49) (v := ?_) (a' := ?_) #[true, true, true, true, true, true, true, false, false, false, false, true, true, true, false, true, false, false, false, false, false, false, false, false, false, false, false, false, false, false, false, false, false, false, false, false] rfl rfl (take_ofW HT_.out HW_.out (by kernel_rfl)) (fun _ _ _ h => h) (Or.inl ⟨by rfl, ?_⟩) hHeld ?_ ?_
        rotate_left
        ·rintro w' ⟨s0, s1, s2, s3, s4, s5, s6, s7, s8, s9, s10, s11, s12, s13, s14, s15, s16, s17, s18, s19, s20⟩
         go_simp
         with_reducible rfl
        rotate_left
        ·simp only [Act.put, List.setIfInBounds_toArray, List.set_cons_zero, List.set_cons_succ, i64_w, i32_w]
         rfl
        refine take_ (i := 9) (N := some 53) (v := ?_) (a' := ?_) #[true, true, true, true, true, true, true, false, false, true, false, true, true, true, false, true, false, false, false, false, false, false, false, false, false, false, false, false, false, false, false, false, false, false, false, false] rfl rfl (take_ofW HT_.out HW_.out (by kernel_rfl)) (fun _ _ _ h => h) (Or.inl ⟨by rfl, ?_⟩) hHeld ?_ ?_
        rotate_left
        ·rintro w' ⟨s0, s1, s2, s3, s4, s5, s6, s7, s8, s9, s10, s11, s12, s13, s14, s15, s16, s17, s18, s19, s20⟩
         go_simp
         with_reducible rfl
        rotate_left
        ·simp only [Act.put, List.setIfInBounds_toArray, List.set_cons_zero, List.set_cons_succ, i64_w, i32_w]
         rfl
        refine take_ (i := 10) (N := some 54) (v := ?_) (a' := ?_) #[true, true, true, true, true, true, true, false, false, true, true, true, true, true, false, true, false, false, false, false, false, false, false, false, false, false, false, false, false, false, false, false, false, false, false, false] rfl rfl (take_ofW HT_.out HW_.out (by kernel_rfl)) (fun _ _ _ h => h) (Or.inl ⟨by rfl, ?_⟩) hHeld ?_ ?_
        rotate_left
        ·rintro w' ⟨s0, s1, s2, s3, s4, s5, s6, s7, s8, s9, s10, s11, s12, s13, s14, s15, s16, s17, s18, s19, s20⟩
         go_simp
         with_reducible rfl
        rotate_left
        ·simp only [Act.put, List.setIfInBounds_toArray, List.set_cons_zero, List.set_cons_succ, i64_w, i32_w]
         rfl
        refine take_ (i := 14) (N := some 58) (v := ?_) (a' := ?_) #[true, true, true, true, true, true, true, false, false, true, true, true, true, true, true, true, false, false, false, false, false, false, false, false, false, false, false, false, false, false, false, false, false, false, false, false] rfl rfl (take_ofW HT_.out HW_.out (by kernel_rfl)) (fun _ _ _ h => h) (Or.inl ⟨by rfl, ?_⟩) hHeld ?_ ?_
        rotate_left
        ·rintro w' ⟨s0, s1, s2, s3, s4, s5, s6, s7, s8, s9, s10, s11, s12, s13, s14, s15, s16, s17, s18, s19, s20⟩
         go_simp
         with_reducible rfl
        rotate_left
        ·simp only [Act.put, List.setIfInBounds_toArray, List.set_cons_zero, List.set_cons_succ, i64_w, i32_w]
         rfl
        refine one_ (i := 7) (N := some 51) #[true, true, true, true, true, true, true, true, false, true, true, true, true, true, true, true, false, false, false, false, false, false, false, false, false, false, false, false, false, false, false, false, false, false, false, false] rfl rfl (one_of HT_.out (by kernel_rfl)) (by decide) (fun K hK => ?_)
        refine goes_ Try.func17 (by kernel_rfl) rfl #[.slice A5 l5.length c5] (by rfl) rfl rfl (by (try simp only [List.map_toArray, List.map_cons, List.map_nil]); first | done | rfl) ?_
        with_reducible refine (joinerylaw5_beside.calls k1 _ _ l5 t230 _ ?side1 ?side2 A35.out).mono ?_
        (case side1 => repeat (first | exact (Kd.C_below HR5.out HB.out) | (with_reducible refine Kd.C_alloc ?_ _) | (with_reducible refine Kd.C_drewN ?_ _) | (with_reducible refine Kd.C_drew ?_)))
        (case side2 => exact HC5.out)
        rintro e w45 ⟨v231, rfl, ho0, hb⟩
        have HS13_ := (hb.cell (World.block_lt_of_cell? _ _ (hHeld.2.2.2.2.2.2.2.2.2.2.2.2.2.1))).trans (hHeld.2.2.2.2.2.2.2.2.2.2.2.2.2.1)
        have HS14_ := (hb.cell (World.block_lt_of_cell? _ _ (hHeld.2.2.2.2.2.2.2.2.2.2.2.2.2.2.1))).trans (hHeld.2.2.2.2.2.2.2.2.2.2.2.2.2.2.1)
        have HS15_ := (hb.cell (World.block_lt_of_cell? _ _ (hHeld.2.2.2.2.2.2.2.2.2.2.2.2.2.2.2.1))).trans (hHeld.2.2.2.2.2.2.2.2.2.2.2.2.2.2.2.1)
        have HS16_ := (hb.cell (World.block_lt_of_cell? _ _ (hHeld.2.2.2.2.2.2.2.2.2.2.2.2.2.2.2.2.1))).trans (hHeld.2.2.2.2.2.2.2.2.2.2.2.2.2.2.2.2.1)
        have HS17_ := (hb.cell (World.block_lt_of_cell? _ _ (hHeld.2.2.2.2.2.2.2.2.2.2.2.2.2.2.2.2.2.1))).trans (hHeld.2.2.2.2.2.2.2.2.2.2.2.2.2.2.2.2.2.1)
        have HS18_ := (hb.cell (World.block_lt_of_cell? _ _ (hHeld.2.2.2.2.2.2.2.2.2.2.2.2.2.2.2.2.2.2.1))).trans (hHeld.2.2.2.2.2.2.2.2.2.2.2.2.2.2.2.2.2.2.1)
        have HS19_ := (hb.cell (World.block_lt_of_cell? _ _ (hHeld.2.2.2.2.2.2.2.2.2.2.2.2.2.2.2.2.2.2.2.1))).trans (hHeld.2.2.2.2.2.2.2.2.2.2.2.2.2.2.2.2.2.2.2.1)
        have HS20_ := (hb.cell (World.block_lt_of_cell? _ _ (hHeld.2.2.2.2.2.2.2.2.2.2.2.2.2.2.2.2.2.2.2.2))).trans (hHeld.2.2.2.2.2.2.2.2.2.2.2.2.2.2.2.2.2.2.2.2)
        refine ⟨_, rfl, ?_⟩
        have n0_ := Aside0.mk (Kd.R_below (by (with_reducible repeat (first | apply Kd.R_alloc | apply Kd.R_drewN | apply Kd.R_drew)); exact HO_15.out) hb)
        have n1_ := Aside0.mk (Kd.R_below (by (with_reducible repeat (first | apply Kd.R_alloc | apply Kd.R_drewN | apply Kd.R_drew)); exact HO_221004.out) hb)
        have n2_ := Aside0.mk (Kd.R_below (by (with_reducible repeat (first | apply Kd.R_alloc | apply Kd.R_drewN | apply Kd.R_drew)); exact HO_221005.out) hb)
        have n3_ := Aside0.mk (Kd.R_below (by (with_reducible repeat (first | apply Kd.R_alloc | apply Kd.R_drewN | apply Kd.R_drew)); exact HO_222003.out) hb)
        have n4_ := Aside0.mk (Kd.R_below (by (with_reducible repeat (first | apply Kd.R_alloc | apply Kd.R_drewN | apply Kd.R_drew)); exact HO_222004.out) hb)
        have n5_ := Aside0.mk (Kd.R_lower ho0 (below_size (by repeat (first | (with_reducible first | exact HB.out | apply below_alloc | apply pw_below_drewN | apply below_drew1 | refine below_set ?_ GE220.out | refine below_set ?_ GE221.out) | exact HB.out))))
        have n6_ := Aside0.mk (blk_below (g := gb220) (o := .cells #[.string t199, .int .i64 t200, .int .i64 t201, .int .i64 t202, .slice Ao24 t203.length co24, .slice Ao25 t206.length co25, .bool t209] 28 (0, 0)) (by (with_reducible repeat (first | refine blk_drewN ?_ _ | refine blk_drew ?_ | refine blk_alloc ?_ _)); exact BK220.out) hb)
        have n7_ := Aside0.mk (blk_below (g := gb221) (o := .cells #[.string t210, .int .i64 t211, .int .i64 t212, .slice Ao27 t213.length co27, .slice Ao28 t216.length co28, .bool t219] 31 (0, 0)) (by (with_reducible repeat (first | refine blk_drewN ?_ _ | refine blk_drew ?_ | refine blk_alloc ?_ _)); exact BK221.out) hb)
        have n8_ := Aside0.mk (below_step (by repeat (first | (with_reducible first | exact HB.out | apply below_alloc | apply pw_below_drewN | apply below_drew1 | refine below_set ?_ GE220.out | refine below_set ?_ GE221.out) | exact HB.out)) hb)
        clear HO_15
        clear HO_221004
        clear HO_221005
        clear HO_222003
        clear HO_222004
        clear BK220
        clear BK221
        clear HB
        have HO_15 := n0_
        have HO_221004 := n1_
        have HO_221005 := n2_
        have HO_222003 := n3_
        have HO_222004 := n4_
        have HO232 := n5_
        have BK220 := n6_
        have BK221 := n7_
        have HB := n8_
        clear n0_ n1_ n2_ n3_ n4_ n5_ n6_ n7_ n8_
        (try clear hb)
        (try clear hb2)
        (try clear hk)
        (try clear hi)
        (try clear ho0)
        obtain ⟨Ao46, co46, eo46⟩ := Kd.R_slice HO232.out
        (first | subst eo46 | (injection eo46 with f1_ f2_ f3_; have f4_ := f1_.symm; have f5_ := f3_.symm; clear f1_ f2_ f3_; subst f4_; subst f5_))
        refine hK.out _ _ ⟨(blk_cell BK220.out 0).trans rfl, (blk_cell BK220.out 1).trans rfl, (blk_cell BK220.out 2).trans rfl, (blk_cell BK220.out 3).trans rfl, (blk_cell BK220.out 4).trans rfl, (blk_cell BK220.out 5).trans rfl, (blk_cell BK220.out 6).trans rfl, (blk_cell BK221.out 0).trans rfl, (blk_cell BK221.out 1).trans rfl, (blk_cell BK221.out 2).trans rfl, (blk_cell BK221.out 3).trans rfl, (blk_cell BK221.out 4).trans rfl, (blk_cell BK221.out 5).trans rfl, HS13_, HS14_, HS15_, HS16_, HS17_, HS18_, HS19_, HS20_⟩ (fun hHeld => ?_)
        clear hK K
        refine norm_ (a' := ?_) ?_ ?_
        rotate_left
        ·show Act.put _ (some 51) _ = _
         simp only [Act.put, List.setIfInBounds_toArray, List.set_cons_zero, List.set_cons_succ, i64_w, i32_w]
         rfl
        refine one_ (i := 8) (N := some 52) #[true, true, true, true, true, true, true, true, true, true, true, true, true, true, true, true, false, false, false, false, false, false, false, false, false, false, false, false, false, false, false, false, false, false, false, false] rfl rfl (one_of HT_.out (by kernel_rfl)) (by decide) (fun K hK => ?_)
        refine goes_ Try.func16 (by kernel_rfl) rfl #[.agg #[.string t199, .int .i64 t200, .int .i64 t201, .int .i64 t202, .slice Ao24 t203.length co24, .slice Ao25 t206.length co25, .bool t209], .agg #[.string t210, .int .i64 t211, .int .i64 t212, .slice Ao27 t213.length co27, .slice Ao28 t216.length co28, .bool t219], .agg #[.int .i64 ((rd_T25 y226 x16_1).f0), .int .i64 ((rd_T25 y226 x16_1).f1)], .slice Ao46 t230.length co46] (by rfl) rfl rfl (by (try simp only [List.map_toArray, List.map_cons, List.map_nil]); first | done | rfl) ?_
        with_reducible refine (fit_Why.calls k1 t199 t200 t201 t202 _ _ t203 _ _ t206 t209 t210 t211 t212 _ _ t213 _ _ t216 t219 ((rd_T25 y226 x16_1).f0) ((rd_T25 y226 x16_1).f1) _ _ t230 t233 _ ?side1 ?side2 ?side3 ?side4 ?side5 ?side6 ?side7 ?side8 ?side9 ?side10 A36.out).mono ?_
        (case side1 => repeat (first | exact (Kd.R_reads' HO_221004.out).2.2 | (with_reducible refine Kd.C_alloc ?_ _) | (with_reducible refine Kd.C_drewN ?_ _) | (with_reducible refine Kd.C_drew ?_)))
        (case side2 => exact (Kd.R_reads' HO_221004.out).2.1)
        (case side3 => repeat (first | exact (Kd.R_reads' HO_221005.out).2.2 | (with_reducible refine Kd.C_alloc ?_ _) | (with_reducible refine Kd.C_drewN ?_ _) | (with_reducible refine Kd.C_drew ?_)))
        (case side4 => exact (Kd.R_reads' HO_221005.out).2.1)
        (case side5 => repeat (first | exact (Kd.R_reads' HO_222003.out).2.2 | (with_reducible refine Kd.C_alloc ?_ _) | (with_reducible refine Kd.C_drewN ?_ _) | (with_reducible refine Kd.C_drew ?_)))
        (case side6 => exact (Kd.R_reads' HO_222003.out).2.1)
        (case side7 => repeat (first | exact (Kd.R_reads' HO_222004.out).2.2 | (with_reducible refine Kd.C_alloc ?_ _) | (with_reducible refine Kd.C_drewN ?_ _) | (with_reducible refine Kd.C_drew ?_)))
        (case side8 => exact (Kd.R_reads' HO_222004.out).2.1)
        (case side9 => repeat (first | exact (Kd.R_reads' HO232.out).2.2 | (with_reducible refine Kd.C_alloc ?_ _) | (with_reducible refine Kd.C_drewN ?_ _) | (with_reducible refine Kd.C_drew ?_)))
        (case side10 => exact (Kd.R_reads' HO232.out).2.1)
        rintro e w47 ⟨rfl, hb⟩
        have HS13_ := (hb.cell (World.block_lt_of_cell? _ _ (hHeld.2.2.2.2.2.2.2.2.2.2.2.2.2.1))).trans (hHeld.2.2.2.2.2.2.2.2.2.2.2.2.2.1)
        have HS14_ := (hb.cell (World.block_lt_of_cell? _ _ (hHeld.2.2.2.2.2.2.2.2.2.2.2.2.2.2.1))).trans (hHeld.2.2.2.2.2.2.2.2.2.2.2.2.2.2.1)
        have HS15_ := (hb.cell (World.block_lt_of_cell? _ _ (hHeld.2.2.2.2.2.2.2.2.2.2.2.2.2.2.2.1))).trans (hHeld.2.2.2.2.2.2.2.2.2.2.2.2.2.2.2.1)
        have HS16_ := (hb.cell (World.block_lt_of_cell? _ _ (hHeld.2.2.2.2.2.2.2.2.2.2.2.2.2.2.2.2.1))).trans (hHeld.2.2.2.2.2.2.2.2.2.2.2.2.2.2.2.2.1)
        have HS17_ := (hb.cell (World.block_lt_of_cell? _ _ (hHeld.2.2.2.2.2.2.2.2.2.2.2.2.2.2.2.2.2.1))).trans (hHeld.2.2.2.2.2.2.2.2.2.2.2.2.2.2.2.2.2.1)
        have HS18_ := (hb.cell (World.block_lt_of_cell? _ _ (hHeld.2.2.2.2.2.2.2.2.2.2.2.2.2.2.2.2.2.2.1))).trans (hHeld.2.2.2.2.2.2.2.2.2.2.2.2.2.2.2.2.2.2.1)
        have HS19_ := (hb.cell (World.block_lt_of_cell? _ _ (hHeld.2.2.2.2.2.2.2.2.2.2.2.2.2.2.2.2.2.2.2.1))).trans (hHeld.2.2.2.2.2.2.2.2.2.2.2.2.2.2.2.2.2.2.2.1)
        have HS20_ := (hb.cell (World.block_lt_of_cell? _ _ (hHeld.2.2.2.2.2.2.2.2.2.2.2.2.2.2.2.2.2.2.2.2))).trans (hHeld.2.2.2.2.2.2.2.2.2.2.2.2.2.2.2.2.2.2.2.2)
        refine ⟨_, rfl, ?_⟩
        have n0_ := Aside0.mk (Kd.R_below (by (with_reducible repeat (first | apply Kd.R_alloc | apply Kd.R_drewN | apply Kd.R_drew)); exact HO_15.out) hb)
        have n1_ := Aside0.mk (Kd.R_below (by (with_reducible repeat (first | apply Kd.R_alloc | apply Kd.R_drewN | apply Kd.R_drew)); exact HO_221004.out) hb)
        have n2_ := Aside0.mk (Kd.R_below (by (with_reducible repeat (first | apply Kd.R_alloc | apply Kd.R_drewN | apply Kd.R_drew)); exact HO_221005.out) hb)
        have n3_ := Aside0.mk (Kd.R_below (by (with_reducible repeat (first | apply Kd.R_alloc | apply Kd.R_drewN | apply Kd.R_drew)); exact HO_222003.out) hb)
        have n4_ := Aside0.mk (Kd.R_below (by (with_reducible repeat (first | apply Kd.R_alloc | apply Kd.R_drewN | apply Kd.R_drew)); exact HO_222004.out) hb)
        have n5_ := Aside0.mk (Kd.R_below (by (with_reducible repeat (first | apply Kd.R_alloc | apply Kd.R_drewN | apply Kd.R_drew)); exact HO232.out) hb)
        have n6_ := Aside0.mk (blk_below (g := gb220) (o := .cells #[.string t199, .int .i64 t200, .int .i64 t201, .int .i64 t202, .slice Ao24 t203.length co24, .slice Ao25 t206.length co25, .bool t209] 28 (0, 0)) (by (with_reducible repeat (first | refine blk_drewN ?_ _ | refine blk_drew ?_ | refine blk_alloc ?_ _)); exact BK220.out) hb)
        have n7_ := Aside0.mk (blk_below (g := gb221) (o := .cells #[.string t210, .int .i64 t211, .int .i64 t212, .slice Ao27 t213.length co27, .slice Ao28 t216.length co28, .bool t219] 31 (0, 0)) (by (with_reducible repeat (first | refine blk_drewN ?_ _ | refine blk_drew ?_ | refine blk_alloc ?_ _)); exact BK221.out) hb)
        have n8_ := Aside0.mk (below_step (by repeat (first | (with_reducible first | exact HB.out | apply below_alloc | apply pw_below_drewN | apply below_drew1 | refine below_set ?_ GE220.out | refine below_set ?_ GE221.out) | exact HB.out)) hb)
        clear HO_15
        clear HO_221004
        clear HO_221005
        clear HO_222003
        clear HO_222004
        clear HO232
        clear BK220
        clear BK221
        clear HB
        have HO_15 := n0_
        have HO_221004 := n1_
        have HO_221005 := n2_
        have HO_222003 := n3_
        have HO_222004 := n4_
        have HO232 := n5_
        have BK220 := n6_
        have BK221 := n7_
        have HB := n8_
        clear n0_ n1_ n2_ n3_ n4_ n5_ n6_ n7_ n8_
        (try clear hb)
        (try clear hb2)
        (try clear hk)
        (try clear hi)
        refine hK.out _ _ ⟨(blk_cell BK220.out 0).trans rfl, (blk_cell BK220.out 1).trans rfl, (blk_cell BK220.out 2).trans rfl, (blk_cell BK220.out 3).trans rfl, (blk_cell BK220.out 4).trans rfl, (blk_cell BK220.out 5).trans rfl, (blk_cell BK220.out 6).trans rfl, (blk_cell BK221.out 0).trans rfl, (blk_cell BK221.out 1).trans rfl, (blk_cell BK221.out 2).trans rfl, (blk_cell BK221.out 3).trans rfl, (blk_cell BK221.out 4).trans rfl, (blk_cell BK221.out 5).trans rfl, HS13_, HS14_, HS15_, HS16_, HS17_, HS18_, HS19_, HS20_⟩ (fun hHeld => ?_)
        clear hK K
        refine norm_ (a' := ?_) ?_ ?_
        rotate_left
        ·show Act.put _ (some 52) _ = _
         simp only [Act.put, List.setIfInBounds_toArray, List.set_cons_zero, List.set_cons_succ, i64_w, i32_w]
         rfl
        refine one_ (i := 16) (N := some 60) #[true, true, true, true, true, true, true, true, true, true, true, true, true, true, true, true, true, false, false, false, false, false, false, false, false, false, false, false, false, false, false, false, false, false, false, false] rfl rfl (one_of HT_.out (by kernel_rfl)) (by decide) (fun K hK => ?_)
        refine goes_ Try.func17 (by kernel_rfl) rfl #[.slice A5 l5.length c5] (by rfl) rfl rfl (by (try simp only [List.map_toArray, List.map_cons, List.map_nil]); first | done | rfl) ?_
        with_reducible refine (joinerylaw5_beside.calls k1 _ _ l5 t235 _ ?side1 ?side2 A37.out).mono ?_
        (case side1 => repeat (first | exact (Kd.C_below HR5.out HB.out) | (with_reducible refine Kd.C_alloc ?_ _) | (with_reducible refine Kd.C_drewN ?_ _) | (with_reducible refine Kd.C_drew ?_)))
        (case side2 => exact HC5.out)
        rintro e w48 ⟨v236, rfl, ho0, hb⟩
        have HS13_ := (hb.cell (World.block_lt_of_cell? _ _ (hHeld.2.2.2.2.2.2.2.2.2.2.2.2.2.1))).trans (hHeld.2.2.2.2.2.2.2.2.2.2.2.2.2.1)
        have HS14_ := (hb.cell (World.block_lt_of_cell? _ _ (hHeld.2.2.2.2.2.2.2.2.2.2.2.2.2.2.1))).trans (hHeld.2.2.2.2.2.2.2.2.2.2.2.2.2.2.1)
        have HS15_ := (hb.cell (World.block_lt_of_cell? _ _ (hHeld.2.2.2.2.2.2.2.2.2.2.2.2.2.2.2.1))).trans (hHeld.2.2.2.2.2.2.2.2.2.2.2.2.2.2.2.1)
        have HS16_ := (hb.cell (World.block_lt_of_cell? _ _ (hHeld.2.2.2.2.2.2.2.2.2.2.2.2.2.2.2.2.1))).trans (hHeld.2.2.2.2.2.2.2.2.2.2.2.2.2.2.2.2.1)
        have HS17_ := (hb.cell (World.block_lt_of_cell? _ _ (hHeld.2.2.2.2.2.2.2.2.2.2.2.2.2.2.2.2.2.1))).trans (hHeld.2.2.2.2.2.2.2.2.2.2.2.2.2.2.2.2.2.1)
        have HS18_ := (hb.cell (World.block_lt_of_cell? _ _ (hHeld.2.2.2.2.2.2.2.2.2.2.2.2.2.2.2.2.2.2.1))).trans (hHeld.2.2.2.2.2.2.2.2.2.2.2.2.2.2.2.2.2.2.1)
        have HS19_ := (hb.cell (World.block_lt_of_cell? _ _ (hHeld.2.2.2.2.2.2.2.2.2.2.2.2.2.2.2.2.2.2.2.1))).trans (hHeld.2.2.2.2.2.2.2.2.2.2.2.2.2.2.2.2.2.2.2.1)
        have HS20_ := (hb.cell (World.block_lt_of_cell? _ _ (hHeld.2.2.2.2.2.2.2.2.2.2.2.2.2.2.2.2.2.2.2.2))).trans (hHeld.2.2.2.2.2.2.2.2.2.2.2.2.2.2.2.2.2.2.2.2)
        refine ⟨_, rfl, ?_⟩
        have n0_ := Aside0.mk (Kd.R_below (by (with_reducible repeat (first | apply Kd.R_alloc | apply Kd.R_drewN | apply Kd.R_drew)); exact HO_15.out) hb)
        have n1_ := Aside0.mk (Kd.R_below (by (with_reducible repeat (first | apply Kd.R_alloc | apply Kd.R_drewN | apply Kd.R_drew)); exact HO_221004.out) hb)
        have n2_ := Aside0.mk (Kd.R_below (by (with_reducible repeat (first | apply Kd.R_alloc | apply Kd.R_drewN | apply Kd.R_drew)); exact HO_221005.out) hb)
        have n3_ := Aside0.mk (Kd.R_below (by (with_reducible repeat (first | apply Kd.R_alloc | apply Kd.R_drewN | apply Kd.R_drew)); exact HO_222003.out) hb)
        have n4_ := Aside0.mk (Kd.R_below (by (with_reducible repeat (first | apply Kd.R_alloc | apply Kd.R_drewN | apply Kd.R_drew)); exact HO_222004.out) hb)
        have n5_ := Aside0.mk (Kd.R_elder' (by (with_reducible repeat (first | apply Kd.R_alloc | apply Kd.R_drewN | apply Kd.R_drew)); exact HO232.out) (Kd.R_base ho0) hb)
        have n6_ := Aside0.mk (Kd.R_lower (Kd.R_new' ho0 (Kd.R_lt (by (with_reducible repeat (first | apply Kd.R_alloc | apply Kd.R_drewN | apply Kd.R_drew)); exact HO232.out))) (below_size (by repeat (first | (with_reducible first | exact HB.out | apply below_alloc | apply pw_below_drewN | apply below_drew1 | refine below_set ?_ GE220.out | refine below_set ?_ GE221.out) | exact HB.out))))
        have n7_ := Aside0.mk (blk_below (g := gb220) (o := .cells #[.string t199, .int .i64 t200, .int .i64 t201, .int .i64 t202, .slice Ao24 t203.length co24, .slice Ao25 t206.length co25, .bool t209] 28 (0, 0)) (by (with_reducible repeat (first | refine blk_drewN ?_ _ | refine blk_drew ?_ | refine blk_alloc ?_ _)); exact BK220.out) hb)
        have n8_ := Aside0.mk (blk_below (g := gb221) (o := .cells #[.string t210, .int .i64 t211, .int .i64 t212, .slice Ao27 t213.length co27, .slice Ao28 t216.length co28, .bool t219] 31 (0, 0)) (by (with_reducible repeat (first | refine blk_drewN ?_ _ | refine blk_drew ?_ | refine blk_alloc ?_ _)); exact BK221.out) hb)
        have n9_ := Aside0.mk (below_step (by repeat (first | (with_reducible first | exact HB.out | apply below_alloc | apply pw_below_drewN | apply below_drew1 | refine below_set ?_ GE220.out | refine below_set ?_ GE221.out) | exact HB.out)) hb)
        clear HO_15
        clear HO_221004
        clear HO_221005
        clear HO_222003
        clear HO_222004
        clear HO232
        clear BK220
        clear BK221
        clear HB
        have HO_15 := n0_
        have HO_221004 := n1_
        have HO_221005 := n2_
        have HO_222003 := n3_
        have HO_222004 := n4_
        have HO232 := n5_
        have HO237 := n6_
        have BK220 := n7_
        have BK221 := n8_
        have HB := n9_
        clear n0_ n1_ n2_ n3_ n4_ n5_ n6_ n7_ n8_ n9_
        (try clear hb)
        (try clear hb2)
        (try clear hk)
        (try clear hi)
        (try clear ho0)
        obtain ⟨Ao49, co49, eo49⟩ := Kd.R_slice HO237.out
        (first | subst eo49 | (injection eo49 with f1_ f2_ f3_; have f4_ := f1_.symm; have f5_ := f3_.symm; clear f1_ f2_ f3_; subst f4_; subst f5_))
        refine hK.out _ _ ⟨(blk_cell BK220.out 0).trans rfl, (blk_cell BK220.out 1).trans rfl, (blk_cell BK220.out 2).trans rfl, (blk_cell BK220.out 3).trans rfl, (blk_cell BK220.out 4).trans rfl, (blk_cell BK220.out 5).trans rfl, (blk_cell BK220.out 6).trans rfl, (blk_cell BK221.out 0).trans rfl, (blk_cell BK221.out 1).trans rfl, (blk_cell BK221.out 2).trans rfl, (blk_cell BK221.out 3).trans rfl, (blk_cell BK221.out 4).trans rfl, (blk_cell BK221.out 5).trans rfl, HS13_, HS14_, HS15_, HS16_, HS17_, HS18_, HS19_, HS20_⟩ (fun hHeld => ?_)
        clear hK K
        refine norm_ (a' := ?_) ?_ ?_
        rotate_left
        ·show Act.put _ (some 60) _ = _
         simp only [Act.put, List.setIfInBounds_toArray, List.set_cons_zero, List.set_cons_succ, i64_w, i32_w]
         rfl
        refine one_ (i := 17) (N := some 61) #[true, true, true, true, true, true, true, true, true, true, true, true, true, true, true, true, true, true, false, false, false, false, false, false, false, false, false, false, false, false, false, false, false, false, false, false] rfl rfl (one_of HT_.out (by kernel_rfl)) (by decide) (fun K hK => ?_)
        refine goes_ Try.func18 (by kernel_rfl) rfl #[.agg #[.string t199, .int .i64 t200, .int .i64 t201, .int .i64 t202, .slice Ao24 t203.length co24, .slice Ao25 t206.length co25, .bool t209], .agg #[.string t210, .int .i64 t211, .int .i64 t212, .slice Ao27 t213.length co27, .slice Ao28 t216.length co28, .bool t219], .agg #[.int .i64 ((rd_T25 y226 x16_1).f0), .int .i64 ((rd_T25 y226 x16_1).f1)], .slice Ao49 t235.length co49] (by rfl) rfl rfl (by (try simp only [List.map_toArray, List.map_cons, List.map_nil]); first | done | rfl) ?_
        with_reducible refine (joineryref5_Why.calls k1 t199 t200 t201 t202 _ _ t203 _ _ t206 t209 t210 t211 t212 _ _ t213 _ _ t216 t219 ((rd_T25 y226 x16_1).f0) ((rd_T25 y226 x16_1).f1) _ _ t235 t238 _ ?side1 ?side2 ?side3 ?side4 ?side5 ?side6 ?side7 ?side8 ?side9 ?side10 A38.out).mono ?_
        (case side1 => repeat (first | exact (Kd.R_reads' HO_221004.out).2.2 | (with_reducible refine Kd.C_alloc ?_ _) | (with_reducible refine Kd.C_drewN ?_ _) | (with_reducible refine Kd.C_drew ?_)))
        (case side2 => exact (Kd.R_reads' HO_221004.out).2.1)
        (case side3 => repeat (first | exact (Kd.R_reads' HO_221005.out).2.2 | (with_reducible refine Kd.C_alloc ?_ _) | (with_reducible refine Kd.C_drewN ?_ _) | (with_reducible refine Kd.C_drew ?_)))
        (case side4 => exact (Kd.R_reads' HO_221005.out).2.1)
        (case side5 => repeat (first | exact (Kd.R_reads' HO_222003.out).2.2 | (with_reducible refine Kd.C_alloc ?_ _) | (with_reducible refine Kd.C_drewN ?_ _) | (with_reducible refine Kd.C_drew ?_)))
        (case side6 => exact (Kd.R_reads' HO_222003.out).2.1)
        (case side7 => repeat (first | exact (Kd.R_reads' HO_222004.out).2.2 | (with_reducible refine Kd.C_alloc ?_ _) | (with_reducible refine Kd.C_drewN ?_ _) | (with_reducible refine Kd.C_drew ?_)))
        (case side8 => exact (Kd.R_reads' HO_222004.out).2.1)
        (case side9 => repeat (first | exact (Kd.R_reads' HO237.out).2.2 | (with_reducible refine Kd.C_alloc ?_ _) | (with_reducible refine Kd.C_drewN ?_ _) | (with_reducible refine Kd.C_drew ?_)))
        (case side10 => exact (Kd.R_reads' HO237.out).2.1)
        rintro e w50 ⟨rfl, hb⟩
        have HS13_ := (hb.cell (World.block_lt_of_cell? _ _ (hHeld.2.2.2.2.2.2.2.2.2.2.2.2.2.1))).trans (hHeld.2.2.2.2.2.2.2.2.2.2.2.2.2.1)
        have HS14_ := (hb.cell (World.block_lt_of_cell? _ _ (hHeld.2.2.2.2.2.2.2.2.2.2.2.2.2.2.1))).trans (hHeld.2.2.2.2.2.2.2.2.2.2.2.2.2.2.1)
        have HS15_ := (hb.cell (World.block_lt_of_cell? _ _ (hHeld.2.2.2.2.2.2.2.2.2.2.2.2.2.2.2.1))).trans (hHeld.2.2.2.2.2.2.2.2.2.2.2.2.2.2.2.1)
        have HS16_ := (hb.cell (World.block_lt_of_cell? _ _ (hHeld.2.2.2.2.2.2.2.2.2.2.2.2.2.2.2.2.1))).trans (hHeld.2.2.2.2.2.2.2.2.2.2.2.2.2.2.2.2.1)
        have HS17_ := (hb.cell (World.block_lt_of_cell? _ _ (hHeld.2.2.2.2.2.2.2.2.2.2.2.2.2.2.2.2.2.1))).trans (hHeld.2.2.2.2.2.2.2.2.2.2.2.2.2.2.2.2.2.1)
        have HS18_ := (hb.cell (World.block_lt_of_cell? _ _ (hHeld.2.2.2.2.2.2.2.2.2.2.2.2.2.2.2.2.2.2.1))).trans (hHeld.2.2.2.2.2.2.2.2.2.2.2.2.2.2.2.2.2.2.1)
        have HS19_ := (hb.cell (World.block_lt_of_cell? _ _ (hHeld.2.2.2.2.2.2.2.2.2.2.2.2.2.2.2.2.2.2.2.1))).trans (hHeld.2.2.2.2.2.2.2.2.2.2.2.2.2.2.2.2.2.2.2.1)
        have HS20_ := (hb.cell (World.block_lt_of_cell? _ _ (hHeld.2.2.2.2.2.2.2.2.2.2.2.2.2.2.2.2.2.2.2.2))).trans (hHeld.2.2.2.2.2.2.2.2.2.2.2.2.2.2.2.2.2.2.2.2)
        refine ⟨_, rfl, ?_⟩
        have n0_ := Aside0.mk (Kd.R_below (by (with_reducible repeat (first | apply Kd.R_alloc | apply Kd.R_drewN | apply Kd.R_drew)); exact HO_15.out) hb)
        have n1_ := Aside0.mk (Kd.R_below (by (with_reducible repeat (first | apply Kd.R_alloc | apply Kd.R_drewN | apply Kd.R_drew)); exact HO_221004.out) hb)
        have n2_ := Aside0.mk (Kd.R_below (by (with_reducible repeat (first | apply Kd.R_alloc | apply Kd.R_drewN | apply Kd.R_drew)); exact HO_221005.out) hb)
        have n3_ := Aside0.mk (Kd.R_below (by (with_reducible repeat (first | apply Kd.R_alloc | apply Kd.R_drewN | apply Kd.R_drew)); exact HO_222003.out) hb)
        have n4_ := Aside0.mk (Kd.R_below (by (with_reducible repeat (first | apply Kd.R_alloc | apply Kd.R_drewN | apply Kd.R_drew)); exact HO_222004.out) hb)
        have n5_ := Aside0.mk (Kd.R_below (by (with_reducible repeat (first | apply Kd.R_alloc | apply Kd.R_drewN | apply Kd.R_drew)); exact HO232.out) hb)
        have n6_ := Aside0.mk (Kd.R_below (by (with_reducible repeat (first | apply Kd.R_alloc | apply Kd.R_drewN | apply Kd.R_drew)); exact HO237.out) hb)
        have n7_ := Aside0.mk (blk_below (g := gb220) (o := .cells #[.string t199, .int .i64 t200, .int .i64 t201, .int .i64 t202, .slice Ao24 t203.length co24, .slice Ao25 t206.length co25, .bool t209] 28 (0, 0)) (by (with_reducible repeat (first | refine blk_drewN ?_ _ | refine blk_drew ?_ | refine blk_alloc ?_ _)); exact BK220.out) hb)
        have n8_ := Aside0.mk (blk_below (g := gb221) (o := .cells #[.string t210, .int .i64 t211, .int .i64 t212, .slice Ao27 t213.length co27, .slice Ao28 t216.length co28, .bool t219] 31 (0, 0)) (by (with_reducible repeat (first | refine blk_drewN ?_ _ | refine blk_drew ?_ | refine blk_alloc ?_ _)); exact BK221.out) hb)
        have n9_ := Aside0.mk (below_step (by repeat (first | (with_reducible first | exact HB.out | apply below_alloc | apply pw_below_drewN | apply below_drew1 | refine below_set ?_ GE220.out | refine below_set ?_ GE221.out) | exact HB.out)) hb)
        clear HO_15
        clear HO_221004
        clear HO_221005
        clear HO_222003
        clear HO_222004
        clear HO232
        clear HO237
        clear BK220
        clear BK221
        clear HB
        have HO_15 := n0_
        have HO_221004 := n1_
        have HO_221005 := n2_
        have HO_222003 := n3_
        have HO_222004 := n4_
        have HO232 := n5_
        have HO237 := n6_
        have BK220 := n7_
        have BK221 := n8_
        have HB := n9_
        clear n0_ n1_ n2_ n3_ n4_ n5_ n6_ n7_ n8_ n9_
        (try clear hb)
        (try clear hb2)
        (try clear hk)
        (try clear hi)
        refine hK.out _ _ ⟨(blk_cell BK220.out 0).trans rfl, (blk_cell BK220.out 1).trans rfl, (blk_cell BK220.out 2).trans rfl, (blk_cell BK220.out 3).trans rfl, (blk_cell BK220.out 4).trans rfl, (blk_cell BK220.out 5).trans rfl, (blk_cell BK220.out 6).trans rfl, (blk_cell BK221.out 0).trans rfl, (blk_cell BK221.out 1).trans rfl, (blk_cell BK221.out 2).trans rfl, (blk_cell BK221.out 3).trans rfl, (blk_cell BK221.out 4).trans rfl, (blk_cell BK221.out 5).trans rfl, HS13_, HS14_, HS15_, HS16_, HS17_, HS18_, HS19_, HS20_⟩ (fun hHeld => ?_)
        clear hK K
        refine norm_ (a' := ?_) ?_ ?_
        rotate_left
        ·show Act.put _ (some 61) _ = _
         simp only [Act.put, List.setIfInBounds_toArray, List.set_cons_zero, List.set_cons_succ, i64_w, i32_w]
         rfl
        refine pure_ (i := 18) (N := some 62) (v := ?_) (a' := ?_) #[true, true, true, true, true, true, true, true, true, true, true, true, true, true, true, true, true, true, true, false, false, false, false, false, false, false, false, false, false, false, false, false, false, false, false, false] rfl rfl (any_of HT_.out (by kernel_rfl)) (fun _ _ _ h => h) (Or.inl ⟨by rfl, ?_⟩) ?_ ?_
        rotate_left
        ·intro w'
         go_simp
         with_reducible rfl
        rotate_left
        ·simp only [Act.put, List.setIfInBounds_toArray, List.set_cons_zero, List.set_cons_succ, i64_w, i32_w]
         rfl
        refine pure_ (i := 19) (N := some 63) (v := ?_) (a' := ?_) #[true, true, true, true, true, true, true, true, true, true, true, true, true, true, true, true, true, true, true, true, false, false, false, false, false, false, false, false, false, false, false, false, false, false, false, false] rfl rfl (any_of HT_.out (by kernel_rfl)) (fun _ _ _ h => h) (Or.inl ⟨by rfl, ?_⟩) ?_ ?_
        rotate_left
        ·intro w'
         go_simp
         with_reducible rfl
        rotate_left
        ·simp only [Act.put, List.setIfInBounds_toArray, List.set_cons_zero, List.set_cons_succ, i64_w, i32_w]
         rfl
        refine pure_ (i := 22) (N := some 66) (v := ?_) (a' := ?_) #[true, true, true, true, true, true, true, true, true, true, true, true, true, true, true, true, true, true, true, true, false, false, true, false, false, false, false, false, false, false, false, false, false, false, false, false] rfl rfl (any_of HT_.out (by kernel_rfl)) (fun _ _ _ h => h) (Or.inl ⟨by rfl, ?_⟩) ?_ ?_
        rotate_left
        ·intro w'
         go_simp
         with_reducible rfl
        rotate_left
        ·simp only [Act.put, List.setIfInBounds_toArray, List.set_cons_zero, List.set_cons_succ, i64_w, i32_w]
         rfl
        refine pure_ (i := 23) (N := some 67) (v := ?_) (a' := ?_) #[true, true, true, true, true, true, true, true, true, true, true, true, true, true, true, true, true, true, true, true, false, false, true, true, false, false, false, false, false, false, false, false, false, false, false, false] rfl rfl (any_of HT_.out (by kernel_rfl)) (fun _ _ _ h => h) (Or.inl ⟨by rfl, ?_⟩) ?_ ?_
        rotate_left
        ·intro w'
         go_simp
         with_reducible rfl
        rotate_left
        ·simp only [Act.put, List.setIfInBounds_toArray, List.set_cons_zero, List.set_cons_succ, i64_w, i32_w]
         rfl
        refine pure_ (i := 24) (N := some 68) (v := ?_) (a' := ?_) #[true, true, true, true, true, true, true, true, true, true, true, true, true, true, true, true, true, true, true, true, false, false, true, true, true, false, false, false, false, false, false, false, false, false, false, false] rfl rfl (any_of HT_.out (by kernel_rfl)) (fun _ _ _ h => h) (Or.inl ⟨by rfl, ?_⟩) ?_ ?_
        rotate_left
        ·intro w'
         go_simp
         with_reducible rfl
        rotate_left
        ·simp only [Act.put, List.setIfInBounds_toArray, List.set_cons_zero, List.set_cons_succ, i64_w, i32_w]
         rfl
        refine pure_ (i := 29) (N := some 73) (v := ?_) (a' := ?_) #[true, true, true, true, true, true, true, true, true, true, true, true, true, true, true, true, true, true, true, true, false, false, true, true, true, false, false, false, false, true, false, false, false, false, false, false] rfl rfl (any_of HT_.out (by kernel_rfl)) (fun _ _ _ h => h) (Or.inl ⟨by rfl, ?_⟩) ?_ ?_
        rotate_left
        ·intro w'
         go_simp
         with_reducible rfl
        rotate_left
        ·simp only [Act.put, List.setIfInBounds_toArray, List.set_cons_zero, List.set_cons_succ, i64_w, i32_w]
         rfl
        refine pure_ (i := 30) (N := some 74) (v := ?_) (a' := ?_) #[true, true, true, true, true, true, true, true, true, true, true, true, true, true, true, true, true, true, true, true, false, false, true, true, true, false, false, false, false, true, true, false, false, false, false, false] rfl rfl (any_of HT_.out (by kernel_rfl)) (fun _ _ _ h => h) (Or.inl ⟨by rfl, ?_⟩) ?_ ?_
        rotate_left
        ·intro w'
         go_simp
         with_reducible rfl
        rotate_left
        ·simp only [Act.put, List.setIfInBounds_toArray, List.set_cons_zero, List.set_cons_succ, i64_w, i32_w]
         rfl
        refine pure_ (i := 31) (N := some 75) (v := ?_) (a' := ?_) #[true, true, true, true, true, true, true, true, true, true, true, true, true, true, true, true, true, true, true, true, false, false, true, true, true, false, false, false, false, true, true, true, false, false, false, false] rfl rfl (any_of HT_.out (by kernel_rfl)) (fun _ _ _ h => h) (Or.inl ⟨by rfl, ?_⟩) ?_ ?_
        rotate_left
        ·intro w'
         go_simp
         with_reducible rfl
        rotate_left
        ·simp only [Act.put, List.setIfInBounds_toArray, List.set_cons_zero, List.set_cons_succ, i64_w, i32_w]
         rfl
        refine take_ (i := 20) (N := some 64) (v := ?_) (a' := ?_) #[true, true, true, true, true, true, true, true, true, true, true, true, true, true, true, true, true, true, true, true, true, false, true, true, true, false, false, false, false, true, true, true, false, false, false, false] rfl rfl (take_ofW HT_.out HW_.out (by kernel_rfl)) (fun _ _ _ h => h) (Or.inl ⟨by rfl, ?_⟩) hHeld ?_ ?_
        rotate_left
        ·rintro w' ⟨s0, s1, s2, s3, s4, s5, s6, s7, s8, s9, s10, s11, s12, s13, s14, s15, s16, s17, s18, s19, s20⟩
         go_simp
         with_reducible rfl
        rotate_left
        ·simp only [Act.put, List.setIfInBounds_toArray, List.set_cons_zero, List.set_cons_succ, i64_w, i32_w]
         rfl
        refine take_ (i := 21) (N := some 65) (v := ?_) (a' := ?_) #[true, true, true, true, true, true, true, true, true, true, true, true, true, true, true, true, true, true, true, true, true, true, true, true, true, false, false, false, false, true, true, true, false, false, false, false] rfl rfl (take_ofW HT_.out HW_.out (by kernel_rfl)) (fun _ _ _ h => h) (Or.inl ⟨by rfl, ?_⟩) hHeld ?_ ?_
        rotate_left
        ·rintro w' ⟨s0, s1, s2, s3, s4, s5, s6, s7, s8, s9, s10, s11, s12, s13, s14, s15, s16, s17, s18, s19, s20⟩
         go_simp
         with_reducible rfl
        rotate_left
        ·simp only [Act.put, List.setIfInBounds_toArray, List.set_cons_zero, List.set_cons_succ, i64_w, i32_w]
         rfl
        refine take_ (i := 25) (N := some 69) (v := ?_) (a' := ?_) #[true, true, true, true, true, true, true, true, true, true, true, true, true, true, true, true, true, true, true, true, true, true, true, true, true, true, false, false, false, true, true, true, false, false, false, false] rfl rfl (take_ofW HT_.out HW_.out (by kernel_rfl)) (fun _ _ _ h => h) (Or.inl ⟨by rfl, ?_⟩) hHeld ?_ ?_
        rotate_left
        ·rintro w' ⟨s0, s1, s2, s3, s4, s5, s6, s7, s8, s9, s10, s11, s12, s13, s14, s15, s16, s17, s18, s19, s20⟩
         go_simp
         with_reducible rfl
        rotate_left
        ·simp only [Act.put, List.setIfInBounds_toArray, List.set_cons_zero, List.set_cons_succ, i64_w, i32_w]
         rfl
        refine take_ (i := 27) (N := some 71) (v := ?_) (a' := ?_) #[true, true, true, true, true, true, true, true, true, true, true, true, true, true, true, true, true, true, true, true, true, true, true, true, true, true, false, true, false, true, true, true, false, false, false, false] rfl rfl (take_ofW HT_.out HW_.out (by kernel_rfl)) (fun _ _ _ h => h) (Or.inl ⟨by rfl, ?_⟩) hHeld ?_ ?_
        rotate_left
        ·rintro w' ⟨s0, s1, s2, s3, s4, s5, s6, s7, s8, s9, s10, s11, s12, s13, s14, s15, s16, s17, s18, s19, s20⟩
         go_simp
         with_reducible rfl
        rotate_left
        ·simp only [Act.put, List.setIfInBounds_toArray, List.set_cons_zero, List.set_cons_succ, i64_w, i32_w]
         rfl
        refine take_ (i := 28) (N := some 72) (v := ?_) (a' := ?_) #[true, true, true, true, true, true, true, true, true, true, true, true, true, true, true, true, true, true, true, true, true, true, true, true, true, true, false, true, true, true, true, true, false, false, false, false] rfl rfl (take_ofW HT_.out HW_.out (by kernel_rfl)) (fun _ _ _ h => h) (Or.inl ⟨by rfl, ?_⟩) hHeld ?_ ?_
        rotate_left
        ·rintro w' ⟨s0, s1, s2, s3, s4, s5, s6, s7, s8, s9, s10, s11, s12, s13, s14, s15, s16, s17, s18, s19, s20⟩
         go_simp
         with_reducible rfl
        rotate_left
        ·simp only [Act.put, List.setIfInBounds_toArray, List.set_cons_zero, List.set_cons_succ, i64_w, i32_w]
         rfl
        refine take_ (i := 32) (N := some 76) (v := ?_) (a' := ?_) #[true, true, true, true, true, true, true, true, true, true, true, true, true, true, true, true, true, true, true, true, true, true, true, true, true, true, false, true, true, true, true, true, true, false, false, false] rfl rfl (take_ofW HT_.out HW_.out (by kernel_rfl)) (fun _ _ _ h => h) (Or.inl ⟨by rfl, ?_⟩) hHeld ?_ ?_
        rotate_left
        ·rintro w' ⟨s0, s1, s2, s3, s4, s5, s6, s7, s8, s9, s10, s11, s12, s13, s14, s15, s16, s17, s18, s19, s20⟩
         go_simp
         with_reducible rfl
        rotate_left
        ·simp only [Act.put, List.setIfInBounds_toArray, List.set_cons_zero, List.set_cons_succ, i64_w, i32_w]
         rfl
        refine one_ (i := 26) (N := some 70) #[true, true, true, true, true, true, true, true, true, true, true, true, true, true, true, true, true, true, true, true, true, true, true, true, true, true, true, true, true, true, true, true, true, false, false, false] rfl rfl (one_of HT_.out (by kernel_rfl)) (by decide) (fun K hK => ?_)
        refine goes_ Try.func16 (by kernel_rfl) rfl #[.agg #[.string t199, .int .i64 t200, .int .i64 t201, .int .i64 t202, .slice Ao24 t203.length co24, .slice Ao25 t206.length co25, .bool t209], .agg #[.string t210, .int .i64 t211, .int .i64 t212, .slice Ao27 t213.length co27, .slice Ao28 t216.length co28, .bool t219], .agg #[.int .i64 ((rd_T25 y226 x16_1).f0), .int .i64 ((rd_T25 y226 x16_1).f1)], .slice none 0 0] (by rfl) rfl rfl (by (try simp only [List.map_toArray, List.map_cons, List.map_nil]); first | done | rfl) ?_
        refine (fit_Why.calls k1 t199 t200 t201 t202 _ _ t203 _ _ t206 t209 t210 t211 t212 _ _ t213 _ _ t216 t219 ((rd_T25 y226 x16_1).f0) ((rd_T25 y226 x16_1).f1) _ _ ([] : List (S41)) t240 _ ?side1 ?side2 ?side3 ?side4 ?side5 ?side6 ?side7 ?side8 ?side9 ?side10 A40.out).mono ?_
        (case side1 => repeat (first | exact (Kd.R_reads' HO_221004.out).2.2 | (with_reducible refine Kd.C_alloc ?_ _) | (with_reducible refine Kd.C_drewN ?_ _) | (with_reducible refine Kd.C_drew ?_)))
        (case side2 => exact (Kd.R_reads' HO_221004.out).2.1)
        (case side3 => repeat (first | exact (Kd.R_reads' HO_221005.out).2.2 | (with_reducible refine Kd.C_alloc ?_ _) | (with_reducible refine Kd.C_drewN ?_ _) | (with_reducible refine Kd.C_drew ?_)))
        (case side4 => exact (Kd.R_reads' HO_221005.out).2.1)
        (case side5 => repeat (first | exact (Kd.R_reads' HO_222003.out).2.2 | (with_reducible refine Kd.C_alloc ?_ _) | (with_reducible refine Kd.C_drewN ?_ _) | (with_reducible refine Kd.C_drew ?_)))
        (case side6 => exact (Kd.R_reads' HO_222003.out).2.1)
        (case side7 => repeat (first | exact (Kd.R_reads' HO_222004.out).2.2 | (with_reducible refine Kd.C_alloc ?_ _) | (with_reducible refine Kd.C_drewN ?_ _) | (with_reducible refine Kd.C_drew ?_)))
        (case side8 => exact (Kd.R_reads' HO_222004.out).2.1)
        (case side9 => exact Kd.C_nil _ _)
        (case side10 => exact Nat.le_refl _)
        rintro e w51 ⟨rfl, hb⟩
        have HS13_ := (hb.cell (World.block_lt_of_cell? _ _ (hHeld.2.2.2.2.2.2.2.2.2.2.2.2.2.1))).trans (hHeld.2.2.2.2.2.2.2.2.2.2.2.2.2.1)
        have HS14_ := (hb.cell (World.block_lt_of_cell? _ _ (hHeld.2.2.2.2.2.2.2.2.2.2.2.2.2.2.1))).trans (hHeld.2.2.2.2.2.2.2.2.2.2.2.2.2.2.1)
        have HS15_ := (hb.cell (World.block_lt_of_cell? _ _ (hHeld.2.2.2.2.2.2.2.2.2.2.2.2.2.2.2.1))).trans (hHeld.2.2.2.2.2.2.2.2.2.2.2.2.2.2.2.1)
        have HS16_ := (hb.cell (World.block_lt_of_cell? _ _ (hHeld.2.2.2.2.2.2.2.2.2.2.2.2.2.2.2.2.1))).trans (hHeld.2.2.2.2.2.2.2.2.2.2.2.2.2.2.2.2.1)
        have HS17_ := (hb.cell (World.block_lt_of_cell? _ _ (hHeld.2.2.2.2.2.2.2.2.2.2.2.2.2.2.2.2.2.1))).trans (hHeld.2.2.2.2.2.2.2.2.2.2.2.2.2.2.2.2.2.1)
        have HS18_ := (hb.cell (World.block_lt_of_cell? _ _ (hHeld.2.2.2.2.2.2.2.2.2.2.2.2.2.2.2.2.2.2.1))).trans (hHeld.2.2.2.2.2.2.2.2.2.2.2.2.2.2.2.2.2.2.1)
        have HS19_ := (hb.cell (World.block_lt_of_cell? _ _ (hHeld.2.2.2.2.2.2.2.2.2.2.2.2.2.2.2.2.2.2.2.1))).trans (hHeld.2.2.2.2.2.2.2.2.2.2.2.2.2.2.2.2.2.2.2.1)
        have HS20_ := (hb.cell (World.block_lt_of_cell? _ _ (hHeld.2.2.2.2.2.2.2.2.2.2.2.2.2.2.2.2.2.2.2.2))).trans (hHeld.2.2.2.2.2.2.2.2.2.2.2.2.2.2.2.2.2.2.2.2)
        refine ⟨_, rfl, ?_⟩
        have n0_ := Aside0.mk (Kd.R_below (by (with_reducible repeat (first | apply Kd.R_alloc | apply Kd.R_drewN | apply Kd.R_drew)); exact HO_15.out) hb)
        have n1_ := Aside0.mk (Kd.R_below (by (with_reducible repeat (first | apply Kd.R_alloc | apply Kd.R_drewN | apply Kd.R_drew)); exact HO_221004.out) hb)
        have n2_ := Aside0.mk (Kd.R_below (by (with_reducible repeat (first | apply Kd.R_alloc | apply Kd.R_drewN | apply Kd.R_drew)); exact HO_221005.out) hb)
        have n3_ := Aside0.mk (Kd.R_below (by (with_reducible repeat (first | apply Kd.R_alloc | apply Kd.R_drewN | apply Kd.R_drew)); exact HO_222003.out) hb)
        have n4_ := Aside0.mk (Kd.R_below (by (with_reducible repeat (first | apply Kd.R_alloc | apply Kd.R_drewN | apply Kd.R_drew)); exact HO_222004.out) hb)
        have n5_ := Aside0.mk (Kd.R_below (by (with_reducible repeat (first | apply Kd.R_alloc | apply Kd.R_drewN | apply Kd.R_drew)); exact HO232.out) hb)
        have n6_ := Aside0.mk (Kd.R_below (by (with_reducible repeat (first | apply Kd.R_alloc | apply Kd.R_drewN | apply Kd.R_drew)); exact HO237.out) hb)
        have n7_ := Aside0.mk (blk_below (g := gb220) (o := .cells #[.string t199, .int .i64 t200, .int .i64 t201, .int .i64 t202, .slice Ao24 t203.length co24, .slice Ao25 t206.length co25, .bool t209] 28 (0, 0)) (by (with_reducible repeat (first | refine blk_drewN ?_ _ | refine blk_drew ?_ | refine blk_alloc ?_ _)); exact BK220.out) hb)
        have n8_ := Aside0.mk (blk_below (g := gb221) (o := .cells #[.string t210, .int .i64 t211, .int .i64 t212, .slice Ao27 t213.length co27, .slice Ao28 t216.length co28, .bool t219] 31 (0, 0)) (by (with_reducible repeat (first | refine blk_drewN ?_ _ | refine blk_drew ?_ | refine blk_alloc ?_ _)); exact BK221.out) hb)
        have n9_ := Aside0.mk (below_step (by repeat (first | (with_reducible first | exact HB.out | apply below_alloc | apply pw_below_drewN | apply below_drew1 | refine below_set ?_ GE220.out | refine below_set ?_ GE221.out) | exact HB.out)) hb)
        clear HO_15
        clear HO_221004
        clear HO_221005
        clear HO_222003
        clear HO_222004
        clear HO232
        clear HO237
        clear BK220
        clear BK221
        clear HB
        have HO_15 := n0_
        have HO_221004 := n1_
        have HO_221005 := n2_
        have HO_222003 := n3_
        have HO_222004 := n4_
        have HO232 := n5_
        have HO237 := n6_
        have BK220 := n7_
        have BK221 := n8_
        have HB := n9_
        clear n0_ n1_ n2_ n3_ n4_ n5_ n6_ n7_ n8_ n9_
        (try clear hb)
        (try clear hb2)
        (try clear hk)
        (try clear hi)
        refine hK.out _ _ ⟨(blk_cell BK220.out 0).trans rfl, (blk_cell BK220.out 1).trans rfl, (blk_cell BK220.out 2).trans rfl, (blk_cell BK220.out 3).trans rfl, (blk_cell BK220.out 4).trans rfl, (blk_cell BK220.out 5).trans rfl, (blk_cell BK220.out 6).trans rfl, (blk_cell BK221.out 0).trans rfl, (blk_cell BK221.out 1).trans rfl, (blk_cell BK221.out 2).trans rfl, (blk_cell BK221.out 3).trans rfl, (blk_cell BK221.out 4).trans rfl, (blk_cell BK221.out 5).trans rfl, HS13_, HS14_, HS15_, HS16_, HS17_, HS18_, HS19_, HS20_⟩ (fun hHeld => ?_)
        clear hK K
        refine norm_ (a' := ?_) ?_ ?_
        rotate_left
        ·show Act.put _ (some 70) _ = _
         simp only [Act.put, List.setIfInBounds_toArray, List.set_cons_zero, List.set_cons_succ, i64_w, i32_w]
         rfl
        refine one_ (i := 33) (N := some 77) #[true, true, true, true, true, true, true, true, true, true, true, true, true, true, true, true, true, true, true, true, true, true, true, true, true, true, true, true, true, true, true, true, true, true, false, false] rfl rfl (one_of HT_.out (by kernel_rfl)) (by decide) (fun K hK => ?_)
        refine goes_ Try.func18 (by kernel_rfl) rfl #[.agg #[.string t199, .int .i64 t200, .int .i64 t201, .int .i64 t202, .slice Ao24 t203.length co24, .slice Ao25 t206.length co25, .bool t209], .agg #[.string t210, .int .i64 t211, .int .i64 t212, .slice Ao27 t213.length co27, .slice Ao28 t216.length co28, .bool t219], .agg #[.int .i64 ((rd_T25 y226 x16_1).f0), .int .i64 ((rd_T25 y226 x16_1).f1)], .slice none 0 0] (by rfl) rfl rfl (by (try simp only [List.map_toArray, List.map_cons, List.map_nil]); first | done | rfl) ?_
        refine (joineryref5_Why.calls k1 t199 t200 t201 t202 _ _ t203 _ _ t206 t209 t210 t211 t212 _ _ t213 _ _ t216 t219 ((rd_T25 y226 x16_1).f0) ((rd_T25 y226 x16_1).f1) _ _ ([] : List (S41)) t242 _ ?side1 ?side2 ?side3 ?side4 ?side5 ?side6 ?side7 ?side8 ?side9 ?side10 A41.out).mono ?_
        (case side1 => repeat (first | exact (Kd.R_reads' HO_221004.out).2.2 | (with_reducible refine Kd.C_alloc ?_ _) | (with_reducible refine Kd.C_drewN ?_ _) | (with_reducible refine Kd.C_drew ?_)))
        (case side2 => exact (Kd.R_reads' HO_221004.out).2.1)
        (case side3 => repeat (first | exact (Kd.R_reads' HO_221005.out).2.2 | (with_reducible refine Kd.C_alloc ?_ _) | (with_reducible refine Kd.C_drewN ?_ _) | (with_reducible refine Kd.C_drew ?_)))
        (case side4 => exact (Kd.R_reads' HO_221005.out).2.1)
        (case side5 => repeat (first | exact (Kd.R_reads' HO_222003.out).2.2 | (with_reducible refine Kd.C_alloc ?_ _) | (with_reducible refine Kd.C_drewN ?_ _) | (with_reducible refine Kd.C_drew ?_)))
        (case side6 => exact (Kd.R_reads' HO_222003.out).2.1)
        (case side7 => repeat (first | exact (Kd.R_reads' HO_222004.out).2.2 | (with_reducible refine Kd.C_alloc ?_ _) | (with_reducible refine Kd.C_drewN ?_ _) | (with_reducible refine Kd.C_drew ?_)))
        (case side8 => exact (Kd.R_reads' HO_222004.out).2.1)
        (case side9 => exact Kd.C_nil _ _)
        (case side10 => exact Nat.le_refl _)
        rintro e w52 ⟨rfl, hb⟩
        have HS13_ := (hb.cell (World.block_lt_of_cell? _ _ (hHeld.2.2.2.2.2.2.2.2.2.2.2.2.2.1))).trans (hHeld.2.2.2.2.2.2.2.2.2.2.2.2.2.1)
        have HS14_ := (hb.cell (World.block_lt_of_cell? _ _ (hHeld.2.2.2.2.2.2.2.2.2.2.2.2.2.2.1))).trans (hHeld.2.2.2.2.2.2.2.2.2.2.2.2.2.2.1)
        have HS15_ := (hb.cell (World.block_lt_of_cell? _ _ (hHeld.2.2.2.2.2.2.2.2.2.2.2.2.2.2.2.1))).trans (hHeld.2.2.2.2.2.2.2.2.2.2.2.2.2.2.2.1)
        have HS16_ := (hb.cell (World.block_lt_of_cell? _ _ (hHeld.2.2.2.2.2.2.2.2.2.2.2.2.2.2.2.2.1))).trans (hHeld.2.2.2.2.2.2.2.2.2.2.2.2.2.2.2.2.1)
        have HS17_ := (hb.cell (World.block_lt_of_cell? _ _ (hHeld.2.2.2.2.2.2.2.2.2.2.2.2.2.2.2.2.2.1))).trans (hHeld.2.2.2.2.2.2.2.2.2.2.2.2.2.2.2.2.2.1)
        have HS18_ := (hb.cell (World.block_lt_of_cell? _ _ (hHeld.2.2.2.2.2.2.2.2.2.2.2.2.2.2.2.2.2.2.1))).trans (hHeld.2.2.2.2.2.2.2.2.2.2.2.2.2.2.2.2.2.2.1)
        have HS19_ := (hb.cell (World.block_lt_of_cell? _ _ (hHeld.2.2.2.2.2.2.2.2.2.2.2.2.2.2.2.2.2.2.2.1))).trans (hHeld.2.2.2.2.2.2.2.2.2.2.2.2.2.2.2.2.2.2.2.1)
        have HS20_ := (hb.cell (World.block_lt_of_cell? _ _ (hHeld.2.2.2.2.2.2.2.2.2.2.2.2.2.2.2.2.2.2.2.2))).trans (hHeld.2.2.2.2.2.2.2.2.2.2.2.2.2.2.2.2.2.2.2.2)
        refine ⟨_, rfl, ?_⟩
        have n0_ := Aside0.mk (Kd.R_below (by (with_reducible repeat (first | apply Kd.R_alloc | apply Kd.R_drewN | apply Kd.R_drew)); exact HO_15.out) hb)
        have n1_ := Aside0.mk (Kd.R_below (by (with_reducible repeat (first | apply Kd.R_alloc | apply Kd.R_drewN | apply Kd.R_drew)); exact HO_221004.out) hb)
        have n2_ := Aside0.mk (Kd.R_below (by (with_reducible repeat (first | apply Kd.R_alloc | apply Kd.R_drewN | apply Kd.R_drew)); exact HO_221005.out) hb)
        have n3_ := Aside0.mk (Kd.R_below (by (with_reducible repeat (first | apply Kd.R_alloc | apply Kd.R_drewN | apply Kd.R_drew)); exact HO_222003.out) hb)
        have n4_ := Aside0.mk (Kd.R_below (by (with_reducible repeat (first | apply Kd.R_alloc | apply Kd.R_drewN | apply Kd.R_drew)); exact HO_222004.out) hb)
        have n5_ := Aside0.mk (Kd.R_below (by (with_reducible repeat (first | apply Kd.R_alloc | apply Kd.R_drewN | apply Kd.R_drew)); exact HO232.out) hb)
        have n6_ := Aside0.mk (Kd.R_below (by (with_reducible repeat (first | apply Kd.R_alloc | apply Kd.R_drewN | apply Kd.R_drew)); exact HO237.out) hb)
        have n7_ := Aside0.mk (blk_below (g := gb220) (o := .cells #[.string t199, .int .i64 t200, .int .i64 t201, .int .i64 t202, .slice Ao24 t203.length co24, .slice Ao25 t206.length co25, .bool t209] 28 (0, 0)) (by (with_reducible repeat (first | refine blk_drewN ?_ _ | refine blk_drew ?_ | refine blk_alloc ?_ _)); exact BK220.out) hb)
        have n8_ := Aside0.mk (blk_below (g := gb221) (o := .cells #[.string t210, .int .i64 t211, .int .i64 t212, .slice Ao27 t213.length co27, .slice Ao28 t216.length co28, .bool t219] 31 (0, 0)) (by (with_reducible repeat (first | refine blk_drewN ?_ _ | refine blk_drew ?_ | refine blk_alloc ?_ _)); exact BK221.out) hb)
        have n9_ := Aside0.mk (below_step (by repeat (first | (with_reducible first | exact HB.out | apply below_alloc | apply pw_below_drewN | apply below_drew1 | refine below_set ?_ GE220.out | refine below_set ?_ GE221.out) | exact HB.out)) hb)
        clear HO_15
        clear HO_221004
        clear HO_221005
        clear HO_222003
        clear HO_222004
        clear HO232
        clear HO237
        clear BK220
        clear BK221
        clear HB
        have HO_15 := n0_
        have HO_221004 := n1_
        have HO_221005 := n2_
        have HO_222003 := n3_
        have HO_222004 := n4_
        have HO232 := n5_
        have HO237 := n6_
        have BK220 := n7_
        have BK221 := n8_
        have HB := n9_
        clear n0_ n1_ n2_ n3_ n4_ n5_ n6_ n7_ n8_ n9_
        (try clear hb)
        (try clear hb2)
        (try clear hk)
        (try clear hi)
        refine hK.out _ _ ⟨(blk_cell BK220.out 0).trans rfl, (blk_cell BK220.out 1).trans rfl, (blk_cell BK220.out 2).trans rfl, (blk_cell BK220.out 3).trans rfl, (blk_cell BK220.out 4).trans rfl, (blk_cell BK220.out 5).trans rfl, (blk_cell BK220.out 6).trans rfl, (blk_cell BK221.out 0).trans rfl, (blk_cell BK221.out 1).trans rfl, (blk_cell BK221.out 2).trans rfl, (blk_cell BK221.out 3).trans rfl, (blk_cell BK221.out 4).trans rfl, (blk_cell BK221.out 5).trans rfl, HS13_, HS14_, HS15_, HS16_, HS17_, HS18_, HS19_, HS20_⟩ (fun hHeld => ?_)
        clear hK K
        refine norm_ (a' := ?_) ?_ ?_
        rotate_left
        ·show Act.put _ (some 77) _ = _
         simp only [Act.put, List.setIfInBounds_toArray, List.set_cons_zero, List.set_cons_succ, i64_w, i32_w]
         rfl
        refine pure_ (i := 34) (N := some 78) (v := ?_) (a' := ?_) #[true, true, true, true, true, true, true, true, true, true, true, true, true, true, true, true, true, true, true, true, true, true, true, true, true, true, true, true, true, true, true, true, true, true, true, false] rfl rfl (any_of HT_.out (by kernel_rfl)) (fun _ _ _ h => h) (Or.inl ⟨by rfl, ?_⟩) ?_ ?_
        rotate_left
        ·intro w'
         go_simp
         with_reducible rfl
        rotate_left
        ·simp only [Act.put, List.setIfInBounds_toArray, List.set_cons_zero, List.set_cons_succ, i64_w, i32_w]
         rfl
        refine pure_ (i := 35) (N := some 79) (v := ?_) (a' := ?_) #[true, true, true, true, true, true, true, true, true, true, true, true, true, true, true, true, true, true, true, true, true, true, true, true, true, true, true, true, true, true, true, true, true, true, true, true] rfl rfl (any_of HT_.out (by kernel_rfl)) (fun _ _ _ h => h) (Or.inl ⟨by rfl, ?_⟩) ?_ ?_
        rotate_left
        ·intro w'
         go_simp
         with_reducible rfl
        rotate_left
        ·simp only [Act.put, List.setIfInBounds_toArray, List.set_cons_zero, List.set_cons_succ, i64_w, i32_w]
         rfl
        refine done_ (done_of HT_.out (by kernel_rfl)) ?_
        try go_wp2
        go_roundg k1
        case measure => have := HK1.out; omega
        case rel => exact ⟨(wrap64 (x16_1 + 1)), (by first | rfl | (simp [*]; done)), H', ⟨by have := HK1.out; omega⟩, ⟨by (with_reducible repeat (first | apply Kd.R_alloc | apply Kd.R_drewN | apply Kd.R_drew)); exact HO_15.out⟩, ⟨by (with_reducible repeat (first | apply Kd.R_alloc | apply Kd.R_drewN | apply Kd.R_drew)); exact HO_221004.out⟩, ⟨by (with_reducible repeat (first | apply Kd.R_alloc | apply Kd.R_drewN | apply Kd.R_drew)); exact HO_221005.out⟩, ⟨by (with_reducible repeat (first | apply Kd.R_alloc | apply Kd.R_drewN | apply Kd.R_drew)); exact HO_222003.out⟩, ⟨by (with_reducible repeat (first | apply Kd.R_alloc | apply Kd.R_drewN | apply Kd.R_drew)); exact HO_222004.out⟩, ⟨by (with_reducible repeat (first | refine blk_drewN ?_ _ | refine blk_drew ?_ | refine blk_alloc ?_ _)); exact BK220.out⟩, ⟨by (with_reducible repeat (first | refine blk_drewN ?_ _ | refine blk_drew ?_ | refine blk_alloc ?_ _)); exact BK221.out⟩, ⟨by repeat (first | (with_reducible first | exact HB.out | apply below_alloc | apply pw_below_drewN | apply below_drew1 | refine below_set ?_ GE220.out | refine below_set ?_ GE221.out) | exact HB.out)⟩⟩
       ·rw [if_neg c42] at H
        have c42b0 : (t240 == t242) = false := beq_eq_false_iff_ne.mpr c42
        have c42b1 : (t240 != t242) = true := bne_iff_ne.mpr c42
        obtain rfl := Option.some.inj H
        exact absurd hT_.out (by simp)
      ·rw [if_neg c39] at H
       have c39b0 : (t233 == t238) = false := beq_eq_false_iff_ne.mpr c39
       have c39b1 : (t233 != t238) = true := bne_iff_ne.mpr c39
       obtain rfl := Option.some.inj H
       exact absurd hT_.out (by simp)
     ·rw [if_neg c34] at H
      exact absurd H (by simp)
    ·rw [if_neg c33] at H
     have c33b0 : decide (x16_1 < (y226.length : Int)) = false := decide_eq_false c33
     clear c33
     obtain rfl := Option.some.inj H
     obtain ⟨Ao53, co53, eo53⟩ := Kd.R_slice HO_15.out
     subst eo53
     go_wp2
     go_ret
     exact ⟨by first | rfl | (simp [errW_none, errW_some] <;> rfl) | (simp only [← hji14, ← hji16]; first | rfl | (simp [errW_none, errW_some] <;> rfl)) | (simp [*, errW_none, errW_some] <;> rfl), by repeat (first | (with_reducible first | exact HB.out | apply below_alloc | apply pw_below_drewN | apply below_drew1 | refine below_set ?_ GE220.out | refine below_set ?_ GE221.out) | exact HB.out)⟩
 ·replace c8 := Bool.eq_false_iff.mpr c8
  subst c8
  have H1 : (some false) = some r := by rw [if_neg (show ¬ (false = true) by decide)] at H; exact H
  clear H
  have H := H1
  clear H1
  obtain rfl := Option.some.inj H
  exact absurd hT_.out (by simp)

/-- THE ONE PURE STATEMENT of joinerylaw5_FitWhy: yours. -/
def joinerylaw5_FitWhy.Pure : Prop := ∀ (a0 : Int) (a1 : Int) (a2 : Int) (a3 : Int) (a4 : Int) (l5 : List Int), (Lit.int .i64 a0).wf = true → (Lit.int .i64 a1).wf = true → (Lit.int .i64 a2).wf = true → (Lit.int .i64 a3).wf = true → (Lit.int .i64 a4).wf = true → l5.length ≤ maxLen → l5.length * 8 ≤ 140737488351232 → (∀ x ∈ l5, (Lit.int .i64 x).wf = true) → ∃ k, joinerylaw5_FitWhy.f k a0 a1 a2 a3 a4 l5 = some true
theorem joinerylaw5_FitWhy.walk (P : joinerylaw5_FitWhy.Pure) (a0 : Int) (a1 : Int) (a2 : Int) (a3 : Int) (a4 : Int) (a5 : Option Addr) (len5 cap5 : Nat) (z5 : List Int) (w : World) (w0 : (Lit.int .i64 a0).wf = true) (w1 : (Lit.int .i64 a1).wf = true) (w2 : (Lit.int .i64 a2).wf = true) (w3 : (Lit.int .i64 a3).wf = true) (w4 : (Lit.int .i64 a4).wf = true) (w5 : (a5 = none ∧ len5 = 0 ∧ cap5 = 0 ∧ z5 = []) ∨ ∃ x, a5 = some x ∧ len5 ≤ cap5 ∧ cap5 ≤ maxLen ∧ z5.length = cap5 ∧ (∀ i, i < z5.length → w.cell? (x.add i) = some (.int .i64 (z5.getD i 0))) ∧ ∀ n ∈ z5, (Lit.int .i64 n).wf = true) (y5 : len5 * 8 ≤ 140737488351232) :
  Calls Try.prog 3 #[.int .i64 a0, .int .i64 a1, .int .i64 a2, .int .i64 a3, .int .i64 a4, .slice a5 len5 cap5] w fun e w' => e = .returned (.bool true) ∧ Below w.heap.size w w' := by
 obtain ⟨l5, rfl, hr5, hm5, hw5, hc5⟩ := ReadsInt.ofRowC w5
 obtain ⟨k, h⟩ := P a0 a1 a2 a3 a4 l5 w0 w1 w2 w3 w4 hm5 y5 hw5
 refine (joinerylaw5_FitWhy.calls k a0 a1 a2 a3 a4 _ _ l5 true w (Kd.C_of_reads (d := (0 : Int)) (h1 := fun _ => rfl) hr5) hc5 ⟨rfl⟩ h).mono ?_
 rintro e w' ⟨rfl, hd⟩
 exact ⟨rfl, hd⟩

end Go.Proofs.Ytciedbaeenhgkaa.Q
