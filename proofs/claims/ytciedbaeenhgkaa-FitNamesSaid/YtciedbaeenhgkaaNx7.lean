-- Printed by wip/tools/gprint.py.
import Derived.Test.YtciedbaeenhgkaaNx0
import Derived.Test.YtciedbaeenhgkaaNx2
import Derived.Test.YtciedbaeenhgkaaNx4
import Derived.Test.YtciedbaeenhgkaaNx5
import Derived.Test.YtciedbaeenhgkaaNx6
namespace Go.Proofs.Ytciedbaeenhgkaa.N
open Go.RowKit Go.Proofs.Ytciedbaeenhgkaa Go.Proofs.Ytciedbaeenhgkaa.Base Go.Proofs.Ytciedbaeenhgkaa.BaseM Go.Proofs.Ytciedbaeenhgkaa.BaseR Go.Proofs.YtciedbaeenhgkaaW.PrintWords Go.Proofs.YtciedbaeenhgkaaW.PrintLast Go.Proofs.YtciedbaeenhgkaaW.PrintMore
attribute [local go_sem] fwd_normal fwd_ret fwd_exit fwd_panic max2_int min2_int max_two min_two max_three min_three max_four min_four   -- for this text's walks alone
set_option linter.unusedVariables false
set_option linter.unusedSimpArgs false

/-! ### joinerylaw5_FitNames: function 10 -/
def joinerylaw5_FitNames.f (k : Nat) (a0 : Int) (a1 : Int) (a2 : Int) (a3 : Int) (a4 : Int) : Option (Bool) := (joinerylaw5_known.f k).bind fun t184 => (if t184 = true then ((joinerylaw3_Pod.f k 0 a0 4).bind fun bt185 => ((joinerylaw3_Node.f k a1 a2).bind fun bt196 => ((joinerylaw2_Name.f a3).bind fun t210 => ((joinerylaw2_Name.f (wrap64 (Int.tdiv a3 8))).bind fun t211 => ((joinerylaw5_within.f a4 12).bind fun t212 => ((some (([(⟨(⟨#[113]⟩ : ByteArray), (⟨#[110]⟩ : ByteArray), (⟨0, 0⟩ : S25), false⟩ : S41)] : List (S41)) : List (S41))).bind fun y214 => ((fit_Why.f k bt185.1 bt185.2.1 bt185.2.2.1 bt185.2.2.2.1 bt185.2.2.2.2.1 bt185.2.2.2.2.2.1 bt185.2.2.2.2.2.2 bt196.1 bt196.2.1 bt196.2.2.1 bt196.2.2.2.1 bt196.2.2.2.2.1 bt196.2.2.2.2.2 t212 0 y214).bind fun t220 => ((fit_Why.f k t210 4 bt185.2.2.1 bt185.2.2.2.1 bt185.2.2.2.2.1 bt185.2.2.2.2.2.1 bt185.2.2.2.2.2.2 t211 bt196.2.1 bt196.2.2.1 bt196.2.2.2.1 bt196.2.2.2.2.1 bt196.2.2.2.2.2 t212 0 (([(⟨(⟨#[114]⟩ : ByteArray), (⟨#[109]⟩ : ByteArray), (⟨99, 0⟩ : S25), false⟩ : S41)] : List (S41)))).bind fun t221 => (if t220 = t221 then ((fit_Why.f k bt185.1 bt185.2.1 bt185.2.2.1 bt185.2.2.2.1 bt185.2.2.2.2.1 bt185.2.2.2.2.2.1 bt185.2.2.2.2.2.2 bt196.1 bt196.2.1 bt196.2.2.1 bt196.2.2.2.1 bt196.2.2.2.2.1 bt196.2.2.2.2.2 t212 0 ([] : List (S41))).bind fun t222 => ((fit_Why.f k t210 4 bt185.2.2.1 bt185.2.2.2.1 bt185.2.2.2.2.1 bt185.2.2.2.2.2.1 bt185.2.2.2.2.2.2 t211 bt196.2.1 bt196.2.2.1 bt196.2.2.2.1 bt196.2.2.2.2.1 bt196.2.2.2.2.2 t212 0 ([] : List (S41))).bind fun t223 => (if t222 = t223 then ((fit_Why.f k bt185.1 bt185.2.1 bt185.2.2.1 bt185.2.2.2.1 bt185.2.2.2.2.1 bt185.2.2.2.2.2.1 bt185.2.2.2.2.2.2 bt196.1 bt196.2.1 bt196.2.2.1 bt196.2.2.2.1 bt196.2.2.2.2.1 bt196.2.2.2.2.2 t212 0 y214).bind fun t224 => ((joineryref5_Why.f k bt185.1 bt185.2.1 bt185.2.2.1 bt185.2.2.2.1 bt185.2.2.2.2.1 bt185.2.2.2.2.2.1 bt185.2.2.2.2.2.2 bt196.1 bt196.2.1 bt196.2.2.1 bt196.2.2.2.1 bt196.2.2.2.2.1 bt196.2.2.2.2.2 t212 0 y214).bind fun t225 => (some (t224 == t225)))) else (some false)))) else (some false)))))))))) else (some false))
def joinerylaw5_FitNames.T8 : Bool × List (List Nat × List Nat) := (true, [([], []), ([], []), ([], []), ([], []), ([0, 1, 2, 3], [0, 1, 2, 3]), ([], []), ([], []), ([], []), ([], []), ([5, 6, 7, 8, 4], [5, 6, 7, 8]), ([4, 9], [4, 9]), ([10, 9], [10]), ([11], [11]), ([11], [11]), ([11], [11]), ([12, 13, 14, 11, 11], [11, 12, 13, 14]), ([11], [11]), ([11], [11]), ([11], [11]), ([16, 17, 18, 15, 11], [11, 16, 17, 18]), ([15, 19, 11], [11, 15, 19]), ([11, 20], [11, 20]), ([21, 19], [21]), ([22], [22]), ([22], [22]), ([22], [22]), ([22], [22]), ([23, 24, 25, 26, 22, 22], [22, 23, 24, 25, 26]), ([22], [22]), ([22], [22]), ([22], [22]), ([22], [22]), ([28, 29, 30, 31, 27, 22], [22, 28, 29, 30, 31]), ([27, 32, 22], [22, 27, 32]), ([22, 33], [22, 33]), ([34, 32, 0, 1, 2, 3, 4, 5, 6, 7, 8, 9, 10, 11, 12, 13, 14, 15, 16, 17, 18, 19, 20, 21, 22, 23, 24, 25, 26, 27, 28, 29, 30, 31, 32, 33, 34], [34])])
def joinerylaw5_FitNames.B8 : List Nat := [0, 0, 0, 0, 15, 0, 0, 0, 0, 511, 1023, 2047, 4095, 4095, 4095, 32767, 4095, 4095, 4095, 524287, 1048575, 2097151, 4194303, 8388607, 8388607, 8388607, 8388607, 134217727, 8388607, 8388607, 8388607, 8388607, 4294967295, 8589934591, 17179869183, 34359738367]
theorem joinerylaw5_FitNames.tab8 : rtab .any (opsOf Try.f10 8) = joinerylaw5_FitNames.T8 := by kernel_rfl
theorem joinerylaw5_FitNames.bits8 : waitsOk joinerylaw5_FitNames.T8.2 joinerylaw5_FitNames.B8 = true := by kernel_rfl
set_option maxHeartbeats 8000000 in
set_option maxRecDepth 100000 in
theorem joinerylaw5_FitNames.calls (k : Nat) (a0 : Int) (a1 : Int) (a2 : Int) (a3 : Int) (a4 : Int) (r : Bool) (w : World) (hT_ : Aside0 (r = true)) (h : joinerylaw5_FitNames.f k a0 a1 a2 a3 a4 = some r) :
  Calls Try.prog 10 #[.int .i64 a0, .int .i64 a1, .int .i64 a2, .int .i64 a3, .int .i64 a4] w fun e w' => e = .returned (.bool r) ∧ Below w.heap.size w w' := by
 have hu28 := Try.underlying28
 have hu31 := Try.underlying31
 have hu25 := Try.underlying25
 have hu41 := Try.underlying41
 have HB := Aside0.mk (Below.refl w.heap.size w)
 have H : ((joinerylaw5_known.f k).bind fun t184 => (if t184 = true then ((joinerylaw3_Pod.f k 0 a0 4).bind fun bt185 => ((joinerylaw3_Node.f k a1 a2).bind fun bt196 => ((joinerylaw2_Name.f a3).bind fun t210 => ((joinerylaw2_Name.f (wrap64 (Int.tdiv a3 8))).bind fun t211 => ((joinerylaw5_within.f a4 12).bind fun t212 => ((some (([(⟨(⟨#[113]⟩ : ByteArray), (⟨#[110]⟩ : ByteArray), (⟨0, 0⟩ : S25), false⟩ : S41)] : List (S41)) : List (S41))).bind fun y214 => ((fit_Why.f k bt185.1 bt185.2.1 bt185.2.2.1 bt185.2.2.2.1 bt185.2.2.2.2.1 bt185.2.2.2.2.2.1 bt185.2.2.2.2.2.2 bt196.1 bt196.2.1 bt196.2.2.1 bt196.2.2.2.1 bt196.2.2.2.2.1 bt196.2.2.2.2.2 t212 0 y214).bind fun t220 => ((fit_Why.f k t210 4 bt185.2.2.1 bt185.2.2.2.1 bt185.2.2.2.2.1 bt185.2.2.2.2.2.1 bt185.2.2.2.2.2.2 t211 bt196.2.1 bt196.2.2.1 bt196.2.2.2.1 bt196.2.2.2.2.1 bt196.2.2.2.2.2 t212 0 (([(⟨(⟨#[114]⟩ : ByteArray), (⟨#[109]⟩ : ByteArray), (⟨99, 0⟩ : S25), false⟩ : S41)] : List (S41)))).bind fun t221 => (if t220 = t221 then ((fit_Why.f k bt185.1 bt185.2.1 bt185.2.2.1 bt185.2.2.2.1 bt185.2.2.2.2.1 bt185.2.2.2.2.2.1 bt185.2.2.2.2.2.2 bt196.1 bt196.2.1 bt196.2.2.1 bt196.2.2.2.1 bt196.2.2.2.2.1 bt196.2.2.2.2.2 t212 0 ([] : List (S41))).bind fun t222 => ((fit_Why.f k t210 4 bt185.2.2.1 bt185.2.2.2.1 bt185.2.2.2.2.1 bt185.2.2.2.2.2.1 bt185.2.2.2.2.2.2 t211 bt196.2.1 bt196.2.2.1 bt196.2.2.2.1 bt196.2.2.2.2.1 bt196.2.2.2.2.2 t212 0 ([] : List (S41))).bind fun t223 => (if t222 = t223 then ((fit_Why.f k bt185.1 bt185.2.1 bt185.2.2.1 bt185.2.2.2.1 bt185.2.2.2.2.1 bt185.2.2.2.2.2.1 bt185.2.2.2.2.2.2 bt196.1 bt196.2.1 bt196.2.2.1 bt196.2.2.2.1 bt196.2.2.2.2.1 bt196.2.2.2.2.2 t212 0 y214).bind fun t224 => ((joineryref5_Why.f k bt185.1 bt185.2.1 bt185.2.2.1 bt185.2.2.2.1 bt185.2.2.2.2.1 bt185.2.2.2.2.2.1 bt185.2.2.2.2.2.2 bt196.1 bt196.2.1 bt196.2.2.1 bt196.2.2.2.1 bt196.2.2.2.2.1 bt196.2.2.2.2.2 t212 0 y214).bind fun t225 => (some (t224 == t225)))) else (some false)))) else (some false)))))))))) else (some false))) = some r := h
 clear h
 replace H := Option.bind_eq_some_iff.mp H
 obtain ⟨t184, A60, H⟩ := H
 have A6 := Aside0.mk A60
 clear A60
 by_cases c7 : t184 = true
 ·subst c7
  have H1 : ((joinerylaw3_Pod.f k 0 a0 4).bind fun bt185 => ((joinerylaw3_Node.f k a1 a2).bind fun bt196 => ((joinerylaw2_Name.f a3).bind fun t210 => ((joinerylaw2_Name.f (wrap64 (Int.tdiv a3 8))).bind fun t211 => ((joinerylaw5_within.f a4 12).bind fun t212 => ((some (([(⟨(⟨#[113]⟩ : ByteArray), (⟨#[110]⟩ : ByteArray), (⟨0, 0⟩ : S25), false⟩ : S41)] : List (S41)) : List (S41))).bind fun y214 => ((fit_Why.f k bt185.1 bt185.2.1 bt185.2.2.1 bt185.2.2.2.1 bt185.2.2.2.2.1 bt185.2.2.2.2.2.1 bt185.2.2.2.2.2.2 bt196.1 bt196.2.1 bt196.2.2.1 bt196.2.2.2.1 bt196.2.2.2.2.1 bt196.2.2.2.2.2 t212 0 y214).bind fun t220 => ((fit_Why.f k t210 4 bt185.2.2.1 bt185.2.2.2.1 bt185.2.2.2.2.1 bt185.2.2.2.2.2.1 bt185.2.2.2.2.2.2 t211 bt196.2.1 bt196.2.2.1 bt196.2.2.2.1 bt196.2.2.2.2.1 bt196.2.2.2.2.2 t212 0 (([(⟨(⟨#[114]⟩ : ByteArray), (⟨#[109]⟩ : ByteArray), (⟨99, 0⟩ : S25), false⟩ : S41)] : List (S41)))).bind fun t221 => (if t220 = t221 then ((fit_Why.f k bt185.1 bt185.2.1 bt185.2.2.1 bt185.2.2.2.1 bt185.2.2.2.2.1 bt185.2.2.2.2.2.1 bt185.2.2.2.2.2.2 bt196.1 bt196.2.1 bt196.2.2.1 bt196.2.2.2.1 bt196.2.2.2.2.1 bt196.2.2.2.2.2 t212 0 ([] : List (S41))).bind fun t222 => ((fit_Why.f k t210 4 bt185.2.2.1 bt185.2.2.2.1 bt185.2.2.2.2.1 bt185.2.2.2.2.2.1 bt185.2.2.2.2.2.2 t211 bt196.2.1 bt196.2.2.1 bt196.2.2.2.1 bt196.2.2.2.2.1 bt196.2.2.2.2.2 t212 0 ([] : List (S41))).bind fun t223 => (if t222 = t223 then ((fit_Why.f k bt185.1 bt185.2.1 bt185.2.2.1 bt185.2.2.2.1 bt185.2.2.2.2.1 bt185.2.2.2.2.2.1 bt185.2.2.2.2.2.2 bt196.1 bt196.2.1 bt196.2.2.1 bt196.2.2.2.1 bt196.2.2.2.2.1 bt196.2.2.2.2.2 t212 0 y214).bind fun t224 => ((joineryref5_Why.f k bt185.1 bt185.2.1 bt185.2.2.1 bt185.2.2.2.1 bt185.2.2.2.2.1 bt185.2.2.2.2.2.1 bt185.2.2.2.2.2.2 bt196.1 bt196.2.1 bt196.2.2.1 bt196.2.2.2.1 bt196.2.2.2.2.1 bt196.2.2.2.2.2 t212 0 y214).bind fun t225 => (some (t224 == t225)))) else (some false)))) else (some false)))))))))) = some r := by rw [if_pos rfl] at H; exact H
  clear H
  have H := H1
  clear H1
  replace H := Option.bind_eq_some_iff.mp H
  obtain ⟨⟨t185, t186, t187, t188, t189, t192, t195⟩, A80, H⟩ := H
  have A8 := Aside0.mk A80
  clear A80
  replace H := Option.bind_eq_some_iff.mp H
  obtain ⟨⟨t196, t197, t198, t199, t202, t205⟩, A90, H⟩ := H
  have A9 := Aside0.mk A90
  clear A90
  replace H := Option.bind_eq_some_iff.mp H
  obtain ⟨t210, A100, H⟩ := H
  have A10 := Aside0.mk A100
  clear A100
  replace H := Option.bind_eq_some_iff.mp H
  obtain ⟨t211, A110, H⟩ := H
  have A11 := Aside0.mk A110
  clear A110
  replace H := Option.bind_eq_some_iff.mp H
  obtain ⟨t212, A120, H⟩ := H
  have A12 := Aside0.mk A120
  clear A120
  obtain ⟨y214, hy214⟩ : ∃ y_ : List (S41), y_ = (([(⟨(⟨#[113]⟩ : ByteArray), (⟨#[110]⟩ : ByteArray), (⟨0, 0⟩ : S25), false⟩ : S41)] : List (S41))) := ⟨_, rfl⟩
  replace H : ((fit_Why.f k t185 t186 t187 t188 t189 t192 t195 t196 t197 t198 t199 t202 t205 t212 0 y214).bind fun t220 => ((fit_Why.f k t210 4 t187 t188 t189 t192 t195 t211 t197 t198 t199 t202 t205 t212 0 (([(⟨(⟨#[114]⟩ : ByteArray), (⟨#[109]⟩ : ByteArray), (⟨99, 0⟩ : S25), false⟩ : S41)] : List (S41)))).bind fun t221 => (if t220 = t221 then ((fit_Why.f k t185 t186 t187 t188 t189 t192 t195 t196 t197 t198 t199 t202 t205 t212 0 ([] : List (S41))).bind fun t222 => ((fit_Why.f k t210 4 t187 t188 t189 t192 t195 t211 t197 t198 t199 t202 t205 t212 0 ([] : List (S41))).bind fun t223 => (if t222 = t223 then ((fit_Why.f k t185 t186 t187 t188 t189 t192 t195 t196 t197 t198 t199 t202 t205 t212 0 y214).bind fun t224 => ((joineryref5_Why.f k t185 t186 t187 t188 t189 t192 t195 t196 t197 t198 t199 t202 t205 t212 0 y214).bind fun t225 => (some (t224 == t225)))) else (some false)))) else (some false)))) = some r := by first | (rw [hy214]; with_reducible exact H) | (have H2_ := (Option.bind_some _ _).symm.trans H; rw [hy214]; with_reducible exact H2_) | (have H2_ := (Option.bind_some _ _).symm.trans H; with_reducible exact H2_) | with_reducible exact H | (rw [hy214]; exact H) | exact H
  have Ny214 := Aside0.mk hy214
  clear hy214
  obtain ⟨y217, hy217⟩ : ∃ y_ : List (S41), y_ = (([(⟨(⟨#[114]⟩ : ByteArray), (⟨#[109]⟩ : ByteArray), (⟨99, 0⟩ : S25), false⟩ : S41)] : List (S41))) := ⟨_, rfl⟩
  replace H : ((fit_Why.f k t185 t186 t187 t188 t189 t192 t195 t196 t197 t198 t199 t202 t205 t212 0 y214).bind fun t220 => ((fit_Why.f k t210 4 t187 t188 t189 t192 t195 t211 t197 t198 t199 t202 t205 t212 0 y217).bind fun t221 => (if t220 = t221 then ((fit_Why.f k t185 t186 t187 t188 t189 t192 t195 t196 t197 t198 t199 t202 t205 t212 0 ([] : List (S41))).bind fun t222 => ((fit_Why.f k t210 4 t187 t188 t189 t192 t195 t211 t197 t198 t199 t202 t205 t212 0 ([] : List (S41))).bind fun t223 => (if t222 = t223 then ((fit_Why.f k t185 t186 t187 t188 t189 t192 t195 t196 t197 t198 t199 t202 t205 t212 0 y214).bind fun t224 => ((joineryref5_Why.f k t185 t186 t187 t188 t189 t192 t195 t196 t197 t198 t199 t202 t205 t212 0 y214).bind fun t225 => (some (t224 == t225)))) else (some false)))) else (some false)))) = some r := by first | (rw [hy217]; with_reducible exact H) | (have H2_ := (Option.bind_some _ _).symm.trans H; rw [hy217]; with_reducible exact H2_) | (have H2_ := (Option.bind_some _ _).symm.trans H; with_reducible exact H2_) | with_reducible exact H | (rw [hy217]; exact H) | exact H
  have Ny217 := Aside0.mk hy217
  clear hy217
  replace H := Option.bind_eq_some_iff.mp H
  obtain ⟨t220, A130, H⟩ := H
  have A13 := Aside0.mk A130
  clear A130
  replace H := Option.bind_eq_some_iff.mp H
  obtain ⟨t221, A140, H⟩ := H
  have A14 := Aside0.mk A140
  clear A140
  by_cases c15 : t220 = t221
  ·rw [if_pos c15] at H
   have c15b0 : (t220 == t221) = true := beq_iff_eq.mpr c15
   have c15b1 : (t220 != t221) = false := bne_eq_false_iff_eq.mpr c15
   clear c15
   replace H := Option.bind_eq_some_iff.mp H
   obtain ⟨t222, A160, H⟩ := H
   have A16 := Aside0.mk A160
   clear A160
   replace H := Option.bind_eq_some_iff.mp H
   obtain ⟨t223, A170, H⟩ := H
   have A17 := Aside0.mk A170
   clear A170
   by_cases c18 : t222 = t223
   ·rw [if_pos c18] at H
    have c18b0 : (t222 == t223) = true := beq_iff_eq.mpr c18
    have c18b1 : (t222 != t223) = false := bne_eq_false_iff_eq.mpr c18
    clear c18
    replace H := Option.bind_eq_some_iff.mp H
    obtain ⟨t224, A190, H⟩ := H
    have A19 := Aside0.mk A190
    clear A190
    replace H := Option.bind_eq_some_iff.mp H
    obtain ⟨t225, A200, H⟩ := H
    have A20 := Aside0.mk A200
    clear A200
    obtain rfl := Option.some.inj H
    go_enter Try.func10, Try.ntmps10
    try go_wp2_with (first | ((with_reducible refine gate_callee (f := 11) rfl ?_); refine goesL_ (some 18) rfl rfl Try.func11 (by kernel_rfl) rfl #[] rfl (by (try simp only [List.map_toArray, List.map_cons, List.map_nil]); first | done | rfl) ?_; (with_reducible refine (joinerylaw5_known.calls k  true _ A6.out).mono ?_); rintro e w21 ⟨rfl, hb⟩; refine ⟨_, rfl, ?_⟩; have n0_ := Aside0.mk (below_step (by repeat (with_reducible first | exact HB.out | apply below_alloc | apply pw_below_drewN | apply below_drew1)) hb); clear HB; have HB := n0_; clear n0_; (try clear hb)) | ((with_reducible refine gate_callee (f := 12) rfl ?_); refine goesL_ (some 21) rfl rfl Try.func12 (by kernel_rfl) rfl #[.int .i64 0, .int .i64 a0, .int .i64 4] rfl (by (try simp only [List.map_toArray, List.map_cons, List.map_nil]); first | done | rfl) ?_; (with_reducible refine (joinerylaw3_Pod.calls k 0 a0 4 t185 t186 t187 t188 t189 t192 t195 _ A8.out).mono ?_); rintro e w22 ⟨v190, v193, rfl, ho0, ho1, hb⟩; refine ⟨_, rfl, ?_⟩; have n0_ := Aside0.mk (Kd.R_lower ho0 (below_size (by repeat (with_reducible first | exact HB.out | apply below_alloc | apply pw_below_drewN | apply below_drew1)))); have n1_ := Aside0.mk (Kd.R_lower ho1 (below_size (by repeat (with_reducible first | exact HB.out | apply below_alloc | apply pw_below_drewN | apply below_drew1)))); have n2_ := Aside0.mk (below_step (by repeat (with_reducible first | exact HB.out | apply below_alloc | apply pw_below_drewN | apply below_drew1)) hb); clear HB; have HO191 := n0_; have HO194 := n1_; have HB := n2_; clear n0_ n1_ n2_; (try clear hb); (try clear ho0); (try clear ho1)) | ((with_reducible refine gate_callee (f := 13) rfl ?_); refine goesL_ (some 24) rfl rfl Try.func13 (by kernel_rfl) rfl #[.int .i64 a1, .int .i64 a2] rfl (by (try simp only [List.map_toArray, List.map_cons, List.map_nil]); first | done | rfl) ?_; (with_reducible refine (joinerylaw3_Node.calls k a1 a2 t196 t197 t198 t199 t202 t205 _ A9.out).mono ?_); rintro e w23 ⟨v200, v203, rfl, ho0, ho1, hb⟩; refine ⟨_, rfl, ?_⟩; have n0_ := Aside0.mk (Kd.R_mono (Kd.R_told (Kd.R_told (Kd.R_old (by (with_reducible repeat (first | apply Kd.R_alloc | apply Kd.R_drewN | apply Kd.R_drew)); exact HO191.out) hb) (Kd.R_base ho0)) (Kd.R_base ho1)) (fun _ h_ => h_.1)); have n1_ := Aside0.mk (Kd.R_mono (Kd.R_told (Kd.R_told (Kd.R_old (by (with_reducible repeat (first | apply Kd.R_alloc | apply Kd.R_drewN | apply Kd.R_drew)); exact HO194.out) hb) (Kd.R_base ho0)) (Kd.R_base ho1)) (fun _ h_ => h_.1)); have n2_ := Aside0.mk (Kd.R_lower (Kd.R_new' (Kd.R_new' ho0 (Kd.R_lt (by (with_reducible repeat (first | apply Kd.R_alloc | apply Kd.R_drewN | apply Kd.R_drew)); exact HO191.out))) (Kd.R_lt (by (with_reducible repeat (first | apply Kd.R_alloc | apply Kd.R_drewN | apply Kd.R_drew)); exact HO194.out))) (below_size (by repeat (with_reducible first | exact HB.out | apply below_alloc | apply pw_below_drewN | apply below_drew1)))); have n3_ := Aside0.mk (Kd.R_lower (Kd.R_new' (Kd.R_new' ho1 (Kd.R_lt (by (with_reducible repeat (first | apply Kd.R_alloc | apply Kd.R_drewN | apply Kd.R_drew)); exact HO191.out))) (Kd.R_lt (by (with_reducible repeat (first | apply Kd.R_alloc | apply Kd.R_drewN | apply Kd.R_drew)); exact HO194.out))) (below_size (by repeat (with_reducible first | exact HB.out | apply below_alloc | apply pw_below_drewN | apply below_drew1)))); have n4_ := Aside0.mk (below_step (by repeat (with_reducible first | exact HB.out | apply below_alloc | apply pw_below_drewN | apply below_drew1)) hb); clear HO191; clear HO194; clear HB; have HO191 := n0_; have HO194 := n1_; have HO201 := n2_; have HO204 := n3_; have HB := n4_; clear n0_ n1_ n2_ n3_ n4_; (try clear hb); (try clear ho0); (try clear ho1)) | ((with_reducible refine gate_dst (N := 11) rfl ?_); refine box_event ?hg (N := 11) ?hd (cs := #[.string (⟨#[]⟩ : ByteArray), .int .i64 0, .int .i64 0, .int .i64 0, .slice none 0 0, .slice none 0 0, .bool false]) (t := 28) ?hr ?_; (case hd => rfl); (case hg => rfl); (case hr => first | (go_simp; done) | (go_simp; rfl)); intro gb206 hg w24 hbox hb; have n0_ := Aside0.mk (Kd.R_below (by (with_reducible repeat (first | apply Kd.R_alloc | apply Kd.R_drewN | apply Kd.R_drew)); exact HO191.out) hb); have n1_ := Aside0.mk (Kd.R_below (by (with_reducible repeat (first | apply Kd.R_alloc | apply Kd.R_drewN | apply Kd.R_drew)); exact HO194.out) hb); have n2_ := Aside0.mk (Kd.R_below (by (with_reducible repeat (first | apply Kd.R_alloc | apply Kd.R_drewN | apply Kd.R_drew)); exact HO201.out) hb); have n3_ := Aside0.mk (Kd.R_below (by (with_reducible repeat (first | apply Kd.R_alloc | apply Kd.R_drewN | apply Kd.R_drew)); exact HO204.out) hb); have n4_ := Aside0.mk (below_step (by repeat (with_reducible first | exact HB.out | apply below_alloc | apply pw_below_drewN | apply below_drew1)) hb); have n5_ := Aside0.mk (hbox); have n6_ := Aside0.mk ((by rw [hg]; exact (below_size (by repeat (with_reducible first | exact HB.out | apply below_alloc | apply pw_below_drewN | apply below_drew1))) : w.heap.size ≤ gb206)); have n7_ := Aside0.mk ((by rw [hg]; exact (below_size (by repeat (with_reducible first | exact HB.out | apply below_alloc | apply pw_below_drewN | apply below_drew1))) : w.heap.size ≤ gb206)); clear HO191; clear HO194; clear HO201; clear HO204; clear HB; have HO191 := n0_; have HO194 := n1_; have HO201 := n2_; have HO204 := n3_; have HB := n4_; have BK206 := n5_; have GW206 := n6_; have GE206 := n7_; clear n0_ n1_ n2_ n3_ n4_ n5_ n6_ n7_; clear hb hbox hg) | ((with_reducible refine gate_dst (N := 12) rfl ?_); refine box_event ?hg (N := 12) ?hd (cs := #[.string (⟨#[]⟩ : ByteArray), .int .i64 0, .int .i64 0, .slice none 0 0, .slice none 0 0, .bool false]) (t := 31) ?hr ?_; (case hd => rfl); (case hg => rfl); (case hr => first | (go_simp; done) | (go_simp; rfl)); intro gb207 hg w25 hbox hb; have n0_ := Aside0.mk (Kd.R_below (by (with_reducible repeat (first | apply Kd.R_alloc | apply Kd.R_drewN | apply Kd.R_drew)); exact HO191.out) hb); have n1_ := Aside0.mk (Kd.R_below (by (with_reducible repeat (first | apply Kd.R_alloc | apply Kd.R_drewN | apply Kd.R_drew)); exact HO194.out) hb); have n2_ := Aside0.mk (Kd.R_below (by (with_reducible repeat (first | apply Kd.R_alloc | apply Kd.R_drewN | apply Kd.R_drew)); exact HO201.out) hb); have n3_ := Aside0.mk (Kd.R_below (by (with_reducible repeat (first | apply Kd.R_alloc | apply Kd.R_drewN | apply Kd.R_drew)); exact HO204.out) hb); have n4_ := Aside0.mk (blk_below (g := gb206) (o := .cells #[.string (⟨#[]⟩ : ByteArray), .int .i64 0, .int .i64 0, .int .i64 0, .slice none 0 0, .slice none 0 0, .bool false] 28 (0, 0)) (by (with_reducible repeat (first | refine blk_drewN ?_ _ | refine blk_drew ?_ | refine blk_alloc ?_ _)); exact BK206.out) hb); have n5_ := Aside0.mk (below_step (by repeat (first | (with_reducible first | exact HB.out | apply below_alloc | apply pw_below_drewN | apply below_drew1 | refine below_set ?_ GE206.out) | exact HB.out)) hb); have n6_ := Aside0.mk (hbox); have n7_ := Aside0.mk ((by rw [hg]; exact (below_size (by repeat (first | (with_reducible first | exact HB.out | apply below_alloc | apply pw_below_drewN | apply below_drew1 | refine below_set ?_ GE206.out) | exact HB.out))) : w.heap.size ≤ gb207)); have n8_ := Aside0.mk ((by rw [hg]; exact (below_size (by repeat (first | (with_reducible first | exact HB.out | apply below_alloc | apply pw_below_drewN | apply below_drew1 | refine below_set ?_ GE206.out) | exact HB.out))) : w.heap.size ≤ gb207)); have n9_ := Aside0.mk ((by rw [hg]; exact Nat.ne_of_lt (blk_lt (g := gb206) (o := .cells #[.string (⟨#[]⟩ : ByteArray), .int .i64 0, .int .i64 0, .int .i64 0, .slice none 0 0, .slice none 0 0, .bool false] 28 (0, 0)) (by (with_reducible repeat (first | refine blk_drewN ?_ _ | refine blk_drew ?_ | refine blk_alloc ?_ _)); exact BK206.out)) : gb206 ≠ gb207)); have n10_ := Aside0.mk ((by rw [hg]; exact Nat.ne_of_gt (blk_lt (g := gb206) (o := .cells #[.string (⟨#[]⟩ : ByteArray), .int .i64 0, .int .i64 0, .int .i64 0, .slice none 0 0, .slice none 0 0, .bool false] 28 (0, 0)) (by (with_reducible repeat (first | refine blk_drewN ?_ _ | refine blk_drew ?_ | refine blk_alloc ?_ _)); exact BK206.out)) : gb207 ≠ gb206)); clear HO191; clear HO194; clear HO201; clear HO204; clear BK206; clear HB; have HO191 := n0_; have HO194 := n1_; have HO201 := n2_; have HO204 := n3_; have BK206 := n4_; have HB := n5_; have BK207 := n6_; have GW207 := n7_; have GE207 := n8_; have NB206_207 := n9_; have NB207_206 := n10_; clear n0_ n1_ n2_ n3_ n4_ n5_ n6_ n7_ n8_ n9_ n10_; clear hb hbox hg; have hnb26 := NB206_207.out; have hnc26 := NB207_206.out; have hcz27_0 : w25.cell? ⟨gb206, 0, none⟩ = some (.string (⟨#[]⟩ : ByteArray)) := (blk_cell BK206.out 0).trans rfl; have hcz27_1 : w25.cell? ⟨gb206, 1, none⟩ = some (.int .i64 0) := (blk_cell BK206.out 1).trans rfl; have hcz27_2 : w25.cell? ⟨gb206, 2, none⟩ = some (.int .i64 0) := (blk_cell BK206.out 2).trans rfl; have hcz27_3 : w25.cell? ⟨gb206, 3, none⟩ = some (.int .i64 0) := (blk_cell BK206.out 3).trans rfl; have hcz27_4 : w25.cell? ⟨gb206, 4, none⟩ = some (.slice none 0 0) := (blk_cell BK206.out 4).trans rfl; have hcz27_5 : w25.cell? ⟨gb206, 5, none⟩ = some (.slice none 0 0) := (blk_cell BK206.out 5).trans rfl; have hcz27_6 : w25.cell? ⟨gb206, 6, none⟩ = some (.bool false) := (blk_cell BK206.out 6).trans rfl; have hfz27_0 := blk_frozen BK206.out 0; have hfz27_1 := blk_frozen BK206.out 1; have hfz27_2 := blk_frozen BK206.out 2; have hfz27_3 := blk_frozen BK206.out 3; have hfz27_4 := blk_frozen BK206.out 4; have hfz27_5 := blk_frozen BK206.out 5; have hfz27_6 := blk_frozen BK206.out 6; obtain ⟨Ao28, co28, eo28⟩ := Kd.R_slice HO191.out; subst eo28; obtain ⟨Ao29, co29, eo29⟩ := Kd.R_slice HO194.out; subst eo29; have hcz30_0 : w25.cell? ⟨gb207, 0, none⟩ = some (.string (⟨#[]⟩ : ByteArray)) := (blk_cell BK207.out 0).trans rfl; have hcz30_1 : w25.cell? ⟨gb207, 1, none⟩ = some (.int .i64 0) := (blk_cell BK207.out 1).trans rfl; have hcz30_2 : w25.cell? ⟨gb207, 2, none⟩ = some (.int .i64 0) := (blk_cell BK207.out 2).trans rfl; have hcz30_3 : w25.cell? ⟨gb207, 3, none⟩ = some (.slice none 0 0) := (blk_cell BK207.out 3).trans rfl; have hcz30_4 : w25.cell? ⟨gb207, 4, none⟩ = some (.slice none 0 0) := (blk_cell BK207.out 4).trans rfl; have hcz30_5 : w25.cell? ⟨gb207, 5, none⟩ = some (.bool false) := (blk_cell BK207.out 5).trans rfl; have hfz30_0 := blk_frozen BK207.out 0; have hfz30_1 := blk_frozen BK207.out 1; have hfz30_2 := blk_frozen BK207.out 2; have hfz30_3 := blk_frozen BK207.out 3; have hfz30_4 := blk_frozen BK207.out 4; have hfz30_5 := blk_frozen BK207.out 5; obtain ⟨Ao31, co31, eo31⟩ := Kd.R_slice HO201.out; subst eo31; obtain ⟨Ao32, co32, eo32⟩ := Kd.R_slice HO204.out; subst eo32))
    have n0_ : Aside0 (Kd.R Kd.string 9 (((((((((((((w25.setCell ⟨gb206, 0, none⟩ (.string t185)).setCell ⟨gb206, 1, none⟩ (.int .i64 t186)).setCell ⟨gb206, 2, none⟩ (.int .i64 t187)).setCell ⟨gb206, 3, none⟩ (.int .i64 t188)).setCell ⟨gb206, 4, none⟩ (.slice Ao28 t189.length co28)).setCell ⟨gb206, 5, none⟩ (.slice Ao29 t192.length co29)).setCell ⟨gb206, 6, none⟩ (.bool t195)).setCell ⟨gb207, 0, none⟩ (.string t196)).setCell ⟨gb207, 1, none⟩ (.int .i64 t197)).setCell ⟨gb207, 2, none⟩ (.int .i64 t198)).setCell ⟨gb207, 3, none⟩ (.slice Ao31 t199.length co31)).setCell ⟨gb207, 4, none⟩ (.slice Ao32 t202.length co32)).setCell ⟨gb207, 5, none⟩ (.bool t205)) w.heap.size (fun k_ => some k_ ≠ (.slice Ao29 t192.length co29 : Value).ownBlock ∧ some k_ ≠ (.slice Ao31 t199.length co31 : Value).ownBlock ∧ some k_ ≠ (.slice Ao32 t202.length co32 : Value).ownBlock) (.slice Ao28 t189.length co28) t189) := ⟨by (with_reducible repeat (first | apply Kd.R_alloc | apply Kd.R_drewN | apply Kd.R_drew)); exact Kd.R_mono (Kd.R_far (p := ⟨gb207, 5, none⟩) (Kd.R_far (p := ⟨gb207, 4, none⟩) (Kd.R_far (p := ⟨gb207, 3, none⟩) (Kd.R_far (p := ⟨gb207, 2, none⟩) (Kd.R_far (p := ⟨gb207, 1, none⟩) (Kd.R_far (p := ⟨gb207, 0, none⟩) (Kd.R_far (p := ⟨gb206, 6, none⟩) (Kd.R_far (p := ⟨gb206, 5, none⟩) (Kd.R_far (p := ⟨gb206, 4, none⟩) (Kd.R_far (p := ⟨gb206, 3, none⟩) (Kd.R_far (p := ⟨gb206, 2, none⟩) (Kd.R_far (p := ⟨gb206, 1, none⟩) (Kd.R_far (p := ⟨gb206, 0, none⟩) (Kd.R_types (Kd.R_types HO191.out BK206.out (by decide)) BK207.out (by decide)) (fun _ hk => hk.1.2) (.string t185)) (fun _ hk => hk.1.2) (.int .i64 t186)) (fun _ hk => hk.1.2) (.int .i64 t187)) (fun _ hk => hk.1.2) (.int .i64 t188)) (fun _ hk => hk.1.2) (.slice Ao28 t189.length co28)) (fun _ hk => hk.1.2) (.slice Ao29 t192.length co29)) (fun _ hk => hk.1.2) (.bool t195)) (fun _ hk => hk.2) (.string t196)) (fun _ hk => hk.2) (.int .i64 t197)) (fun _ hk => hk.2) (.int .i64 t198)) (fun _ hk => hk.2) (.slice Ao31 t199.length co31)) (fun _ hk => hk.2) (.slice Ao32 t202.length co32)) (fun _ hk => hk.2) (.bool t205)) (fun _ hk => ⟨hk.1.1.1.1, ⟨hk.1.1.1.2, hk.1.1.2⟩⟩)⟩
    have n1_ : Aside0 (Kd.R Kd.string 9 (((((((((((((w25.setCell ⟨gb206, 0, none⟩ (.string t185)).setCell ⟨gb206, 1, none⟩ (.int .i64 t186)).setCell ⟨gb206, 2, none⟩ (.int .i64 t187)).setCell ⟨gb206, 3, none⟩ (.int .i64 t188)).setCell ⟨gb206, 4, none⟩ (.slice Ao28 t189.length co28)).setCell ⟨gb206, 5, none⟩ (.slice Ao29 t192.length co29)).setCell ⟨gb206, 6, none⟩ (.bool t195)).setCell ⟨gb207, 0, none⟩ (.string t196)).setCell ⟨gb207, 1, none⟩ (.int .i64 t197)).setCell ⟨gb207, 2, none⟩ (.int .i64 t198)).setCell ⟨gb207, 3, none⟩ (.slice Ao31 t199.length co31)).setCell ⟨gb207, 4, none⟩ (.slice Ao32 t202.length co32)).setCell ⟨gb207, 5, none⟩ (.bool t205)) w.heap.size (fun k_ => some k_ ≠ (.slice Ao28 t189.length co28 : Value).ownBlock ∧ some k_ ≠ (.slice Ao31 t199.length co31 : Value).ownBlock ∧ some k_ ≠ (.slice Ao32 t202.length co32 : Value).ownBlock) (.slice Ao29 t192.length co29) t192) := ⟨by (with_reducible repeat (first | apply Kd.R_alloc | apply Kd.R_drewN | apply Kd.R_drew)); exact Kd.R_mono (Kd.R_far (p := ⟨gb207, 5, none⟩) (Kd.R_far (p := ⟨gb207, 4, none⟩) (Kd.R_far (p := ⟨gb207, 3, none⟩) (Kd.R_far (p := ⟨gb207, 2, none⟩) (Kd.R_far (p := ⟨gb207, 1, none⟩) (Kd.R_far (p := ⟨gb207, 0, none⟩) (Kd.R_far (p := ⟨gb206, 6, none⟩) (Kd.R_far (p := ⟨gb206, 5, none⟩) (Kd.R_far (p := ⟨gb206, 4, none⟩) (Kd.R_far (p := ⟨gb206, 3, none⟩) (Kd.R_far (p := ⟨gb206, 2, none⟩) (Kd.R_far (p := ⟨gb206, 1, none⟩) (Kd.R_far (p := ⟨gb206, 0, none⟩) (Kd.R_types (Kd.R_types HO194.out BK206.out (by decide)) BK207.out (by decide)) (fun _ hk => hk.1.2) (.string t185)) (fun _ hk => hk.1.2) (.int .i64 t186)) (fun _ hk => hk.1.2) (.int .i64 t187)) (fun _ hk => hk.1.2) (.int .i64 t188)) (fun _ hk => hk.1.2) (.slice Ao28 t189.length co28)) (fun _ hk => hk.1.2) (.slice Ao29 t192.length co29)) (fun _ hk => hk.1.2) (.bool t195)) (fun _ hk => hk.2) (.string t196)) (fun _ hk => hk.2) (.int .i64 t197)) (fun _ hk => hk.2) (.int .i64 t198)) (fun _ hk => hk.2) (.slice Ao31 t199.length co31)) (fun _ hk => hk.2) (.slice Ao32 t202.length co32)) (fun _ hk => hk.2) (.bool t205)) (fun _ hk => ⟨hk.1.1.1.1, ⟨hk.1.1.1.2, hk.1.1.2⟩⟩)⟩
    have n2_ : Aside0 (Kd.R Kd.string 9 (((((((((((((w25.setCell ⟨gb206, 0, none⟩ (.string t185)).setCell ⟨gb206, 1, none⟩ (.int .i64 t186)).setCell ⟨gb206, 2, none⟩ (.int .i64 t187)).setCell ⟨gb206, 3, none⟩ (.int .i64 t188)).setCell ⟨gb206, 4, none⟩ (.slice Ao28 t189.length co28)).setCell ⟨gb206, 5, none⟩ (.slice Ao29 t192.length co29)).setCell ⟨gb206, 6, none⟩ (.bool t195)).setCell ⟨gb207, 0, none⟩ (.string t196)).setCell ⟨gb207, 1, none⟩ (.int .i64 t197)).setCell ⟨gb207, 2, none⟩ (.int .i64 t198)).setCell ⟨gb207, 3, none⟩ (.slice Ao31 t199.length co31)).setCell ⟨gb207, 4, none⟩ (.slice Ao32 t202.length co32)).setCell ⟨gb207, 5, none⟩ (.bool t205)) w.heap.size (fun k_ => some k_ ≠ (.slice Ao28 t189.length co28 : Value).ownBlock ∧ some k_ ≠ (.slice Ao29 t192.length co29 : Value).ownBlock ∧ some k_ ≠ (.slice Ao32 t202.length co32 : Value).ownBlock) (.slice Ao31 t199.length co31) t199) := ⟨by (with_reducible repeat (first | apply Kd.R_alloc | apply Kd.R_drewN | apply Kd.R_drew)); exact Kd.R_mono (Kd.R_far (p := ⟨gb207, 5, none⟩) (Kd.R_far (p := ⟨gb207, 4, none⟩) (Kd.R_far (p := ⟨gb207, 3, none⟩) (Kd.R_far (p := ⟨gb207, 2, none⟩) (Kd.R_far (p := ⟨gb207, 1, none⟩) (Kd.R_far (p := ⟨gb207, 0, none⟩) (Kd.R_far (p := ⟨gb206, 6, none⟩) (Kd.R_far (p := ⟨gb206, 5, none⟩) (Kd.R_far (p := ⟨gb206, 4, none⟩) (Kd.R_far (p := ⟨gb206, 3, none⟩) (Kd.R_far (p := ⟨gb206, 2, none⟩) (Kd.R_far (p := ⟨gb206, 1, none⟩) (Kd.R_far (p := ⟨gb206, 0, none⟩) (Kd.R_types (Kd.R_types HO201.out BK206.out (by decide)) BK207.out (by decide)) (fun _ hk => hk.1.2) (.string t185)) (fun _ hk => hk.1.2) (.int .i64 t186)) (fun _ hk => hk.1.2) (.int .i64 t187)) (fun _ hk => hk.1.2) (.int .i64 t188)) (fun _ hk => hk.1.2) (.slice Ao28 t189.length co28)) (fun _ hk => hk.1.2) (.slice Ao29 t192.length co29)) (fun _ hk => hk.1.2) (.bool t195)) (fun _ hk => hk.2) (.string t196)) (fun _ hk => hk.2) (.int .i64 t197)) (fun _ hk => hk.2) (.int .i64 t198)) (fun _ hk => hk.2) (.slice Ao31 t199.length co31)) (fun _ hk => hk.2) (.slice Ao32 t202.length co32)) (fun _ hk => hk.2) (.bool t205)) (fun _ hk => ⟨hk.1.1.1.2, ⟨hk.1.1.2, hk.1.1.1.1⟩⟩)⟩
    have n3_ : Aside0 (Kd.R Kd.string 9 (((((((((((((w25.setCell ⟨gb206, 0, none⟩ (.string t185)).setCell ⟨gb206, 1, none⟩ (.int .i64 t186)).setCell ⟨gb206, 2, none⟩ (.int .i64 t187)).setCell ⟨gb206, 3, none⟩ (.int .i64 t188)).setCell ⟨gb206, 4, none⟩ (.slice Ao28 t189.length co28)).setCell ⟨gb206, 5, none⟩ (.slice Ao29 t192.length co29)).setCell ⟨gb206, 6, none⟩ (.bool t195)).setCell ⟨gb207, 0, none⟩ (.string t196)).setCell ⟨gb207, 1, none⟩ (.int .i64 t197)).setCell ⟨gb207, 2, none⟩ (.int .i64 t198)).setCell ⟨gb207, 3, none⟩ (.slice Ao31 t199.length co31)).setCell ⟨gb207, 4, none⟩ (.slice Ao32 t202.length co32)).setCell ⟨gb207, 5, none⟩ (.bool t205)) w.heap.size (fun k_ => some k_ ≠ (.slice Ao28 t189.length co28 : Value).ownBlock ∧ some k_ ≠ (.slice Ao29 t192.length co29 : Value).ownBlock ∧ some k_ ≠ (.slice Ao31 t199.length co31 : Value).ownBlock) (.slice Ao32 t202.length co32) t202) := ⟨by (with_reducible repeat (first | apply Kd.R_alloc | apply Kd.R_drewN | apply Kd.R_drew)); exact Kd.R_mono (Kd.R_far (p := ⟨gb207, 5, none⟩) (Kd.R_far (p := ⟨gb207, 4, none⟩) (Kd.R_far (p := ⟨gb207, 3, none⟩) (Kd.R_far (p := ⟨gb207, 2, none⟩) (Kd.R_far (p := ⟨gb207, 1, none⟩) (Kd.R_far (p := ⟨gb207, 0, none⟩) (Kd.R_far (p := ⟨gb206, 6, none⟩) (Kd.R_far (p := ⟨gb206, 5, none⟩) (Kd.R_far (p := ⟨gb206, 4, none⟩) (Kd.R_far (p := ⟨gb206, 3, none⟩) (Kd.R_far (p := ⟨gb206, 2, none⟩) (Kd.R_far (p := ⟨gb206, 1, none⟩) (Kd.R_far (p := ⟨gb206, 0, none⟩) (Kd.R_types (Kd.R_types HO204.out BK206.out (by decide)) BK207.out (by decide)) (fun _ hk => hk.1.2) (.string t185)) (fun _ hk => hk.1.2) (.int .i64 t186)) (fun _ hk => hk.1.2) (.int .i64 t187)) (fun _ hk => hk.1.2) (.int .i64 t188)) (fun _ hk => hk.1.2) (.slice Ao28 t189.length co28)) (fun _ hk => hk.1.2) (.slice Ao29 t192.length co29)) (fun _ hk => hk.1.2) (.bool t195)) (fun _ hk => hk.2) (.string t196)) (fun _ hk => hk.2) (.int .i64 t197)) (fun _ hk => hk.2) (.int .i64 t198)) (fun _ hk => hk.2) (.slice Ao31 t199.length co31)) (fun _ hk => hk.2) (.slice Ao32 t202.length co32)) (fun _ hk => hk.2) (.bool t205)) (fun _ hk => ⟨hk.1.1.1.2, ⟨hk.1.1.2, hk.1.1.1.1⟩⟩)⟩
    have n4_ : Aside0 ((((((((((((((w25.setCell ⟨gb206, 0, none⟩ (.string t185)).setCell ⟨gb206, 1, none⟩ (.int .i64 t186)).setCell ⟨gb206, 2, none⟩ (.int .i64 t187)).setCell ⟨gb206, 3, none⟩ (.int .i64 t188)).setCell ⟨gb206, 4, none⟩ (.slice Ao28 t189.length co28)).setCell ⟨gb206, 5, none⟩ (.slice Ao29 t192.length co29)).setCell ⟨gb206, 6, none⟩ (.bool t195)).setCell ⟨gb207, 0, none⟩ (.string t196)).setCell ⟨gb207, 1, none⟩ (.int .i64 t197)).setCell ⟨gb207, 2, none⟩ (.int .i64 t198)).setCell ⟨gb207, 3, none⟩ (.slice Ao31 t199.length co31)).setCell ⟨gb207, 4, none⟩ (.slice Ao32 t202.length co32)).setCell ⟨gb207, 5, none⟩ (.bool t205)).heap[gb206]? = some (.cells #[.string t185, .int .i64 t186, .int .i64 t187, .int .i64 t188, .slice Ao28 t189.length co28, .slice Ao29 t192.length co29, .bool t195] 28 (0, 0))) := ⟨by (with_reducible repeat (first | refine blk_drewN ?_ _ | refine blk_drew ?_ | refine blk_alloc ?_ _)); (iterate 6 (refine blk_far ?_ NB206_207.out _)); refine blk_put (cs := #[.string t185, .int .i64 t186, .int .i64 t187, .int .i64 t188, .slice Ao28 t189.length co28, .slice Ao29 t192.length co29, .bool false]) ?_ 6 _ rfl; refine blk_put (cs := #[.string t185, .int .i64 t186, .int .i64 t187, .int .i64 t188, .slice Ao28 t189.length co28, .slice none 0 0, .bool false]) ?_ 5 _ rfl; refine blk_put (cs := #[.string t185, .int .i64 t186, .int .i64 t187, .int .i64 t188, .slice none 0 0, .slice none 0 0, .bool false]) ?_ 4 _ rfl; refine blk_put (cs := #[.string t185, .int .i64 t186, .int .i64 t187, .int .i64 0, .slice none 0 0, .slice none 0 0, .bool false]) ?_ 3 _ rfl; refine blk_put (cs := #[.string t185, .int .i64 t186, .int .i64 0, .int .i64 0, .slice none 0 0, .slice none 0 0, .bool false]) ?_ 2 _ rfl; refine blk_put (cs := #[.string t185, .int .i64 0, .int .i64 0, .int .i64 0, .slice none 0 0, .slice none 0 0, .bool false]) ?_ 1 _ rfl; refine blk_put (cs := #[.string (⟨#[]⟩ : ByteArray), .int .i64 0, .int .i64 0, .int .i64 0, .slice none 0 0, .slice none 0 0, .bool false]) ?_ 0 _ rfl; (with_reducible repeat (first | refine blk_drewN ?_ _ | refine blk_drew ?_ | refine blk_alloc ?_ _)); exact BK206.out⟩
    have n5_ : Aside0 ((((((((((((((w25.setCell ⟨gb206, 0, none⟩ (.string t185)).setCell ⟨gb206, 1, none⟩ (.int .i64 t186)).setCell ⟨gb206, 2, none⟩ (.int .i64 t187)).setCell ⟨gb206, 3, none⟩ (.int .i64 t188)).setCell ⟨gb206, 4, none⟩ (.slice Ao28 t189.length co28)).setCell ⟨gb206, 5, none⟩ (.slice Ao29 t192.length co29)).setCell ⟨gb206, 6, none⟩ (.bool t195)).setCell ⟨gb207, 0, none⟩ (.string t196)).setCell ⟨gb207, 1, none⟩ (.int .i64 t197)).setCell ⟨gb207, 2, none⟩ (.int .i64 t198)).setCell ⟨gb207, 3, none⟩ (.slice Ao31 t199.length co31)).setCell ⟨gb207, 4, none⟩ (.slice Ao32 t202.length co32)).setCell ⟨gb207, 5, none⟩ (.bool t205)).heap[gb207]? = some (.cells #[.string t196, .int .i64 t197, .int .i64 t198, .slice Ao31 t199.length co31, .slice Ao32 t202.length co32, .bool t205] 31 (0, 0))) := ⟨by (with_reducible repeat (first | refine blk_drewN ?_ _ | refine blk_drew ?_ | refine blk_alloc ?_ _)); refine blk_put (cs := #[.string t196, .int .i64 t197, .int .i64 t198, .slice Ao31 t199.length co31, .slice Ao32 t202.length co32, .bool false]) ?_ 5 _ rfl; refine blk_put (cs := #[.string t196, .int .i64 t197, .int .i64 t198, .slice Ao31 t199.length co31, .slice none 0 0, .bool false]) ?_ 4 _ rfl; refine blk_put (cs := #[.string t196, .int .i64 t197, .int .i64 t198, .slice none 0 0, .slice none 0 0, .bool false]) ?_ 3 _ rfl; refine blk_put (cs := #[.string t196, .int .i64 t197, .int .i64 0, .slice none 0 0, .slice none 0 0, .bool false]) ?_ 2 _ rfl; refine blk_put (cs := #[.string t196, .int .i64 0, .int .i64 0, .slice none 0 0, .slice none 0 0, .bool false]) ?_ 1 _ rfl; refine blk_put (cs := #[.string (⟨#[]⟩ : ByteArray), .int .i64 0, .int .i64 0, .slice none 0 0, .slice none 0 0, .bool false]) ?_ 0 _ rfl; (iterate 7 (refine blk_far ?_ NB207_206.out _)); (with_reducible repeat (first | refine blk_drewN ?_ _ | refine blk_drew ?_ | refine blk_alloc ?_ _)); exact BK207.out⟩
    have n6_ : Aside0 (Below w.heap.size w (((((((((((((w25.setCell ⟨gb206, 0, none⟩ (.string t185)).setCell ⟨gb206, 1, none⟩ (.int .i64 t186)).setCell ⟨gb206, 2, none⟩ (.int .i64 t187)).setCell ⟨gb206, 3, none⟩ (.int .i64 t188)).setCell ⟨gb206, 4, none⟩ (.slice Ao28 t189.length co28)).setCell ⟨gb206, 5, none⟩ (.slice Ao29 t192.length co29)).setCell ⟨gb206, 6, none⟩ (.bool t195)).setCell ⟨gb207, 0, none⟩ (.string t196)).setCell ⟨gb207, 1, none⟩ (.int .i64 t197)).setCell ⟨gb207, 2, none⟩ (.int .i64 t198)).setCell ⟨gb207, 3, none⟩ (.slice Ao31 t199.length co31)).setCell ⟨gb207, 4, none⟩ (.slice Ao32 t202.length co32)).setCell ⟨gb207, 5, none⟩ (.bool t205))) := ⟨by repeat (first | (with_reducible first | exact HB.out | apply below_alloc | apply pw_below_drewN | apply below_drew1 | refine below_set ?_ GE206.out | refine below_set ?_ GE207.out) | exact HB.out)⟩
    (try clear HO191)
    (try clear HO194)
    (try clear HO201)
    (try clear HO204)
    (try clear BK206)
    (try clear BK207)
    (try clear HB)
    generalize (((((((((((((w25.setCell ⟨gb206, 0, none⟩ (.string t185)).setCell ⟨gb206, 1, none⟩ (.int .i64 t186)).setCell ⟨gb206, 2, none⟩ (.int .i64 t187)).setCell ⟨gb206, 3, none⟩ (.int .i64 t188)).setCell ⟨gb206, 4, none⟩ (.slice Ao28 t189.length co28)).setCell ⟨gb206, 5, none⟩ (.slice Ao29 t192.length co29)).setCell ⟨gb206, 6, none⟩ (.bool t195)).setCell ⟨gb207, 0, none⟩ (.string t196)).setCell ⟨gb207, 1, none⟩ (.int .i64 t197)).setCell ⟨gb207, 2, none⟩ (.int .i64 t198)).setCell ⟨gb207, 3, none⟩ (.slice Ao31 t199.length co31)).setCell ⟨gb207, 4, none⟩ (.slice Ao32 t202.length co32)).setCell ⟨gb207, 5, none⟩ (.bool t205)) = w33 at n0_ n1_ n2_ n3_ n4_ n5_ n6_ ⊢
    have HO191 := n0_
    have HO194 := n1_
    have HO201 := n2_
    have HO204 := n3_
    have BK206 := n4_
    have BK207 := n5_
    have HB := n6_
    clear n0_ n1_ n2_ n3_ n4_ n5_ n6_
    have n0_ := Aside0.mk (Kd.R_drew HO191.out)
    have n1_ := Aside0.mk (Kd.R_drew HO194.out)
    have n2_ := Aside0.mk (Kd.R_drew HO201.out)
    have n3_ := Aside0.mk (Kd.R_drew HO204.out)
    have n4_ := Aside0.mk (blk_drew BK206.out)
    have n5_ := Aside0.mk (blk_drew BK207.out)
    have n6_ := Aside0.mk (below_drew1 HB.out)
    clear HO191
    clear HO194
    clear HO201
    clear HO204
    clear BK206
    clear BK207
    clear HB
    have HO191 := n0_
    have HO194 := n1_
    have HO201 := n2_
    have HO204 := n3_
    have BK206 := n4_
    have BK207 := n5_
    have HB := n6_
    clear n0_ n1_ n2_ n3_ n4_ n5_ n6_
    refine start_ (n := 6) (S := fun w' => w'.cell? ⟨gb206, 0, none⟩ = some (.string t185) ∧ w'.cell? ⟨gb206, 1, none⟩ = some (.int .i64 t186) ∧ w'.cell? ⟨gb206, 2, none⟩ = some (.int .i64 t187) ∧ w'.cell? ⟨gb206, 3, none⟩ = some (.int .i64 t188) ∧ w'.cell? ⟨gb206, 4, none⟩ = some (.slice Ao28 t189.length co28) ∧ w'.cell? ⟨gb206, 5, none⟩ = some (.slice Ao29 t192.length co29) ∧ w'.cell? ⟨gb206, 6, none⟩ = some (.bool t195) ∧ w'.cell? ⟨gb207, 0, none⟩ = some (.string t196) ∧ w'.cell? ⟨gb207, 1, none⟩ = some (.int .i64 t197) ∧ w'.cell? ⟨gb207, 2, none⟩ = some (.int .i64 t198) ∧ w'.cell? ⟨gb207, 3, none⟩ = some (.slice Ao31 t199.length co31) ∧ w'.cell? ⟨gb207, 4, none⟩ = some (.slice Ao32 t202.length co32) ∧ w'.cell? ⟨gb207, 5, none⟩ = some (.bool t205)) (ds := []) #[false, false, false, false, false, false] (by kernel_rfl) rfl rfl ⟨(blk_cell BK206.out 0).trans rfl, (blk_cell BK206.out 1).trans rfl, (blk_cell BK206.out 2).trans rfl, (blk_cell BK206.out 3).trans rfl, (blk_cell BK206.out 4).trans rfl, (blk_cell BK206.out 5).trans rfl, (blk_cell BK206.out 6).trans rfl, (blk_cell BK207.out 0).trans rfl, (blk_cell BK207.out 1).trans rfl, (blk_cell BK207.out 2).trans rfl, (blk_cell BK207.out 3).trans rfl, (blk_cell BK207.out 4).trans rfl, (blk_cell BK207.out 5).trans rfl⟩ (fun hHeld => ?_)
    generalize w33.drew = w34 at HO191 HO194 HO201 HO204 BK206 BK207 HB hHeld ⊢
    refine take_ (i := 0) (N := some 25) (v := ?_) (a' := ?_) #[true, false, false, false, false, false] rfl rfl (by kernel_rfl) (fun _ _ _ h => h) (Or.inl ⟨by rfl, ?_⟩) hHeld ?_ ?_
    rotate_left
    ·rintro w' ⟨s0, s1, s2, s3, s4, s5, s6, s7, s8, s9, s10, s11, s12⟩
     go_simp
     with_reducible rfl
    rotate_left
    ·simp only [Act.put, List.setIfInBounds_toArray, List.set_cons_zero, List.set_cons_succ, i64_w, i32_w]
     rfl
    refine take_ (i := 1) (N := some 26) (v := ?_) (a' := ?_) #[true, true, false, false, false, false] rfl rfl (by kernel_rfl) (fun _ _ _ h => h) (Or.inl ⟨by rfl, ?_⟩) hHeld ?_ ?_
    rotate_left
    ·rintro w' ⟨s0, s1, s2, s3, s4, s5, s6, s7, s8, s9, s10, s11, s12⟩
     go_simp
     with_reducible rfl
    rotate_left
    ·simp only [Act.put, List.setIfInBounds_toArray, List.set_cons_zero, List.set_cons_succ, i64_w, i32_w]
     rfl
    refine join_ (σ := Nat × Nat) 2 #[true, true, true, true, false, false] (fun s_ => [(13, .pointer (some ⟨s_.1, 0, none⟩)), (14, .pointer (some ⟨s_.2, 0, none⟩))]) (fun s_ w' => (w'.cell? ⟨gb206, 0, none⟩ = some (.string t185) ∧ w'.cell? ⟨gb206, 1, none⟩ = some (.int .i64 t186) ∧ w'.cell? ⟨gb206, 2, none⟩ = some (.int .i64 t187) ∧ w'.cell? ⟨gb206, 3, none⟩ = some (.int .i64 t188) ∧ w'.cell? ⟨gb206, 4, none⟩ = some (.slice Ao28 t189.length co28) ∧ w'.cell? ⟨gb206, 5, none⟩ = some (.slice Ao29 t192.length co29) ∧ w'.cell? ⟨gb206, 6, none⟩ = some (.bool t195) ∧ w'.cell? ⟨gb207, 0, none⟩ = some (.string t196) ∧ w'.cell? ⟨gb207, 1, none⟩ = some (.int .i64 t197) ∧ w'.cell? ⟨gb207, 2, none⟩ = some (.int .i64 t198) ∧ w'.cell? ⟨gb207, 3, none⟩ = some (.slice Ao31 t199.length co31) ∧ w'.cell? ⟨gb207, 4, none⟩ = some (.slice Ao32 t202.length co32) ∧ w'.cell? ⟨gb207, 5, none⟩ = some (.bool t205)) ∧ (Kd.R Kd.string 9 w' w.heap.size (fun k_ => some k_ ≠ (.slice Ao29 t192.length co29 : Value).ownBlock ∧ some k_ ≠ (.slice Ao31 t199.length co31 : Value).ownBlock ∧ some k_ ≠ (.slice Ao32 t202.length co32 : Value).ownBlock) (.slice Ao28 t189.length co28) t189) ∧ (Kd.R Kd.string 9 w' w.heap.size (fun k_ => some k_ ≠ (.slice Ao28 t189.length co28 : Value).ownBlock ∧ some k_ ≠ (.slice Ao31 t199.length co31 : Value).ownBlock ∧ some k_ ≠ (.slice Ao32 t202.length co32 : Value).ownBlock) (.slice Ao29 t192.length co29) t192) ∧ (Kd.R Kd.string 9 w' w.heap.size (fun k_ => some k_ ≠ (.slice Ao28 t189.length co28 : Value).ownBlock ∧ some k_ ≠ (.slice Ao29 t192.length co29 : Value).ownBlock ∧ some k_ ≠ (.slice Ao32 t202.length co32 : Value).ownBlock) (.slice Ao31 t199.length co31) t199) ∧ (Kd.R Kd.string 9 w' w.heap.size (fun k_ => some k_ ≠ (.slice Ao28 t189.length co28 : Value).ownBlock ∧ some k_ ≠ (.slice Ao29 t192.length co29 : Value).ownBlock ∧ some k_ ≠ (.slice Ao31 t199.length co31 : Value).ownBlock) (.slice Ao32 t202.length co32) t202) ∧ (w'.heap[gb206]? = some (.cells #[.string t185, .int .i64 t186, .int .i64 t187, .int .i64 t188, .slice Ao28 t189.length co28, .slice Ao29 t192.length co29, .bool t195] 28 (0, 0))) ∧ (w'.heap[gb207]? = some (.cells #[.string t196, .int .i64 t197, .int .i64 t198, .slice Ao31 t199.length co31, .slice Ao32 t202.length co32, .bool t205] 31 (0, 0))) ∧ (w'.heap[s_.1]? = some (.cells #[.string (⟨#[]⟩ : ByteArray), .int .i64 0, .int .i64 0, .int .i64 0, .slice none 0 0, .slice none 0 0, .bool false] 28 (0, 0))) ∧ (w'.heap[s_.2]? = some (.cells #[.string (⟨#[]⟩ : ByteArray), .int .i64 0, .int .i64 0, .slice none 0 0, .slice none 0 0, .bool false] 31 (0, 0))) ∧ (w.heap.size ≤ s_.1) ∧ (w.heap.size ≤ s_.1) ∧ (gb206 ≠ s_.1) ∧ (s_.1 ≠ gb206) ∧ (gb207 ≠ s_.1) ∧ (s_.1 ≠ gb207) ∧ (s_.2 ≠ s_.1) ∧ (s_.1 ≠ s_.2) ∧ (w.heap.size ≤ s_.2) ∧ (w.heap.size ≤ s_.2) ∧ (gb206 ≠ s_.2) ∧ (s_.2 ≠ gb206) ∧ (gb207 ≠ s_.2) ∧ (s_.2 ≠ gb207) ∧ (Below w.heap.size w w')) ?_ ?_
    rotate_left
    ·intro hCont
     refine two_ (i := 2) (j := 3) (Ni := some 13) (Nj := some 14) #[true, true, true, false, false, false] #[true, true, false, true, false, false] rfl rfl rfl rfl (by kernel_rfl) (by decide) (by decide) (fun K hK => ?_) (fun K hK => ?_)
     ·skip
      refine box_step ?hg (N := 13) ?hd (cs := #[.string (⟨#[]⟩ : ByteArray), .int .i64 0, .int .i64 0, .int .i64 0, .slice none 0 0, .slice none 0 0, .bool false]) (t := 28) ?hr ?_; (case hd => rfl); (case hg => rfl); (case hr => first | (go_simp; done) | (go_simp; rfl))
      intro gb208 hg w35 hbox hb
      have n0_ := Aside0.mk (Kd.R_below (by (with_reducible repeat (first | apply Kd.R_alloc | apply Kd.R_drewN | apply Kd.R_drew)); exact HO191.out) hb)
      have n1_ := Aside0.mk (Kd.R_below (by (with_reducible repeat (first | apply Kd.R_alloc | apply Kd.R_drewN | apply Kd.R_drew)); exact HO194.out) hb)
      have n2_ := Aside0.mk (Kd.R_below (by (with_reducible repeat (first | apply Kd.R_alloc | apply Kd.R_drewN | apply Kd.R_drew)); exact HO201.out) hb)
      have n3_ := Aside0.mk (Kd.R_below (by (with_reducible repeat (first | apply Kd.R_alloc | apply Kd.R_drewN | apply Kd.R_drew)); exact HO204.out) hb)
      have n4_ := Aside0.mk (blk_below (g := gb206) (o := .cells #[.string t185, .int .i64 t186, .int .i64 t187, .int .i64 t188, .slice Ao28 t189.length co28, .slice Ao29 t192.length co29, .bool t195] 28 (0, 0)) (by (with_reducible repeat (first | refine blk_drewN ?_ _ | refine blk_drew ?_ | refine blk_alloc ?_ _)); exact BK206.out) hb)
      have n5_ := Aside0.mk (blk_below (g := gb207) (o := .cells #[.string t196, .int .i64 t197, .int .i64 t198, .slice Ao31 t199.length co31, .slice Ao32 t202.length co32, .bool t205] 31 (0, 0)) (by (with_reducible repeat (first | refine blk_drewN ?_ _ | refine blk_drew ?_ | refine blk_alloc ?_ _)); exact BK207.out) hb)
      have n6_ := Aside0.mk (below_step (by repeat (first | (with_reducible first | exact HB.out | apply below_alloc | apply pw_below_drewN | apply below_drew1 | refine below_set ?_ GE206.out | refine below_set ?_ GE207.out) | exact HB.out)) hb)
      have n7_ := Aside0.mk (hbox)
      have n8_ := Aside0.mk ((by rw [hg]; exact (below_size (by repeat (first | (with_reducible first | exact HB.out | apply below_alloc | apply pw_below_drewN | apply below_drew1 | refine below_set ?_ GE206.out | refine below_set ?_ GE207.out) | exact HB.out))) : w.heap.size ≤ gb208))
      have n9_ := Aside0.mk ((by rw [hg]; exact (below_size (by repeat (first | (with_reducible first | exact HB.out | apply below_alloc | apply pw_below_drewN | apply below_drew1 | refine below_set ?_ GE206.out | refine below_set ?_ GE207.out) | exact HB.out))) : w.heap.size ≤ gb208))
      have n10_ := Aside0.mk ((by rw [hg]; exact Nat.ne_of_lt (blk_lt (g := gb206) (o := .cells #[.string t185, .int .i64 t186, .int .i64 t187, .int .i64 t188, .slice Ao28 t189.length co28, .slice Ao29 t192.length co29, .bool t195] 28 (0, 0)) (by (with_reducible repeat (first | refine blk_drewN ?_ _ | refine blk_drew ?_ | refine blk_alloc ?_ _)); exact BK206.out)) : gb206 ≠ gb208))
      have n11_ := Aside0.mk ((by rw [hg]; exact Nat.ne_of_gt (blk_lt (g := gb206) (o := .cells #[.string t185, .int .i64 t186, .int .i64 t187, .int .i64 t188, .slice Ao28 t189.length co28, .slice Ao29 t192.length co29, .bool t195] 28 (0, 0)) (by (with_reducible repeat (first | refine blk_drewN ?_ _ | refine blk_drew ?_ | refine blk_alloc ?_ _)); exact BK206.out)) : gb208 ≠ gb206))
      have n12_ := Aside0.mk ((by rw [hg]; exact Nat.ne_of_lt (blk_lt (g := gb207) (o := .cells #[.string t196, .int .i64 t197, .int .i64 t198, .slice Ao31 t199.length co31, .slice Ao32 t202.length co32, .bool t205] 31 (0, 0)) (by (with_reducible repeat (first | refine blk_drewN ?_ _ | refine blk_drew ?_ | refine blk_alloc ?_ _)); exact BK207.out)) : gb207 ≠ gb208))
      have n13_ := Aside0.mk ((by rw [hg]; exact Nat.ne_of_gt (blk_lt (g := gb207) (o := .cells #[.string t196, .int .i64 t197, .int .i64 t198, .slice Ao31 t199.length co31, .slice Ao32 t202.length co32, .bool t205] 31 (0, 0)) (by (with_reducible repeat (first | refine blk_drewN ?_ _ | refine blk_drew ?_ | refine blk_alloc ?_ _)); exact BK207.out)) : gb208 ≠ gb207))
      clear HO191
      clear HO194
      clear HO201
      clear HO204
      clear BK206
      clear BK207
      clear HB
      have HO191 := n0_
      have HO194 := n1_
      have HO201 := n2_
      have HO204 := n3_
      have BK206 := n4_
      have BK207 := n5_
      have HB := n6_
      have BK208 := n7_
      have GW208 := n8_
      have GE208 := n9_
      have NB206_208 := n10_
      have NB208_206 := n11_
      have NB207_208 := n12_
      have NB208_207 := n13_
      clear n0_ n1_ n2_ n3_ n4_ n5_ n6_ n7_ n8_ n9_ n10_ n11_ n12_ n13_
      clear hb hbox hg
      refine hK.out _ _ ⟨(blk_cell BK206.out 0).trans rfl, (blk_cell BK206.out 1).trans rfl, (blk_cell BK206.out 2).trans rfl, (blk_cell BK206.out 3).trans rfl, (blk_cell BK206.out 4).trans rfl, (blk_cell BK206.out 5).trans rfl, (blk_cell BK206.out 6).trans rfl, (blk_cell BK207.out 0).trans rfl, (blk_cell BK207.out 1).trans rfl, (blk_cell BK207.out 2).trans rfl, (blk_cell BK207.out 3).trans rfl, (blk_cell BK207.out 4).trans rfl, (blk_cell BK207.out 5).trans rfl⟩ (fun hHeld => ?_)
      clear hK K
      refine norm_ (a' := ?_) ?_ ?_
      rotate_left
      ·show Act.put _ (some 13) _ = _
       simp only [Act.put, List.setIfInBounds_toArray, List.set_cons_zero, List.set_cons_succ, i64_w, i32_w]
       rfl
      refine one_ (i := 3) (N := some 14) #[true, true, true, true, false, false] rfl rfl (by kernel_rfl) (by decide) (fun K hK => ?_)
      refine box_step ?hg (N := 14) ?hd (cs := #[.string (⟨#[]⟩ : ByteArray), .int .i64 0, .int .i64 0, .slice none 0 0, .slice none 0 0, .bool false]) (t := 31) ?hr ?_; (case hd => rfl); (case hg => rfl); (case hr => first | (go_simp; done) | (go_simp; rfl))
      intro gb209 hg w36 hbox hb
      have n0_ := Aside0.mk (Kd.R_below (by (with_reducible repeat (first | apply Kd.R_alloc | apply Kd.R_drewN | apply Kd.R_drew)); exact HO191.out) hb)
      have n1_ := Aside0.mk (Kd.R_below (by (with_reducible repeat (first | apply Kd.R_alloc | apply Kd.R_drewN | apply Kd.R_drew)); exact HO194.out) hb)
      have n2_ := Aside0.mk (Kd.R_below (by (with_reducible repeat (first | apply Kd.R_alloc | apply Kd.R_drewN | apply Kd.R_drew)); exact HO201.out) hb)
      have n3_ := Aside0.mk (Kd.R_below (by (with_reducible repeat (first | apply Kd.R_alloc | apply Kd.R_drewN | apply Kd.R_drew)); exact HO204.out) hb)
      have n4_ := Aside0.mk (blk_below (g := gb206) (o := .cells #[.string t185, .int .i64 t186, .int .i64 t187, .int .i64 t188, .slice Ao28 t189.length co28, .slice Ao29 t192.length co29, .bool t195] 28 (0, 0)) (by (with_reducible repeat (first | refine blk_drewN ?_ _ | refine blk_drew ?_ | refine blk_alloc ?_ _)); exact BK206.out) hb)
      have n5_ := Aside0.mk (blk_below (g := gb207) (o := .cells #[.string t196, .int .i64 t197, .int .i64 t198, .slice Ao31 t199.length co31, .slice Ao32 t202.length co32, .bool t205] 31 (0, 0)) (by (with_reducible repeat (first | refine blk_drewN ?_ _ | refine blk_drew ?_ | refine blk_alloc ?_ _)); exact BK207.out) hb)
      have n6_ := Aside0.mk (blk_below (g := gb208) (o := .cells #[.string (⟨#[]⟩ : ByteArray), .int .i64 0, .int .i64 0, .int .i64 0, .slice none 0 0, .slice none 0 0, .bool false] 28 (0, 0)) (by (with_reducible repeat (first | refine blk_drewN ?_ _ | refine blk_drew ?_ | refine blk_alloc ?_ _)); exact BK208.out) hb)
      have n7_ := Aside0.mk (below_step (by repeat (first | (with_reducible first | exact HB.out | apply below_alloc | apply pw_below_drewN | apply below_drew1 | refine below_set ?_ GE206.out | refine below_set ?_ GE207.out | refine below_set ?_ GE208.out) | exact HB.out)) hb)
      have n8_ := Aside0.mk (hbox)
      have n9_ := Aside0.mk ((by rw [hg]; exact (below_size (by repeat (first | (with_reducible first | exact HB.out | apply below_alloc | apply pw_below_drewN | apply below_drew1 | refine below_set ?_ GE206.out | refine below_set ?_ GE207.out | refine below_set ?_ GE208.out) | exact HB.out))) : w.heap.size ≤ gb209))
      have n10_ := Aside0.mk ((by rw [hg]; exact (below_size (by repeat (first | (with_reducible first | exact HB.out | apply below_alloc | apply pw_below_drewN | apply below_drew1 | refine below_set ?_ GE206.out | refine below_set ?_ GE207.out | refine below_set ?_ GE208.out) | exact HB.out))) : w.heap.size ≤ gb209))
      have n11_ := Aside0.mk ((by rw [hg]; exact Nat.ne_of_lt (blk_lt (g := gb206) (o := .cells #[.string t185, .int .i64 t186, .int .i64 t187, .int .i64 t188, .slice Ao28 t189.length co28, .slice Ao29 t192.length co29, .bool t195] 28 (0, 0)) (by (with_reducible repeat (first | refine blk_drewN ?_ _ | refine blk_drew ?_ | refine blk_alloc ?_ _)); exact BK206.out)) : gb206 ≠ gb209))
      have n12_ := Aside0.mk ((by rw [hg]; exact Nat.ne_of_gt (blk_lt (g := gb206) (o := .cells #[.string t185, .int .i64 t186, .int .i64 t187, .int .i64 t188, .slice Ao28 t189.length co28, .slice Ao29 t192.length co29, .bool t195] 28 (0, 0)) (by (with_reducible repeat (first | refine blk_drewN ?_ _ | refine blk_drew ?_ | refine blk_alloc ?_ _)); exact BK206.out)) : gb209 ≠ gb206))
      have n13_ := Aside0.mk ((by rw [hg]; exact Nat.ne_of_lt (blk_lt (g := gb207) (o := .cells #[.string t196, .int .i64 t197, .int .i64 t198, .slice Ao31 t199.length co31, .slice Ao32 t202.length co32, .bool t205] 31 (0, 0)) (by (with_reducible repeat (first | refine blk_drewN ?_ _ | refine blk_drew ?_ | refine blk_alloc ?_ _)); exact BK207.out)) : gb207 ≠ gb209))
      have n14_ := Aside0.mk ((by rw [hg]; exact Nat.ne_of_gt (blk_lt (g := gb207) (o := .cells #[.string t196, .int .i64 t197, .int .i64 t198, .slice Ao31 t199.length co31, .slice Ao32 t202.length co32, .bool t205] 31 (0, 0)) (by (with_reducible repeat (first | refine blk_drewN ?_ _ | refine blk_drew ?_ | refine blk_alloc ?_ _)); exact BK207.out)) : gb209 ≠ gb207))
      have n15_ := Aside0.mk ((by rw [hg]; exact Nat.ne_of_lt (blk_lt (g := gb208) (o := .cells #[.string (⟨#[]⟩ : ByteArray), .int .i64 0, .int .i64 0, .int .i64 0, .slice none 0 0, .slice none 0 0, .bool false] 28 (0, 0)) (by (with_reducible repeat (first | refine blk_drewN ?_ _ | refine blk_drew ?_ | refine blk_alloc ?_ _)); exact BK208.out)) : gb208 ≠ gb209))
      have n16_ := Aside0.mk ((by rw [hg]; exact Nat.ne_of_gt (blk_lt (g := gb208) (o := .cells #[.string (⟨#[]⟩ : ByteArray), .int .i64 0, .int .i64 0, .int .i64 0, .slice none 0 0, .slice none 0 0, .bool false] 28 (0, 0)) (by (with_reducible repeat (first | refine blk_drewN ?_ _ | refine blk_drew ?_ | refine blk_alloc ?_ _)); exact BK208.out)) : gb209 ≠ gb208))
      clear HO191
      clear HO194
      clear HO201
      clear HO204
      clear BK206
      clear BK207
      clear BK208
      clear HB
      have HO191 := n0_
      have HO194 := n1_
      have HO201 := n2_
      have HO204 := n3_
      have BK206 := n4_
      have BK207 := n5_
      have BK208 := n6_
      have HB := n7_
      have BK209 := n8_
      have GW209 := n9_
      have GE209 := n10_
      have NB206_209 := n11_
      have NB209_206 := n12_
      have NB207_209 := n13_
      have NB209_207 := n14_
      have NB208_209 := n15_
      have NB209_208 := n16_
      clear n0_ n1_ n2_ n3_ n4_ n5_ n6_ n7_ n8_ n9_ n10_ n11_ n12_ n13_ n14_ n15_ n16_
      clear hb hbox hg
      refine hK.out _ _ ⟨(blk_cell BK206.out 0).trans rfl, (blk_cell BK206.out 1).trans rfl, (blk_cell BK206.out 2).trans rfl, (blk_cell BK206.out 3).trans rfl, (blk_cell BK206.out 4).trans rfl, (blk_cell BK206.out 5).trans rfl, (blk_cell BK206.out 6).trans rfl, (blk_cell BK207.out 0).trans rfl, (blk_cell BK207.out 1).trans rfl, (blk_cell BK207.out 2).trans rfl, (blk_cell BK207.out 3).trans rfl, (blk_cell BK207.out 4).trans rfl, (blk_cell BK207.out 5).trans rfl⟩ (fun hHeld => ?_)
      clear hK K
      refine norm_ (a' := ?_) ?_ ?_
      rotate_left
      ·show Act.put _ (some 14) _ = _
       simp only [Act.put, List.setIfInBounds_toArray, List.set_cons_zero, List.set_cons_succ, i64_w, i32_w]
       rfl
      exact norm_ (by simp only [putAll, Act.put, List.setIfInBounds_toArray, List.set_cons_zero, List.set_cons_succ]) (hCont (gb208, gb209) _ ⟨hHeld, (by (with_reducible repeat (first | apply Kd.R_alloc | apply Kd.R_drewN | apply Kd.R_drew)); exact HO191.out), (by (with_reducible repeat (first | apply Kd.R_alloc | apply Kd.R_drewN | apply Kd.R_drew)); exact HO194.out), (by (with_reducible repeat (first | apply Kd.R_alloc | apply Kd.R_drewN | apply Kd.R_drew)); exact HO201.out), (by (with_reducible repeat (first | apply Kd.R_alloc | apply Kd.R_drewN | apply Kd.R_drew)); exact HO204.out), (by (with_reducible repeat (first | refine blk_drewN ?_ _ | refine blk_drew ?_ | refine blk_alloc ?_ _)); exact BK206.out), (by (with_reducible repeat (first | refine blk_drewN ?_ _ | refine blk_drew ?_ | refine blk_alloc ?_ _)); exact BK207.out), (by (with_reducible repeat (first | refine blk_drewN ?_ _ | refine blk_drew ?_ | refine blk_alloc ?_ _)); exact BK208.out), (by (with_reducible repeat (first | refine blk_drewN ?_ _ | refine blk_drew ?_ | refine blk_alloc ?_ _)); exact BK209.out), GW208.out, GE208.out, NB206_208.out, NB208_206.out, NB207_208.out, NB208_207.out, NB209_208.out, NB208_209.out, GW209.out, GE209.out, NB206_209.out, NB209_206.out, NB207_209.out, NB209_207.out, (by repeat (first | (with_reducible first | exact HB.out | apply below_alloc | apply pw_below_drewN | apply below_drew1 | refine below_set ?_ GE206.out | refine below_set ?_ GE207.out | refine below_set ?_ GE208.out | refine below_set ?_ GE209.out) | exact HB.out))⟩)
     ·skip
      refine box_step ?hg (N := 14) ?hd (cs := #[.string (⟨#[]⟩ : ByteArray), .int .i64 0, .int .i64 0, .slice none 0 0, .slice none 0 0, .bool false]) (t := 31) ?hr ?_; (case hd => rfl); (case hg => rfl); (case hr => first | (go_simp; done) | (go_simp; rfl))
      intro gb209 hg w35 hbox hb
      have n0_ := Aside0.mk (Kd.R_below (by (with_reducible repeat (first | apply Kd.R_alloc | apply Kd.R_drewN | apply Kd.R_drew)); exact HO191.out) hb)
      have n1_ := Aside0.mk (Kd.R_below (by (with_reducible repeat (first | apply Kd.R_alloc | apply Kd.R_drewN | apply Kd.R_drew)); exact HO194.out) hb)
      have n2_ := Aside0.mk (Kd.R_below (by (with_reducible repeat (first | apply Kd.R_alloc | apply Kd.R_drewN | apply Kd.R_drew)); exact HO201.out) hb)
      have n3_ := Aside0.mk (Kd.R_below (by (with_reducible repeat (first | apply Kd.R_alloc | apply Kd.R_drewN | apply Kd.R_drew)); exact HO204.out) hb)
      have n4_ := Aside0.mk (blk_below (g := gb206) (o := .cells #[.string t185, .int .i64 t186, .int .i64 t187, .int .i64 t188, .slice Ao28 t189.length co28, .slice Ao29 t192.length co29, .bool t195] 28 (0, 0)) (by (with_reducible repeat (first | refine blk_drewN ?_ _ | refine blk_drew ?_ | refine blk_alloc ?_ _)); exact BK206.out) hb)
      have n5_ := Aside0.mk (blk_below (g := gb207) (o := .cells #[.string t196, .int .i64 t197, .int .i64 t198, .slice Ao31 t199.length co31, .slice Ao32 t202.length co32, .bool t205] 31 (0, 0)) (by (with_reducible repeat (first | refine blk_drewN ?_ _ | refine blk_drew ?_ | refine blk_alloc ?_ _)); exact BK207.out) hb)
      have n6_ := Aside0.mk (below_step (by repeat (first | (with_reducible first | exact HB.out | apply below_alloc | apply pw_below_drewN | apply below_drew1 | refine below_set ?_ GE206.out | refine below_set ?_ GE207.out) | exact HB.out)) hb)
      have n7_ := Aside0.mk (hbox)
      have n8_ := Aside0.mk ((by rw [hg]; exact (below_size (by repeat (first | (with_reducible first | exact HB.out | apply below_alloc | apply pw_below_drewN | apply below_drew1 | refine below_set ?_ GE206.out | refine below_set ?_ GE207.out) | exact HB.out))) : w.heap.size ≤ gb209))
      have n9_ := Aside0.mk ((by rw [hg]; exact (below_size (by repeat (first | (with_reducible first | exact HB.out | apply below_alloc | apply pw_below_drewN | apply below_drew1 | refine below_set ?_ GE206.out | refine below_set ?_ GE207.out) | exact HB.out))) : w.heap.size ≤ gb209))
      have n10_ := Aside0.mk ((by rw [hg]; exact Nat.ne_of_lt (blk_lt (g := gb206) (o := .cells #[.string t185, .int .i64 t186, .int .i64 t187, .int .i64 t188, .slice Ao28 t189.length co28, .slice Ao29 t192.length co29, .bool t195] 28 (0, 0)) (by (with_reducible repeat (first | refine blk_drewN ?_ _ | refine blk_drew ?_ | refine blk_alloc ?_ _)); exact BK206.out)) : gb206 ≠ gb209))
      have n11_ := Aside0.mk ((by rw [hg]; exact Nat.ne_of_gt (blk_lt (g := gb206) (o := .cells #[.string t185, .int .i64 t186, .int .i64 t187, .int .i64 t188, .slice Ao28 t189.length co28, .slice Ao29 t192.length co29, .bool t195] 28 (0, 0)) (by (with_reducible repeat (first | refine blk_drewN ?_ _ | refine blk_drew ?_ | refine blk_alloc ?_ _)); exact BK206.out)) : gb209 ≠ gb206))
      have n12_ := Aside0.mk ((by rw [hg]; exact Nat.ne_of_lt (blk_lt (g := gb207) (o := .cells #[.string t196, .int .i64 t197, .int .i64 t198, .slice Ao31 t199.length co31, .slice Ao32 t202.length co32, .bool t205] 31 (0, 0)) (by (with_reducible repeat (first | refine blk_drewN ?_ _ | refine blk_drew ?_ | refine blk_alloc ?_ _)); exact BK207.out)) : gb207 ≠ gb209))
      have n13_ := Aside0.mk ((by rw [hg]; exact Nat.ne_of_gt (blk_lt (g := gb207) (o := .cells #[.string t196, .int .i64 t197, .int .i64 t198, .slice Ao31 t199.length co31, .slice Ao32 t202.length co32, .bool t205] 31 (0, 0)) (by (with_reducible repeat (first | refine blk_drewN ?_ _ | refine blk_drew ?_ | refine blk_alloc ?_ _)); exact BK207.out)) : gb209 ≠ gb207))
      clear HO191
      clear HO194
      clear HO201
      clear HO204
      clear BK206
      clear BK207
      clear HB
      have HO191 := n0_
      have HO194 := n1_
      have HO201 := n2_
      have HO204 := n3_
      have BK206 := n4_
      have BK207 := n5_
      have HB := n6_
      have BK209 := n7_
      have GW209 := n8_
      have GE209 := n9_
      have NB206_209 := n10_
      have NB209_206 := n11_
      have NB207_209 := n12_
      have NB209_207 := n13_
      clear n0_ n1_ n2_ n3_ n4_ n5_ n6_ n7_ n8_ n9_ n10_ n11_ n12_ n13_
      clear hb hbox hg
      refine hK.out _ _ ⟨(blk_cell BK206.out 0).trans rfl, (blk_cell BK206.out 1).trans rfl, (blk_cell BK206.out 2).trans rfl, (blk_cell BK206.out 3).trans rfl, (blk_cell BK206.out 4).trans rfl, (blk_cell BK206.out 5).trans rfl, (blk_cell BK206.out 6).trans rfl, (blk_cell BK207.out 0).trans rfl, (blk_cell BK207.out 1).trans rfl, (blk_cell BK207.out 2).trans rfl, (blk_cell BK207.out 3).trans rfl, (blk_cell BK207.out 4).trans rfl, (blk_cell BK207.out 5).trans rfl⟩ (fun hHeld => ?_)
      clear hK K
      refine norm_ (a' := ?_) ?_ ?_
      rotate_left
      ·show Act.put _ (some 14) _ = _
       simp only [Act.put, List.setIfInBounds_toArray, List.set_cons_zero, List.set_cons_succ, i64_w, i32_w]
       rfl
      refine one_ (i := 2) (N := some 13) #[true, true, true, true, false, false] rfl rfl (by kernel_rfl) (by decide) (fun K hK => ?_)
      refine box_step ?hg (N := 13) ?hd (cs := #[.string (⟨#[]⟩ : ByteArray), .int .i64 0, .int .i64 0, .int .i64 0, .slice none 0 0, .slice none 0 0, .bool false]) (t := 28) ?hr ?_; (case hd => rfl); (case hg => rfl); (case hr => first | (go_simp; done) | (go_simp; rfl))
      intro gb208 hg w36 hbox hb
      have n0_ := Aside0.mk (Kd.R_below (by (with_reducible repeat (first | apply Kd.R_alloc | apply Kd.R_drewN | apply Kd.R_drew)); exact HO191.out) hb)
      have n1_ := Aside0.mk (Kd.R_below (by (with_reducible repeat (first | apply Kd.R_alloc | apply Kd.R_drewN | apply Kd.R_drew)); exact HO194.out) hb)
      have n2_ := Aside0.mk (Kd.R_below (by (with_reducible repeat (first | apply Kd.R_alloc | apply Kd.R_drewN | apply Kd.R_drew)); exact HO201.out) hb)
      have n3_ := Aside0.mk (Kd.R_below (by (with_reducible repeat (first | apply Kd.R_alloc | apply Kd.R_drewN | apply Kd.R_drew)); exact HO204.out) hb)
      have n4_ := Aside0.mk (blk_below (g := gb206) (o := .cells #[.string t185, .int .i64 t186, .int .i64 t187, .int .i64 t188, .slice Ao28 t189.length co28, .slice Ao29 t192.length co29, .bool t195] 28 (0, 0)) (by (with_reducible repeat (first | refine blk_drewN ?_ _ | refine blk_drew ?_ | refine blk_alloc ?_ _)); exact BK206.out) hb)
      have n5_ := Aside0.mk (blk_below (g := gb207) (o := .cells #[.string t196, .int .i64 t197, .int .i64 t198, .slice Ao31 t199.length co31, .slice Ao32 t202.length co32, .bool t205] 31 (0, 0)) (by (with_reducible repeat (first | refine blk_drewN ?_ _ | refine blk_drew ?_ | refine blk_alloc ?_ _)); exact BK207.out) hb)
      have n6_ := Aside0.mk (blk_below (g := gb209) (o := .cells #[.string (⟨#[]⟩ : ByteArray), .int .i64 0, .int .i64 0, .slice none 0 0, .slice none 0 0, .bool false] 31 (0, 0)) (by (with_reducible repeat (first | refine blk_drewN ?_ _ | refine blk_drew ?_ | refine blk_alloc ?_ _)); exact BK209.out) hb)
      have n7_ := Aside0.mk (below_step (by repeat (first | (with_reducible first | exact HB.out | apply below_alloc | apply pw_below_drewN | apply below_drew1 | refine below_set ?_ GE206.out | refine below_set ?_ GE207.out | refine below_set ?_ GE209.out) | exact HB.out)) hb)
      have n8_ := Aside0.mk (hbox)
      have n9_ := Aside0.mk ((by rw [hg]; exact (below_size (by repeat (first | (with_reducible first | exact HB.out | apply below_alloc | apply pw_below_drewN | apply below_drew1 | refine below_set ?_ GE206.out | refine below_set ?_ GE207.out | refine below_set ?_ GE209.out) | exact HB.out))) : w.heap.size ≤ gb208))
      have n10_ := Aside0.mk ((by rw [hg]; exact (below_size (by repeat (first | (with_reducible first | exact HB.out | apply below_alloc | apply pw_below_drewN | apply below_drew1 | refine below_set ?_ GE206.out | refine below_set ?_ GE207.out | refine below_set ?_ GE209.out) | exact HB.out))) : w.heap.size ≤ gb208))
      have n11_ := Aside0.mk ((by rw [hg]; exact Nat.ne_of_lt (blk_lt (g := gb206) (o := .cells #[.string t185, .int .i64 t186, .int .i64 t187, .int .i64 t188, .slice Ao28 t189.length co28, .slice Ao29 t192.length co29, .bool t195] 28 (0, 0)) (by (with_reducible repeat (first | refine blk_drewN ?_ _ | refine blk_drew ?_ | refine blk_alloc ?_ _)); exact BK206.out)) : gb206 ≠ gb208))
      have n12_ := Aside0.mk ((by rw [hg]; exact Nat.ne_of_gt (blk_lt (g := gb206) (o := .cells #[.string t185, .int .i64 t186, .int .i64 t187, .int .i64 t188, .slice Ao28 t189.length co28, .slice Ao29 t192.length co29, .bool t195] 28 (0, 0)) (by (with_reducible repeat (first | refine blk_drewN ?_ _ | refine blk_drew ?_ | refine blk_alloc ?_ _)); exact BK206.out)) : gb208 ≠ gb206))
      have n13_ := Aside0.mk ((by rw [hg]; exact Nat.ne_of_lt (blk_lt (g := gb207) (o := .cells #[.string t196, .int .i64 t197, .int .i64 t198, .slice Ao31 t199.length co31, .slice Ao32 t202.length co32, .bool t205] 31 (0, 0)) (by (with_reducible repeat (first | refine blk_drewN ?_ _ | refine blk_drew ?_ | refine blk_alloc ?_ _)); exact BK207.out)) : gb207 ≠ gb208))
      have n14_ := Aside0.mk ((by rw [hg]; exact Nat.ne_of_gt (blk_lt (g := gb207) (o := .cells #[.string t196, .int .i64 t197, .int .i64 t198, .slice Ao31 t199.length co31, .slice Ao32 t202.length co32, .bool t205] 31 (0, 0)) (by (with_reducible repeat (first | refine blk_drewN ?_ _ | refine blk_drew ?_ | refine blk_alloc ?_ _)); exact BK207.out)) : gb208 ≠ gb207))
      have n15_ := Aside0.mk ((by rw [hg]; exact Nat.ne_of_lt (blk_lt (g := gb209) (o := .cells #[.string (⟨#[]⟩ : ByteArray), .int .i64 0, .int .i64 0, .slice none 0 0, .slice none 0 0, .bool false] 31 (0, 0)) (by (with_reducible repeat (first | refine blk_drewN ?_ _ | refine blk_drew ?_ | refine blk_alloc ?_ _)); exact BK209.out)) : gb209 ≠ gb208))
      have n16_ := Aside0.mk ((by rw [hg]; exact Nat.ne_of_gt (blk_lt (g := gb209) (o := .cells #[.string (⟨#[]⟩ : ByteArray), .int .i64 0, .int .i64 0, .slice none 0 0, .slice none 0 0, .bool false] 31 (0, 0)) (by (with_reducible repeat (first | refine blk_drewN ?_ _ | refine blk_drew ?_ | refine blk_alloc ?_ _)); exact BK209.out)) : gb208 ≠ gb209))
      clear HO191
      clear HO194
      clear HO201
      clear HO204
      clear BK206
      clear BK207
      clear BK209
      clear HB
      have HO191 := n0_
      have HO194 := n1_
      have HO201 := n2_
      have HO204 := n3_
      have BK206 := n4_
      have BK207 := n5_
      have BK209 := n6_
      have HB := n7_
      have BK208 := n8_
      have GW208 := n9_
      have GE208 := n10_
      have NB206_208 := n11_
      have NB208_206 := n12_
      have NB207_208 := n13_
      have NB208_207 := n14_
      have NB209_208 := n15_
      have NB208_209 := n16_
      clear n0_ n1_ n2_ n3_ n4_ n5_ n6_ n7_ n8_ n9_ n10_ n11_ n12_ n13_ n14_ n15_ n16_
      clear hb hbox hg
      refine hK.out _ _ ⟨(blk_cell BK206.out 0).trans rfl, (blk_cell BK206.out 1).trans rfl, (blk_cell BK206.out 2).trans rfl, (blk_cell BK206.out 3).trans rfl, (blk_cell BK206.out 4).trans rfl, (blk_cell BK206.out 5).trans rfl, (blk_cell BK206.out 6).trans rfl, (blk_cell BK207.out 0).trans rfl, (blk_cell BK207.out 1).trans rfl, (blk_cell BK207.out 2).trans rfl, (blk_cell BK207.out 3).trans rfl, (blk_cell BK207.out 4).trans rfl, (blk_cell BK207.out 5).trans rfl⟩ (fun hHeld => ?_)
      clear hK K
      refine norm_ (a' := ?_) ?_ ?_
      rotate_left
      ·show Act.put _ (some 13) _ = _
       simp only [Act.put, List.setIfInBounds_toArray, List.set_cons_zero, List.set_cons_succ, i64_w, i32_w]
       rfl
      exact norm_ (by simp only [putAll, Act.put, List.setIfInBounds_toArray, List.set_cons_zero, List.set_cons_succ]) (hCont (gb208, gb209) _ ⟨hHeld, (by (with_reducible repeat (first | apply Kd.R_alloc | apply Kd.R_drewN | apply Kd.R_drew)); exact HO191.out), (by (with_reducible repeat (first | apply Kd.R_alloc | apply Kd.R_drewN | apply Kd.R_drew)); exact HO194.out), (by (with_reducible repeat (first | apply Kd.R_alloc | apply Kd.R_drewN | apply Kd.R_drew)); exact HO201.out), (by (with_reducible repeat (first | apply Kd.R_alloc | apply Kd.R_drewN | apply Kd.R_drew)); exact HO204.out), (by (with_reducible repeat (first | refine blk_drewN ?_ _ | refine blk_drew ?_ | refine blk_alloc ?_ _)); exact BK206.out), (by (with_reducible repeat (first | refine blk_drewN ?_ _ | refine blk_drew ?_ | refine blk_alloc ?_ _)); exact BK207.out), (by (with_reducible repeat (first | refine blk_drewN ?_ _ | refine blk_drew ?_ | refine blk_alloc ?_ _)); exact BK208.out), (by (with_reducible repeat (first | refine blk_drewN ?_ _ | refine blk_drew ?_ | refine blk_alloc ?_ _)); exact BK209.out), GW208.out, GE208.out, NB206_208.out, NB208_206.out, NB207_208.out, NB208_207.out, NB209_208.out, NB208_209.out, GW209.out, GE209.out, NB206_209.out, NB209_206.out, NB207_209.out, NB209_207.out, (by repeat (first | (with_reducible first | exact HB.out | apply below_alloc | apply pw_below_drewN | apply below_drew1 | refine below_set ?_ GE206.out | refine below_set ?_ GE207.out | refine below_set ?_ GE209.out | refine below_set ?_ GE208.out) | exact HB.out))⟩)
    rintro ⟨gb208, gb209⟩ w37 ⟨hS_, h0_, h1_, h2_, h3_, h4_, h5_, h6_, h7_, h8_, h9_, h10_, h11_, h12_, h13_, h14_, h15_, h16_, h17_, h18_, h19_, h20_, h21_, h22_⟩
    have n0_ : Aside0 (Kd.R Kd.string 9 w37 w.heap.size (fun k_ => some k_ ≠ (.slice Ao29 t192.length co29 : Value).ownBlock ∧ some k_ ≠ (.slice Ao31 t199.length co31 : Value).ownBlock ∧ some k_ ≠ (.slice Ao32 t202.length co32 : Value).ownBlock) (.slice Ao28 t189.length co28) t189) := ⟨h0_⟩
    have n1_ : Aside0 (Kd.R Kd.string 9 w37 w.heap.size (fun k_ => some k_ ≠ (.slice Ao28 t189.length co28 : Value).ownBlock ∧ some k_ ≠ (.slice Ao31 t199.length co31 : Value).ownBlock ∧ some k_ ≠ (.slice Ao32 t202.length co32 : Value).ownBlock) (.slice Ao29 t192.length co29) t192) := ⟨h1_⟩
    have n2_ : Aside0 (Kd.R Kd.string 9 w37 w.heap.size (fun k_ => some k_ ≠ (.slice Ao28 t189.length co28 : Value).ownBlock ∧ some k_ ≠ (.slice Ao29 t192.length co29 : Value).ownBlock ∧ some k_ ≠ (.slice Ao32 t202.length co32 : Value).ownBlock) (.slice Ao31 t199.length co31) t199) := ⟨h2_⟩
    have n3_ : Aside0 (Kd.R Kd.string 9 w37 w.heap.size (fun k_ => some k_ ≠ (.slice Ao28 t189.length co28 : Value).ownBlock ∧ some k_ ≠ (.slice Ao29 t192.length co29 : Value).ownBlock ∧ some k_ ≠ (.slice Ao31 t199.length co31 : Value).ownBlock) (.slice Ao32 t202.length co32) t202) := ⟨h3_⟩
    have n4_ : Aside0 (w37.heap[gb206]? = some (.cells #[.string t185, .int .i64 t186, .int .i64 t187, .int .i64 t188, .slice Ao28 t189.length co28, .slice Ao29 t192.length co29, .bool t195] 28 (0, 0))) := ⟨h4_⟩
    have n5_ : Aside0 (w37.heap[gb207]? = some (.cells #[.string t196, .int .i64 t197, .int .i64 t198, .slice Ao31 t199.length co31, .slice Ao32 t202.length co32, .bool t205] 31 (0, 0))) := ⟨h5_⟩
    have n6_ : Aside0 (w37.heap[gb208]? = some (.cells #[.string (⟨#[]⟩ : ByteArray), .int .i64 0, .int .i64 0, .int .i64 0, .slice none 0 0, .slice none 0 0, .bool false] 28 (0, 0))) := ⟨h6_⟩
    have n7_ : Aside0 (w37.heap[gb209]? = some (.cells #[.string (⟨#[]⟩ : ByteArray), .int .i64 0, .int .i64 0, .slice none 0 0, .slice none 0 0, .bool false] 31 (0, 0))) := ⟨h7_⟩
    have n8_ : Aside0 (w.heap.size ≤ gb208) := ⟨h8_⟩
    have n9_ : Aside0 (w.heap.size ≤ gb208) := ⟨h9_⟩
    have n10_ : Aside0 (gb206 ≠ gb208) := ⟨h10_⟩
    have n11_ : Aside0 (gb208 ≠ gb206) := ⟨h11_⟩
    have n12_ : Aside0 (gb207 ≠ gb208) := ⟨h12_⟩
    have n13_ : Aside0 (gb208 ≠ gb207) := ⟨h13_⟩
    have n14_ : Aside0 (gb209 ≠ gb208) := ⟨h14_⟩
    have n15_ : Aside0 (gb208 ≠ gb209) := ⟨h15_⟩
    have n16_ : Aside0 (w.heap.size ≤ gb209) := ⟨h16_⟩
    have n17_ : Aside0 (w.heap.size ≤ gb209) := ⟨h17_⟩
    have n18_ : Aside0 (gb206 ≠ gb209) := ⟨h18_⟩
    have n19_ : Aside0 (gb209 ≠ gb206) := ⟨h19_⟩
    have n20_ : Aside0 (gb207 ≠ gb209) := ⟨h20_⟩
    have n21_ : Aside0 (gb209 ≠ gb207) := ⟨h21_⟩
    have n22_ : Aside0 (Below w.heap.size w w37) := ⟨h22_⟩
    clear HO191
    clear HO194
    clear HO201
    clear HO204
    clear BK206
    clear BK207
    clear HB
    clear h0_ h1_ h2_ h3_ h4_ h5_ h6_ h7_ h8_ h9_ h10_ h11_ h12_ h13_ h14_ h15_ h16_ h17_ h18_ h19_ h20_ h21_ h22_
    have HO191 := n0_
    have HO194 := n1_
    have HO201 := n2_
    have HO204 := n3_
    have BK206 := n4_
    have BK207 := n5_
    have BK208 := n6_
    have BK209 := n7_
    have GW208 := n8_
    have GE208 := n9_
    have NB206_208 := n10_
    have NB208_206 := n11_
    have NB207_208 := n12_
    have NB208_207 := n13_
    have NB209_208 := n14_
    have NB208_209 := n15_
    have GW209 := n16_
    have GE209 := n17_
    have NB206_209 := n18_
    have NB209_206 := n19_
    have NB207_209 := n20_
    have NB209_207 := n21_
    have HB := n22_
    clear n0_ n1_ n2_ n3_ n4_ n5_ n6_ n7_ n8_ n9_ n10_ n11_ n12_ n13_ n14_ n15_ n16_ n17_ n18_ n19_ n20_ n21_ n22_
    have hHeld : w37.cell? ⟨gb206, 0, none⟩ = some (.string t185) ∧ w37.cell? ⟨gb206, 1, none⟩ = some (.int .i64 t186) ∧ w37.cell? ⟨gb206, 2, none⟩ = some (.int .i64 t187) ∧ w37.cell? ⟨gb206, 3, none⟩ = some (.int .i64 t188) ∧ w37.cell? ⟨gb206, 4, none⟩ = some (.slice Ao28 t189.length co28) ∧ w37.cell? ⟨gb206, 5, none⟩ = some (.slice Ao29 t192.length co29) ∧ w37.cell? ⟨gb206, 6, none⟩ = some (.bool t195) ∧ w37.cell? ⟨gb207, 0, none⟩ = some (.string t196) ∧ w37.cell? ⟨gb207, 1, none⟩ = some (.int .i64 t197) ∧ w37.cell? ⟨gb207, 2, none⟩ = some (.int .i64 t198) ∧ w37.cell? ⟨gb207, 3, none⟩ = some (.slice Ao31 t199.length co31) ∧ w37.cell? ⟨gb207, 4, none⟩ = some (.slice Ao32 t202.length co32) ∧ w37.cell? ⟨gb207, 5, none⟩ = some (.bool t205) := hS_
    refine norm_ (a' := ?_) ?_ ?_
    rotate_left
    ·simp only [putAll, Act.put, List.setIfInBounds_toArray, List.set_cons_zero, List.set_cons_succ]
     rfl
    refine one_ (i := 4) (N := none) #[true, true, true, true, true, false] rfl rfl (by kernel_rfl) (by decide) (fun K hK => ?_)
    have hs38 : w37.cell? ⟨gb208, 0, none⟩ = some (.string (⟨#[]⟩ : ByteArray)) := (blk_cell BK208.out 0).trans rfl
    have hfs38 := blk_frozen BK208.out 0
    have hns38_0 := NB206_208.out
    have hns38_1 := NB207_208.out
    have hns38_3 := NB209_208.out
    have hms38_0 := NB208_206.out
    have hms38_1 := NB208_207.out
    have hms38_3 := NB208_209.out
    have hs39 : w37.cell? ⟨gb208, 1, none⟩ = some (.int .i64 0) := (blk_cell BK208.out 1).trans rfl
    have hfs39 := blk_frozen BK208.out 1
    have hns39_0 := NB206_208.out
    have hns39_1 := NB207_208.out
    have hns39_3 := NB209_208.out
    have hms39_0 := NB208_206.out
    have hms39_1 := NB208_207.out
    have hms39_3 := NB208_209.out
    have hs40 : w37.cell? ⟨gb208, 2, none⟩ = some (.int .i64 0) := (blk_cell BK208.out 2).trans rfl
    have hfs40 := blk_frozen BK208.out 2
    have hns40_0 := NB206_208.out
    have hns40_1 := NB207_208.out
    have hns40_3 := NB209_208.out
    have hms40_0 := NB208_206.out
    have hms40_1 := NB208_207.out
    have hms40_3 := NB208_209.out
    have hs41 : w37.cell? ⟨gb208, 3, none⟩ = some (.int .i64 0) := (blk_cell BK208.out 3).trans rfl
    have hfs41 := blk_frozen BK208.out 3
    have hns41_0 := NB206_208.out
    have hns41_1 := NB207_208.out
    have hns41_3 := NB209_208.out
    have hms41_0 := NB208_206.out
    have hms41_1 := NB208_207.out
    have hms41_3 := NB208_209.out
    have hs42 : w37.cell? ⟨gb208, 4, none⟩ = some (.slice none 0 0) := (blk_cell BK208.out 4).trans rfl
    have hfs42 := blk_frozen BK208.out 4
    have hns42_0 := NB206_208.out
    have hns42_1 := NB207_208.out
    have hns42_3 := NB209_208.out
    have hms42_0 := NB208_206.out
    have hms42_1 := NB208_207.out
    have hms42_3 := NB208_209.out
    have hs43 : w37.cell? ⟨gb208, 5, none⟩ = some (.slice none 0 0) := (blk_cell BK208.out 5).trans rfl
    have hfs43 := blk_frozen BK208.out 5
    have hns43_0 := NB206_208.out
    have hns43_1 := NB207_208.out
    have hns43_3 := NB209_208.out
    have hms43_0 := NB208_206.out
    have hms43_1 := NB208_207.out
    have hms43_3 := NB208_209.out
    have hs44 : w37.cell? ⟨gb208, 6, none⟩ = some (.bool false) := (blk_cell BK208.out 6).trans rfl
    have hfs44 := blk_frozen BK208.out 6
    have hns44_0 := NB206_208.out
    have hns44_1 := NB207_208.out
    have hns44_3 := NB209_208.out
    have hms44_0 := NB208_206.out
    have hms44_1 := NB208_207.out
    have hms44_3 := NB208_209.out
    refine skip_ (w1 := ?_) ?hw ?hN ?hrun ?_
    case hw => rfl
    case hN => rfl
    case hrun =>
     go_simp
     rfl
    refine hK.out _ _ ⟨((cell_far (p := ⟨gb208, _, none⟩) NB206_208.out _).trans (((cell_far (p := ⟨gb208, _, none⟩) NB206_208.out _).trans (((cell_far (p := ⟨gb208, _, none⟩) NB206_208.out _).trans (((cell_far (p := ⟨gb208, _, none⟩) NB206_208.out _).trans (((cell_far (p := ⟨gb208, _, none⟩) NB206_208.out _).trans (((cell_far (p := ⟨gb208, _, none⟩) NB206_208.out _).trans (((cell_far (p := ⟨gb208, _, none⟩) NB206_208.out _).trans (hHeld.1)))))))))))))), ((cell_far (p := ⟨gb208, _, none⟩) NB206_208.out _).trans (((cell_far (p := ⟨gb208, _, none⟩) NB206_208.out _).trans (((cell_far (p := ⟨gb208, _, none⟩) NB206_208.out _).trans (((cell_far (p := ⟨gb208, _, none⟩) NB206_208.out _).trans (((cell_far (p := ⟨gb208, _, none⟩) NB206_208.out _).trans (((cell_far (p := ⟨gb208, _, none⟩) NB206_208.out _).trans (((cell_far (p := ⟨gb208, _, none⟩) NB206_208.out _).trans (hHeld.2.1)))))))))))))), ((cell_far (p := ⟨gb208, _, none⟩) NB206_208.out _).trans (((cell_far (p := ⟨gb208, _, none⟩) NB206_208.out _).trans (((cell_far (p := ⟨gb208, _, none⟩) NB206_208.out _).trans (((cell_far (p := ⟨gb208, _, none⟩) NB206_208.out _).trans (((cell_far (p := ⟨gb208, _, none⟩) NB206_208.out _).trans (((cell_far (p := ⟨gb208, _, none⟩) NB206_208.out _).trans (((cell_far (p := ⟨gb208, _, none⟩) NB206_208.out _).trans (hHeld.2.2.1)))))))))))))), ((cell_far (p := ⟨gb208, _, none⟩) NB206_208.out _).trans (((cell_far (p := ⟨gb208, _, none⟩) NB206_208.out _).trans (((cell_far (p := ⟨gb208, _, none⟩) NB206_208.out _).trans (((cell_far (p := ⟨gb208, _, none⟩) NB206_208.out _).trans (((cell_far (p := ⟨gb208, _, none⟩) NB206_208.out _).trans (((cell_far (p := ⟨gb208, _, none⟩) NB206_208.out _).trans (((cell_far (p := ⟨gb208, _, none⟩) NB206_208.out _).trans (hHeld.2.2.2.1)))))))))))))), ((cell_far (p := ⟨gb208, _, none⟩) NB206_208.out _).trans (((cell_far (p := ⟨gb208, _, none⟩) NB206_208.out _).trans (((cell_far (p := ⟨gb208, _, none⟩) NB206_208.out _).trans (((cell_far (p := ⟨gb208, _, none⟩) NB206_208.out _).trans (((cell_far (p := ⟨gb208, _, none⟩) NB206_208.out _).trans (((cell_far (p := ⟨gb208, _, none⟩) NB206_208.out _).trans (((cell_far (p := ⟨gb208, _, none⟩) NB206_208.out _).trans (hHeld.2.2.2.2.1)))))))))))))), ((cell_far (p := ⟨gb208, _, none⟩) NB206_208.out _).trans (((cell_far (p := ⟨gb208, _, none⟩) NB206_208.out _).trans (((cell_far (p := ⟨gb208, _, none⟩) NB206_208.out _).trans (((cell_far (p := ⟨gb208, _, none⟩) NB206_208.out _).trans (((cell_far (p := ⟨gb208, _, none⟩) NB206_208.out _).trans (((cell_far (p := ⟨gb208, _, none⟩) NB206_208.out _).trans (((cell_far (p := ⟨gb208, _, none⟩) NB206_208.out _).trans (hHeld.2.2.2.2.2.1)))))))))))))), ((cell_far (p := ⟨gb208, _, none⟩) NB206_208.out _).trans (((cell_far (p := ⟨gb208, _, none⟩) NB206_208.out _).trans (((cell_far (p := ⟨gb208, _, none⟩) NB206_208.out _).trans (((cell_far (p := ⟨gb208, _, none⟩) NB206_208.out _).trans (((cell_far (p := ⟨gb208, _, none⟩) NB206_208.out _).trans (((cell_far (p := ⟨gb208, _, none⟩) NB206_208.out _).trans (((cell_far (p := ⟨gb208, _, none⟩) NB206_208.out _).trans (hHeld.2.2.2.2.2.2.1)))))))))))))), ((cell_far (p := ⟨gb208, _, none⟩) NB207_208.out _).trans (((cell_far (p := ⟨gb208, _, none⟩) NB207_208.out _).trans (((cell_far (p := ⟨gb208, _, none⟩) NB207_208.out _).trans (((cell_far (p := ⟨gb208, _, none⟩) NB207_208.out _).trans (((cell_far (p := ⟨gb208, _, none⟩) NB207_208.out _).trans (((cell_far (p := ⟨gb208, _, none⟩) NB207_208.out _).trans (((cell_far (p := ⟨gb208, _, none⟩) NB207_208.out _).trans (hHeld.2.2.2.2.2.2.2.1)))))))))))))), ((cell_far (p := ⟨gb208, _, none⟩) NB207_208.out _).trans (((cell_far (p := ⟨gb208, _, none⟩) NB207_208.out _).trans (((cell_far (p := ⟨gb208, _, none⟩) NB207_208.out _).trans (((cell_far (p := ⟨gb208, _, none⟩) NB207_208.out _).trans (((cell_far (p := ⟨gb208, _, none⟩) NB207_208.out _).trans (((cell_far (p := ⟨gb208, _, none⟩) NB207_208.out _).trans (((cell_far (p := ⟨gb208, _, none⟩) NB207_208.out _).trans (hHeld.2.2.2.2.2.2.2.2.1)))))))))))))), ((cell_far (p := ⟨gb208, _, none⟩) NB207_208.out _).trans (((cell_far (p := ⟨gb208, _, none⟩) NB207_208.out _).trans (((cell_far (p := ⟨gb208, _, none⟩) NB207_208.out _).trans (((cell_far (p := ⟨gb208, _, none⟩) NB207_208.out _).trans (((cell_far (p := ⟨gb208, _, none⟩) NB207_208.out _).trans (((cell_far (p := ⟨gb208, _, none⟩) NB207_208.out _).trans (((cell_far (p := ⟨gb208, _, none⟩) NB207_208.out _).trans (hHeld.2.2.2.2.2.2.2.2.2.1)))))))))))))), ((cell_far (p := ⟨gb208, _, none⟩) NB207_208.out _).trans (((cell_far (p := ⟨gb208, _, none⟩) NB207_208.out _).trans (((cell_far (p := ⟨gb208, _, none⟩) NB207_208.out _).trans (((cell_far (p := ⟨gb208, _, none⟩) NB207_208.out _).trans (((cell_far (p := ⟨gb208, _, none⟩) NB207_208.out _).trans (((cell_far (p := ⟨gb208, _, none⟩) NB207_208.out _).trans (((cell_far (p := ⟨gb208, _, none⟩) NB207_208.out _).trans (hHeld.2.2.2.2.2.2.2.2.2.2.1)))))))))))))), ((cell_far (p := ⟨gb208, _, none⟩) NB207_208.out _).trans (((cell_far (p := ⟨gb208, _, none⟩) NB207_208.out _).trans (((cell_far (p := ⟨gb208, _, none⟩) NB207_208.out _).trans (((cell_far (p := ⟨gb208, _, none⟩) NB207_208.out _).trans (((cell_far (p := ⟨gb208, _, none⟩) NB207_208.out _).trans (((cell_far (p := ⟨gb208, _, none⟩) NB207_208.out _).trans (((cell_far (p := ⟨gb208, _, none⟩) NB207_208.out _).trans (hHeld.2.2.2.2.2.2.2.2.2.2.2.1)))))))))))))), ((cell_far (p := ⟨gb208, _, none⟩) NB207_208.out _).trans (((cell_far (p := ⟨gb208, _, none⟩) NB207_208.out _).trans (((cell_far (p := ⟨gb208, _, none⟩) NB207_208.out _).trans (((cell_far (p := ⟨gb208, _, none⟩) NB207_208.out _).trans (((cell_far (p := ⟨gb208, _, none⟩) NB207_208.out _).trans (((cell_far (p := ⟨gb208, _, none⟩) NB207_208.out _).trans (((cell_far (p := ⟨gb208, _, none⟩) NB207_208.out _).trans (hHeld.2.2.2.2.2.2.2.2.2.2.2.2))))))))))))))⟩ (fun hHeld => ?_)
    clear hK K
    refine one_ (i := 5) (N := none) #[true, true, true, true, true, true] rfl rfl (by kernel_rfl) (by decide) (fun K hK => ?_)
    have hs45 : w37.cell? ⟨gb209, 0, none⟩ = some (.string (⟨#[]⟩ : ByteArray)) := (blk_cell BK209.out 0).trans rfl
    have hfs45 := blk_frozen BK209.out 0
    have hns45_0 := NB206_209.out
    have hns45_1 := NB207_209.out
    have hns45_2 := NB208_209.out
    have hms45_0 := NB209_206.out
    have hms45_1 := NB209_207.out
    have hms45_2 := NB209_208.out
    have hs46 : w37.cell? ⟨gb209, 1, none⟩ = some (.int .i64 0) := (blk_cell BK209.out 1).trans rfl
    have hfs46 := blk_frozen BK209.out 1
    have hns46_0 := NB206_209.out
    have hns46_1 := NB207_209.out
    have hns46_2 := NB208_209.out
    have hms46_0 := NB209_206.out
    have hms46_1 := NB209_207.out
    have hms46_2 := NB209_208.out
    have hs47 : w37.cell? ⟨gb209, 2, none⟩ = some (.int .i64 0) := (blk_cell BK209.out 2).trans rfl
    have hfs47 := blk_frozen BK209.out 2
    have hns47_0 := NB206_209.out
    have hns47_1 := NB207_209.out
    have hns47_2 := NB208_209.out
    have hms47_0 := NB209_206.out
    have hms47_1 := NB209_207.out
    have hms47_2 := NB209_208.out
    have hs48 : w37.cell? ⟨gb209, 3, none⟩ = some (.slice none 0 0) := (blk_cell BK209.out 3).trans rfl
    have hfs48 := blk_frozen BK209.out 3
    have hns48_0 := NB206_209.out
    have hns48_1 := NB207_209.out
    have hns48_2 := NB208_209.out
    have hms48_0 := NB209_206.out
    have hms48_1 := NB209_207.out
    have hms48_2 := NB209_208.out
    have hs49 : w37.cell? ⟨gb209, 4, none⟩ = some (.slice none 0 0) := (blk_cell BK209.out 4).trans rfl
    have hfs49 := blk_frozen BK209.out 4
    have hns49_0 := NB206_209.out
    have hns49_1 := NB207_209.out
    have hns49_2 := NB208_209.out
    have hms49_0 := NB209_206.out
    have hms49_1 := NB209_207.out
    have hms49_2 := NB209_208.out
    have hs50 : w37.cell? ⟨gb209, 5, none⟩ = some (.bool false) := (blk_cell BK209.out 5).trans rfl
    have hfs50 := blk_frozen BK209.out 5
    have hns50_0 := NB206_209.out
    have hns50_1 := NB207_209.out
    have hns50_2 := NB208_209.out
    have hms50_0 := NB209_206.out
    have hms50_1 := NB209_207.out
    have hms50_2 := NB209_208.out
    refine skip_ (w1 := ?_) ?hw ?hN ?hrun ?_
    case hw => rfl
    case hN => rfl
    case hrun =>
     go_simp
     rfl
    refine hK.out _ _ ⟨((cell_far (p := ⟨gb209, _, none⟩) NB206_209.out _).trans (((cell_far (p := ⟨gb209, _, none⟩) NB206_209.out _).trans (((cell_far (p := ⟨gb209, _, none⟩) NB206_209.out _).trans (((cell_far (p := ⟨gb209, _, none⟩) NB206_209.out _).trans (((cell_far (p := ⟨gb209, _, none⟩) NB206_209.out _).trans (((cell_far (p := ⟨gb209, _, none⟩) NB206_209.out _).trans (hHeld.1)))))))))))), ((cell_far (p := ⟨gb209, _, none⟩) NB206_209.out _).trans (((cell_far (p := ⟨gb209, _, none⟩) NB206_209.out _).trans (((cell_far (p := ⟨gb209, _, none⟩) NB206_209.out _).trans (((cell_far (p := ⟨gb209, _, none⟩) NB206_209.out _).trans (((cell_far (p := ⟨gb209, _, none⟩) NB206_209.out _).trans (((cell_far (p := ⟨gb209, _, none⟩) NB206_209.out _).trans (hHeld.2.1)))))))))))), ((cell_far (p := ⟨gb209, _, none⟩) NB206_209.out _).trans (((cell_far (p := ⟨gb209, _, none⟩) NB206_209.out _).trans (((cell_far (p := ⟨gb209, _, none⟩) NB206_209.out _).trans (((cell_far (p := ⟨gb209, _, none⟩) NB206_209.out _).trans (((cell_far (p := ⟨gb209, _, none⟩) NB206_209.out _).trans (((cell_far (p := ⟨gb209, _, none⟩) NB206_209.out _).trans (hHeld.2.2.1)))))))))))), ((cell_far (p := ⟨gb209, _, none⟩) NB206_209.out _).trans (((cell_far (p := ⟨gb209, _, none⟩) NB206_209.out _).trans (((cell_far (p := ⟨gb209, _, none⟩) NB206_209.out _).trans (((cell_far (p := ⟨gb209, _, none⟩) NB206_209.out _).trans (((cell_far (p := ⟨gb209, _, none⟩) NB206_209.out _).trans (((cell_far (p := ⟨gb209, _, none⟩) NB206_209.out _).trans (hHeld.2.2.2.1)))))))))))), ((cell_far (p := ⟨gb209, _, none⟩) NB206_209.out _).trans (((cell_far (p := ⟨gb209, _, none⟩) NB206_209.out _).trans (((cell_far (p := ⟨gb209, _, none⟩) NB206_209.out _).trans (((cell_far (p := ⟨gb209, _, none⟩) NB206_209.out _).trans (((cell_far (p := ⟨gb209, _, none⟩) NB206_209.out _).trans (((cell_far (p := ⟨gb209, _, none⟩) NB206_209.out _).trans (hHeld.2.2.2.2.1)))))))))))), ((cell_far (p := ⟨gb209, _, none⟩) NB206_209.out _).trans (((cell_far (p := ⟨gb209, _, none⟩) NB206_209.out _).trans (((cell_far (p := ⟨gb209, _, none⟩) NB206_209.out _).trans (((cell_far (p := ⟨gb209, _, none⟩) NB206_209.out _).trans (((cell_far (p := ⟨gb209, _, none⟩) NB206_209.out _).trans (((cell_far (p := ⟨gb209, _, none⟩) NB206_209.out _).trans (hHeld.2.2.2.2.2.1)))))))))))), ((cell_far (p := ⟨gb209, _, none⟩) NB206_209.out _).trans (((cell_far (p := ⟨gb209, _, none⟩) NB206_209.out _).trans (((cell_far (p := ⟨gb209, _, none⟩) NB206_209.out _).trans (((cell_far (p := ⟨gb209, _, none⟩) NB206_209.out _).trans (((cell_far (p := ⟨gb209, _, none⟩) NB206_209.out _).trans (((cell_far (p := ⟨gb209, _, none⟩) NB206_209.out _).trans (hHeld.2.2.2.2.2.2.1)))))))))))), ((cell_far (p := ⟨gb209, _, none⟩) NB207_209.out _).trans (((cell_far (p := ⟨gb209, _, none⟩) NB207_209.out _).trans (((cell_far (p := ⟨gb209, _, none⟩) NB207_209.out _).trans (((cell_far (p := ⟨gb209, _, none⟩) NB207_209.out _).trans (((cell_far (p := ⟨gb209, _, none⟩) NB207_209.out _).trans (((cell_far (p := ⟨gb209, _, none⟩) NB207_209.out _).trans (hHeld.2.2.2.2.2.2.2.1)))))))))))), ((cell_far (p := ⟨gb209, _, none⟩) NB207_209.out _).trans (((cell_far (p := ⟨gb209, _, none⟩) NB207_209.out _).trans (((cell_far (p := ⟨gb209, _, none⟩) NB207_209.out _).trans (((cell_far (p := ⟨gb209, _, none⟩) NB207_209.out _).trans (((cell_far (p := ⟨gb209, _, none⟩) NB207_209.out _).trans (((cell_far (p := ⟨gb209, _, none⟩) NB207_209.out _).trans (hHeld.2.2.2.2.2.2.2.2.1)))))))))))), ((cell_far (p := ⟨gb209, _, none⟩) NB207_209.out _).trans (((cell_far (p := ⟨gb209, _, none⟩) NB207_209.out _).trans (((cell_far (p := ⟨gb209, _, none⟩) NB207_209.out _).trans (((cell_far (p := ⟨gb209, _, none⟩) NB207_209.out _).trans (((cell_far (p := ⟨gb209, _, none⟩) NB207_209.out _).trans (((cell_far (p := ⟨gb209, _, none⟩) NB207_209.out _).trans (hHeld.2.2.2.2.2.2.2.2.2.1)))))))))))), ((cell_far (p := ⟨gb209, _, none⟩) NB207_209.out _).trans (((cell_far (p := ⟨gb209, _, none⟩) NB207_209.out _).trans (((cell_far (p := ⟨gb209, _, none⟩) NB207_209.out _).trans (((cell_far (p := ⟨gb209, _, none⟩) NB207_209.out _).trans (((cell_far (p := ⟨gb209, _, none⟩) NB207_209.out _).trans (((cell_far (p := ⟨gb209, _, none⟩) NB207_209.out _).trans (hHeld.2.2.2.2.2.2.2.2.2.2.1)))))))))))), ((cell_far (p := ⟨gb209, _, none⟩) NB207_209.out _).trans (((cell_far (p := ⟨gb209, _, none⟩) NB207_209.out _).trans (((cell_far (p := ⟨gb209, _, none⟩) NB207_209.out _).trans (((cell_far (p := ⟨gb209, _, none⟩) NB207_209.out _).trans (((cell_far (p := ⟨gb209, _, none⟩) NB207_209.out _).trans (((cell_far (p := ⟨gb209, _, none⟩) NB207_209.out _).trans (hHeld.2.2.2.2.2.2.2.2.2.2.2.1)))))))))))), ((cell_far (p := ⟨gb209, _, none⟩) NB207_209.out _).trans (((cell_far (p := ⟨gb209, _, none⟩) NB207_209.out _).trans (((cell_far (p := ⟨gb209, _, none⟩) NB207_209.out _).trans (((cell_far (p := ⟨gb209, _, none⟩) NB207_209.out _).trans (((cell_far (p := ⟨gb209, _, none⟩) NB207_209.out _).trans (((cell_far (p := ⟨gb209, _, none⟩) NB207_209.out _).trans (hHeld.2.2.2.2.2.2.2.2.2.2.2.2))))))))))))⟩ (fun hHeld => ?_)
    clear hK K
    refine done_ (by kernel_rfl) ?_
    try go_wp2_with (first | ((with_reducible refine gate_callee (f := 21) rfl ?_); refine goesL_ (some 28) rfl rfl Try.func21 (by kernel_rfl) rfl #[.int .i64 a3] rfl (by (try simp only [List.map_toArray, List.map_cons, List.map_nil]); first | done | rfl) ?_; (with_reducible refine (joinerylaw2_Name.calls a3 t210 _ A10.out).mono ?_); rintro e w51 ⟨rfl, hb⟩; refine ⟨_, rfl, ?_⟩; have n0_ := Aside0.mk (Kd.R_below (by (with_reducible repeat (first | apply Kd.R_alloc | apply Kd.R_drewN | apply Kd.R_drew)); exact (Kd.R_mono (Kd.R_mono (Kd.R_far (p := ⟨gb209, 5, none⟩) (Kd.R_far (p := ⟨gb209, 4, none⟩) (Kd.R_far (p := ⟨gb209, 3, none⟩) (Kd.R_far (p := ⟨gb209, 2, none⟩) (Kd.R_far (p := ⟨gb209, 1, none⟩) (Kd.R_far (p := ⟨gb209, 0, none⟩) (Kd.R_far (p := ⟨gb208, 6, none⟩) (Kd.R_far (p := ⟨gb208, 5, none⟩) (Kd.R_far (p := ⟨gb208, 4, none⟩) (Kd.R_far (p := ⟨gb208, 3, none⟩) (Kd.R_far (p := ⟨gb208, 2, none⟩) (Kd.R_far (p := ⟨gb208, 1, none⟩) (Kd.R_far (p := ⟨gb208, 0, none⟩) (Kd.R_types (Kd.R_types HO191.out BK208.out (by decide)) BK209.out (by decide)) (fun _ hk => hk.1.2) (.string t185)) (fun _ hk => hk.1.2) (.int .i64 t186)) (fun _ hk => hk.1.2) (.int .i64 t187)) (fun _ hk => hk.1.2) (.int .i64 t188)) (fun _ hk => hk.1.2) (.slice Ao28 t189.length co28)) (fun _ hk => hk.1.2) (.slice Ao29 t192.length co29)) (fun _ hk => hk.1.2) (.bool t195)) (fun _ hk => hk.2) (.string t196)) (fun _ hk => hk.2) (.int .i64 t197)) (fun _ hk => hk.2) (.int .i64 t198)) (fun _ hk => hk.2) (.slice Ao31 t199.length co31)) (fun _ hk => hk.2) (.slice Ao32 t202.length co32)) (fun _ hk => hk.2) (.bool t205)) (fun _ h_ => h_.1)) (fun _ h_ => h_.1))) hb); have n1_ := Aside0.mk (Kd.R_below (by (with_reducible repeat (first | apply Kd.R_alloc | apply Kd.R_drewN | apply Kd.R_drew)); exact (Kd.R_mono (Kd.R_mono (Kd.R_far (p := ⟨gb209, 5, none⟩) (Kd.R_far (p := ⟨gb209, 4, none⟩) (Kd.R_far (p := ⟨gb209, 3, none⟩) (Kd.R_far (p := ⟨gb209, 2, none⟩) (Kd.R_far (p := ⟨gb209, 1, none⟩) (Kd.R_far (p := ⟨gb209, 0, none⟩) (Kd.R_far (p := ⟨gb208, 6, none⟩) (Kd.R_far (p := ⟨gb208, 5, none⟩) (Kd.R_far (p := ⟨gb208, 4, none⟩) (Kd.R_far (p := ⟨gb208, 3, none⟩) (Kd.R_far (p := ⟨gb208, 2, none⟩) (Kd.R_far (p := ⟨gb208, 1, none⟩) (Kd.R_far (p := ⟨gb208, 0, none⟩) (Kd.R_types (Kd.R_types HO194.out BK208.out (by decide)) BK209.out (by decide)) (fun _ hk => hk.1.2) (.string t185)) (fun _ hk => hk.1.2) (.int .i64 t186)) (fun _ hk => hk.1.2) (.int .i64 t187)) (fun _ hk => hk.1.2) (.int .i64 t188)) (fun _ hk => hk.1.2) (.slice Ao28 t189.length co28)) (fun _ hk => hk.1.2) (.slice Ao29 t192.length co29)) (fun _ hk => hk.1.2) (.bool t195)) (fun _ hk => hk.2) (.string t196)) (fun _ hk => hk.2) (.int .i64 t197)) (fun _ hk => hk.2) (.int .i64 t198)) (fun _ hk => hk.2) (.slice Ao31 t199.length co31)) (fun _ hk => hk.2) (.slice Ao32 t202.length co32)) (fun _ hk => hk.2) (.bool t205)) (fun _ h_ => h_.1)) (fun _ h_ => h_.1))) hb); have n2_ := Aside0.mk (Kd.R_below (by (with_reducible repeat (first | apply Kd.R_alloc | apply Kd.R_drewN | apply Kd.R_drew)); exact (Kd.R_mono (Kd.R_mono (Kd.R_far (p := ⟨gb209, 5, none⟩) (Kd.R_far (p := ⟨gb209, 4, none⟩) (Kd.R_far (p := ⟨gb209, 3, none⟩) (Kd.R_far (p := ⟨gb209, 2, none⟩) (Kd.R_far (p := ⟨gb209, 1, none⟩) (Kd.R_far (p := ⟨gb209, 0, none⟩) (Kd.R_far (p := ⟨gb208, 6, none⟩) (Kd.R_far (p := ⟨gb208, 5, none⟩) (Kd.R_far (p := ⟨gb208, 4, none⟩) (Kd.R_far (p := ⟨gb208, 3, none⟩) (Kd.R_far (p := ⟨gb208, 2, none⟩) (Kd.R_far (p := ⟨gb208, 1, none⟩) (Kd.R_far (p := ⟨gb208, 0, none⟩) (Kd.R_types (Kd.R_types HO201.out BK208.out (by decide)) BK209.out (by decide)) (fun _ hk => hk.1.2) (.string t185)) (fun _ hk => hk.1.2) (.int .i64 t186)) (fun _ hk => hk.1.2) (.int .i64 t187)) (fun _ hk => hk.1.2) (.int .i64 t188)) (fun _ hk => hk.1.2) (.slice Ao28 t189.length co28)) (fun _ hk => hk.1.2) (.slice Ao29 t192.length co29)) (fun _ hk => hk.1.2) (.bool t195)) (fun _ hk => hk.2) (.string t196)) (fun _ hk => hk.2) (.int .i64 t197)) (fun _ hk => hk.2) (.int .i64 t198)) (fun _ hk => hk.2) (.slice Ao31 t199.length co31)) (fun _ hk => hk.2) (.slice Ao32 t202.length co32)) (fun _ hk => hk.2) (.bool t205)) (fun _ h_ => h_.1)) (fun _ h_ => h_.1))) hb); have n3_ := Aside0.mk (Kd.R_below (by (with_reducible repeat (first | apply Kd.R_alloc | apply Kd.R_drewN | apply Kd.R_drew)); exact (Kd.R_mono (Kd.R_mono (Kd.R_far (p := ⟨gb209, 5, none⟩) (Kd.R_far (p := ⟨gb209, 4, none⟩) (Kd.R_far (p := ⟨gb209, 3, none⟩) (Kd.R_far (p := ⟨gb209, 2, none⟩) (Kd.R_far (p := ⟨gb209, 1, none⟩) (Kd.R_far (p := ⟨gb209, 0, none⟩) (Kd.R_far (p := ⟨gb208, 6, none⟩) (Kd.R_far (p := ⟨gb208, 5, none⟩) (Kd.R_far (p := ⟨gb208, 4, none⟩) (Kd.R_far (p := ⟨gb208, 3, none⟩) (Kd.R_far (p := ⟨gb208, 2, none⟩) (Kd.R_far (p := ⟨gb208, 1, none⟩) (Kd.R_far (p := ⟨gb208, 0, none⟩) (Kd.R_types (Kd.R_types HO204.out BK208.out (by decide)) BK209.out (by decide)) (fun _ hk => hk.1.2) (.string t185)) (fun _ hk => hk.1.2) (.int .i64 t186)) (fun _ hk => hk.1.2) (.int .i64 t187)) (fun _ hk => hk.1.2) (.int .i64 t188)) (fun _ hk => hk.1.2) (.slice Ao28 t189.length co28)) (fun _ hk => hk.1.2) (.slice Ao29 t192.length co29)) (fun _ hk => hk.1.2) (.bool t195)) (fun _ hk => hk.2) (.string t196)) (fun _ hk => hk.2) (.int .i64 t197)) (fun _ hk => hk.2) (.int .i64 t198)) (fun _ hk => hk.2) (.slice Ao31 t199.length co31)) (fun _ hk => hk.2) (.slice Ao32 t202.length co32)) (fun _ hk => hk.2) (.bool t205)) (fun _ h_ => h_.1)) (fun _ h_ => h_.1))) hb); have n4_ := Aside0.mk (blk_below (g := gb206) (o := .cells #[.string t185, .int .i64 t186, .int .i64 t187, .int .i64 t188, .slice Ao28 t189.length co28, .slice Ao29 t192.length co29, .bool t195] 28 (0, 0)) (by (with_reducible repeat (first | refine blk_drewN ?_ _ | refine blk_drew ?_ | refine blk_alloc ?_ _)); (iterate 6 (refine blk_far ?_ NB206_209.out _)); (iterate 7 (refine blk_far ?_ NB206_208.out _)); (with_reducible repeat (first | refine blk_drewN ?_ _ | refine blk_drew ?_ | refine blk_alloc ?_ _)); exact BK206.out) hb); have n5_ := Aside0.mk (blk_below (g := gb207) (o := .cells #[.string t196, .int .i64 t197, .int .i64 t198, .slice Ao31 t199.length co31, .slice Ao32 t202.length co32, .bool t205] 31 (0, 0)) (by (with_reducible repeat (first | refine blk_drewN ?_ _ | refine blk_drew ?_ | refine blk_alloc ?_ _)); (iterate 6 (refine blk_far ?_ NB207_209.out _)); (iterate 7 (refine blk_far ?_ NB207_208.out _)); (with_reducible repeat (first | refine blk_drewN ?_ _ | refine blk_drew ?_ | refine blk_alloc ?_ _)); exact BK207.out) hb); have n6_ := Aside0.mk (blk_below (g := gb208) (o := .cells #[.string t185, .int .i64 t186, .int .i64 t187, .int .i64 t188, .slice Ao28 t189.length co28, .slice Ao29 t192.length co29, .bool t195] 28 (0, 0)) (by (with_reducible repeat (first | refine blk_drewN ?_ _ | refine blk_drew ?_ | refine blk_alloc ?_ _)); (iterate 6 (refine blk_far ?_ NB208_209.out _)); refine blk_put (cs := #[.string t185, .int .i64 t186, .int .i64 t187, .int .i64 t188, .slice Ao28 t189.length co28, .slice Ao29 t192.length co29, .bool false]) ?_ 6 _ rfl; refine blk_put (cs := #[.string t185, .int .i64 t186, .int .i64 t187, .int .i64 t188, .slice Ao28 t189.length co28, .slice none 0 0, .bool false]) ?_ 5 _ rfl; refine blk_put (cs := #[.string t185, .int .i64 t186, .int .i64 t187, .int .i64 t188, .slice none 0 0, .slice none 0 0, .bool false]) ?_ 4 _ rfl; refine blk_put (cs := #[.string t185, .int .i64 t186, .int .i64 t187, .int .i64 0, .slice none 0 0, .slice none 0 0, .bool false]) ?_ 3 _ rfl; refine blk_put (cs := #[.string t185, .int .i64 t186, .int .i64 0, .int .i64 0, .slice none 0 0, .slice none 0 0, .bool false]) ?_ 2 _ rfl; refine blk_put (cs := #[.string t185, .int .i64 0, .int .i64 0, .int .i64 0, .slice none 0 0, .slice none 0 0, .bool false]) ?_ 1 _ rfl; refine blk_put (cs := #[.string (⟨#[]⟩ : ByteArray), .int .i64 0, .int .i64 0, .int .i64 0, .slice none 0 0, .slice none 0 0, .bool false]) ?_ 0 _ rfl; (with_reducible repeat (first | refine blk_drewN ?_ _ | refine blk_drew ?_ | refine blk_alloc ?_ _)); exact BK208.out) hb); have n7_ := Aside0.mk (blk_below (g := gb209) (o := .cells #[.string t196, .int .i64 t197, .int .i64 t198, .slice Ao31 t199.length co31, .slice Ao32 t202.length co32, .bool t205] 31 (0, 0)) (by (with_reducible repeat (first | refine blk_drewN ?_ _ | refine blk_drew ?_ | refine blk_alloc ?_ _)); refine blk_put (cs := #[.string t196, .int .i64 t197, .int .i64 t198, .slice Ao31 t199.length co31, .slice Ao32 t202.length co32, .bool false]) ?_ 5 _ rfl; refine blk_put (cs := #[.string t196, .int .i64 t197, .int .i64 t198, .slice Ao31 t199.length co31, .slice none 0 0, .bool false]) ?_ 4 _ rfl; refine blk_put (cs := #[.string t196, .int .i64 t197, .int .i64 t198, .slice none 0 0, .slice none 0 0, .bool false]) ?_ 3 _ rfl; refine blk_put (cs := #[.string t196, .int .i64 t197, .int .i64 0, .slice none 0 0, .slice none 0 0, .bool false]) ?_ 2 _ rfl; refine blk_put (cs := #[.string t196, .int .i64 0, .int .i64 0, .slice none 0 0, .slice none 0 0, .bool false]) ?_ 1 _ rfl; refine blk_put (cs := #[.string (⟨#[]⟩ : ByteArray), .int .i64 0, .int .i64 0, .slice none 0 0, .slice none 0 0, .bool false]) ?_ 0 _ rfl; (iterate 7 (refine blk_far ?_ NB209_208.out _)); (with_reducible repeat (first | refine blk_drewN ?_ _ | refine blk_drew ?_ | refine blk_alloc ?_ _)); exact BK209.out) hb); have n8_ := Aside0.mk (below_step (by repeat (first | (with_reducible first | exact HB.out | apply below_alloc | apply pw_below_drewN | apply below_drew1 | refine below_set ?_ GE206.out | refine below_set ?_ GE207.out | refine below_set ?_ GE208.out | refine below_set ?_ GE209.out) | exact HB.out)) hb); clear HO191; clear HO194; clear HO201; clear HO204; clear BK206; clear BK207; clear BK208; clear BK209; clear HB; have HO191 := n0_; have HO194 := n1_; have HO201 := n2_; have HO204 := n3_; have BK206 := n4_; have BK207 := n5_; have BK208 := n6_; have BK209 := n7_; have HB := n8_; clear n0_ n1_ n2_ n3_ n4_ n5_ n6_ n7_ n8_; (try clear hb)) | ((with_reducible refine gate_callee (f := 21) rfl ?_); refine goesL_ (some 31) rfl rfl Try.func21 (by kernel_rfl) rfl #[.int .i64 (wrap64 (Int.tdiv a3 8))] rfl (by (try simp only [List.map_toArray, List.map_cons, List.map_nil]); first | done | rfl) ?_; (with_reducible refine (joinerylaw2_Name.calls (wrap64 (Int.tdiv a3 8)) t211 _ A11.out).mono ?_); rintro e w52 ⟨rfl, hb⟩; refine ⟨_, rfl, ?_⟩; have n0_ := Aside0.mk (Kd.R_below (by (with_reducible repeat (first | apply Kd.R_alloc | apply Kd.R_drewN | apply Kd.R_drew)); exact HO191.out) hb); have n1_ := Aside0.mk (Kd.R_below (by (with_reducible repeat (first | apply Kd.R_alloc | apply Kd.R_drewN | apply Kd.R_drew)); exact HO194.out) hb); have n2_ := Aside0.mk (Kd.R_below (by (with_reducible repeat (first | apply Kd.R_alloc | apply Kd.R_drewN | apply Kd.R_drew)); exact HO201.out) hb); have n3_ := Aside0.mk (Kd.R_below (by (with_reducible repeat (first | apply Kd.R_alloc | apply Kd.R_drewN | apply Kd.R_drew)); exact HO204.out) hb); have n4_ := Aside0.mk (blk_below (g := gb206) (o := .cells #[.string t185, .int .i64 t186, .int .i64 t187, .int .i64 t188, .slice Ao28 t189.length co28, .slice Ao29 t192.length co29, .bool t195] 28 (0, 0)) (by (with_reducible repeat (first | refine blk_drewN ?_ _ | refine blk_drew ?_ | refine blk_alloc ?_ _)); exact BK206.out) hb); have n5_ := Aside0.mk (blk_below (g := gb207) (o := .cells #[.string t196, .int .i64 t197, .int .i64 t198, .slice Ao31 t199.length co31, .slice Ao32 t202.length co32, .bool t205] 31 (0, 0)) (by (with_reducible repeat (first | refine blk_drewN ?_ _ | refine blk_drew ?_ | refine blk_alloc ?_ _)); exact BK207.out) hb); have n6_ := Aside0.mk (blk_below (g := gb208) (o := .cells #[.string t185, .int .i64 t186, .int .i64 t187, .int .i64 t188, .slice Ao28 t189.length co28, .slice Ao29 t192.length co29, .bool t195] 28 (0, 0)) (by (with_reducible repeat (first | refine blk_drewN ?_ _ | refine blk_drew ?_ | refine blk_alloc ?_ _)); exact BK208.out) hb); have n7_ := Aside0.mk (blk_below (g := gb209) (o := .cells #[.string t196, .int .i64 t197, .int .i64 t198, .slice Ao31 t199.length co31, .slice Ao32 t202.length co32, .bool t205] 31 (0, 0)) (by (with_reducible repeat (first | refine blk_drewN ?_ _ | refine blk_drew ?_ | refine blk_alloc ?_ _)); exact BK209.out) hb); have n8_ := Aside0.mk (below_step (by repeat (first | (with_reducible first | exact HB.out | apply below_alloc | apply pw_below_drewN | apply below_drew1 | refine below_set ?_ GE206.out | refine below_set ?_ GE207.out | refine below_set ?_ GE208.out | refine below_set ?_ GE209.out) | exact HB.out)) hb); clear HO191; clear HO194; clear HO201; clear HO204; clear BK206; clear BK207; clear BK208; clear BK209; clear HB; have HO191 := n0_; have HO194 := n1_; have HO201 := n2_; have HO204 := n3_; have BK206 := n4_; have BK207 := n5_; have BK208 := n6_; have BK209 := n7_; have HB := n8_; clear n0_ n1_ n2_ n3_ n4_ n5_ n6_ n7_ n8_; (try clear hb); have hnb53 := NB208_206.out; have hnc53 := NB206_208.out; have hnb54 := NB208_207.out; have hnc54 := NB207_208.out; have hnb55 := NB208_209.out; have hnc55 := NB209_208.out; have hcz56_0 : w52.cell? ⟨gb208, 0, none⟩ = some (.string t185) := (blk_cell BK208.out 0).trans rfl; have hcz56_1 : w52.cell? ⟨gb208, 1, none⟩ = some (.int .i64 t186) := (blk_cell BK208.out 1).trans rfl; have hcz56_2 : w52.cell? ⟨gb208, 2, none⟩ = some (.int .i64 t187) := (blk_cell BK208.out 2).trans rfl; have hcz56_3 : w52.cell? ⟨gb208, 3, none⟩ = some (.int .i64 t188) := (blk_cell BK208.out 3).trans rfl; have hcz56_4 : w52.cell? ⟨gb208, 4, none⟩ = some (.slice Ao28 t189.length co28) := (blk_cell BK208.out 4).trans rfl; have hcz56_5 : w52.cell? ⟨gb208, 5, none⟩ = some (.slice Ao29 t192.length co29) := (blk_cell BK208.out 5).trans rfl; have hcz56_6 : w52.cell? ⟨gb208, 6, none⟩ = some (.bool t195) := (blk_cell BK208.out 6).trans rfl; have hfz56_0 := blk_frozen BK208.out 0; have hfz56_1 := blk_frozen BK208.out 1; have hfz56_2 := blk_frozen BK208.out 2; have hfz56_3 := blk_frozen BK208.out 3; have hfz56_4 := blk_frozen BK208.out 4; have hfz56_5 := blk_frozen BK208.out 5; have hfz56_6 := blk_frozen BK208.out 6; have hnb57 := NB209_206.out; have hnc57 := NB206_209.out; have hnb58 := NB209_207.out; have hnc58 := NB207_209.out; have hcz59_0 : w52.cell? ⟨gb209, 0, none⟩ = some (.string t196) := (blk_cell BK209.out 0).trans rfl; have hcz59_1 : w52.cell? ⟨gb209, 1, none⟩ = some (.int .i64 t197) := (blk_cell BK209.out 1).trans rfl; have hcz59_2 : w52.cell? ⟨gb209, 2, none⟩ = some (.int .i64 t198) := (blk_cell BK209.out 2).trans rfl; have hcz59_3 : w52.cell? ⟨gb209, 3, none⟩ = some (.slice Ao31 t199.length co31) := (blk_cell BK209.out 3).trans rfl; have hcz59_4 : w52.cell? ⟨gb209, 4, none⟩ = some (.slice Ao32 t202.length co32) := (blk_cell BK209.out 4).trans rfl; have hcz59_5 : w52.cell? ⟨gb209, 5, none⟩ = some (.bool t205) := (blk_cell BK209.out 5).trans rfl; have hfz59_0 := blk_frozen BK209.out 0; have hfz59_1 := blk_frozen BK209.out 1; have hfz59_2 := blk_frozen BK209.out 2; have hfz59_3 := blk_frozen BK209.out 3; have hfz59_4 := blk_frozen BK209.out 4; have hfz59_5 := blk_frozen BK209.out 5) | ((with_reducible refine gate_callee (f := 14) rfl ?_); refine goesL_ (some 36) rfl rfl Try.func14 (by kernel_rfl) rfl #[.int .i64 a4, .int .i64 12] rfl (by (try simp only [List.map_toArray, List.map_cons, List.map_nil]); first | done | rfl) ?_; (with_reducible refine (joinerylaw5_within.calls a4 12 t212 _ A12.out).mono ?_); rintro e w' ⟨rfl, ⟨nd, rfl⟩⟩; refine ⟨_, rfl, ?_⟩) | ((with_reducible refine gate_dst (N := 15) rfl ?_); refine box_event ?hg (N := 15) ?hd (cs := #[.int .i64 0, .int .i64 0]) (t := 25) ?hr ?_; (case hd => rfl); (case hg => rfl); (case hr => first | (go_simp; done) | (go_simp; rfl)); intro gb213 hg w60 hbox hb; have n0_ := Aside0.mk (Kd.R_below (by (with_reducible repeat (first | apply Kd.R_alloc | apply Kd.R_drewN | apply Kd.R_drew)); exact (Kd.R_mono (Kd.R_mono (Kd.R_far (p := ⟨gb209, 0, none⟩) (Kd.R_far (p := ⟨gb208, 1, none⟩) (Kd.R_far (p := ⟨gb208, 0, none⟩) (Kd.R_types (Kd.R_types HO191.out BK208.out (by decide)) BK209.out (by decide)) (fun _ hk => hk.1.2) (.string t210)) (fun _ hk => hk.1.2) (.int .i64 4)) (fun _ hk => hk.2) (.string t211)) (fun _ h_ => h_.1)) (fun _ h_ => h_.1))) hb); have n1_ := Aside0.mk (Kd.R_below (by (with_reducible repeat (first | apply Kd.R_alloc | apply Kd.R_drewN | apply Kd.R_drew)); exact (Kd.R_mono (Kd.R_mono (Kd.R_far (p := ⟨gb209, 0, none⟩) (Kd.R_far (p := ⟨gb208, 1, none⟩) (Kd.R_far (p := ⟨gb208, 0, none⟩) (Kd.R_types (Kd.R_types HO194.out BK208.out (by decide)) BK209.out (by decide)) (fun _ hk => hk.1.2) (.string t210)) (fun _ hk => hk.1.2) (.int .i64 4)) (fun _ hk => hk.2) (.string t211)) (fun _ h_ => h_.1)) (fun _ h_ => h_.1))) hb); have n2_ := Aside0.mk (Kd.R_below (by (with_reducible repeat (first | apply Kd.R_alloc | apply Kd.R_drewN | apply Kd.R_drew)); exact (Kd.R_mono (Kd.R_mono (Kd.R_far (p := ⟨gb209, 0, none⟩) (Kd.R_far (p := ⟨gb208, 1, none⟩) (Kd.R_far (p := ⟨gb208, 0, none⟩) (Kd.R_types (Kd.R_types HO201.out BK208.out (by decide)) BK209.out (by decide)) (fun _ hk => hk.1.2) (.string t210)) (fun _ hk => hk.1.2) (.int .i64 4)) (fun _ hk => hk.2) (.string t211)) (fun _ h_ => h_.1)) (fun _ h_ => h_.1))) hb); have n3_ := Aside0.mk (Kd.R_below (by (with_reducible repeat (first | apply Kd.R_alloc | apply Kd.R_drewN | apply Kd.R_drew)); exact (Kd.R_mono (Kd.R_mono (Kd.R_far (p := ⟨gb209, 0, none⟩) (Kd.R_far (p := ⟨gb208, 1, none⟩) (Kd.R_far (p := ⟨gb208, 0, none⟩) (Kd.R_types (Kd.R_types HO204.out BK208.out (by decide)) BK209.out (by decide)) (fun _ hk => hk.1.2) (.string t210)) (fun _ hk => hk.1.2) (.int .i64 4)) (fun _ hk => hk.2) (.string t211)) (fun _ h_ => h_.1)) (fun _ h_ => h_.1))) hb); have n4_ := Aside0.mk (blk_below (g := gb206) (o := .cells #[.string t185, .int .i64 t186, .int .i64 t187, .int .i64 t188, .slice Ao28 t189.length co28, .slice Ao29 t192.length co29, .bool t195] 28 (0, 0)) (by (with_reducible repeat (first | refine blk_drewN ?_ _ | refine blk_drew ?_ | refine blk_alloc ?_ _)); refine blk_far ?_ NB206_209.out _; (iterate 2 (refine blk_far ?_ NB206_208.out _)); (with_reducible repeat (first | refine blk_drewN ?_ _ | refine blk_drew ?_ | refine blk_alloc ?_ _)); exact BK206.out) hb); have n5_ := Aside0.mk (blk_below (g := gb207) (o := .cells #[.string t196, .int .i64 t197, .int .i64 t198, .slice Ao31 t199.length co31, .slice Ao32 t202.length co32, .bool t205] 31 (0, 0)) (by (with_reducible repeat (first | refine blk_drewN ?_ _ | refine blk_drew ?_ | refine blk_alloc ?_ _)); refine blk_far ?_ NB207_209.out _; (iterate 2 (refine blk_far ?_ NB207_208.out _)); (with_reducible repeat (first | refine blk_drewN ?_ _ | refine blk_drew ?_ | refine blk_alloc ?_ _)); exact BK207.out) hb); have n6_ := Aside0.mk (blk_below (g := gb208) (o := .cells #[.string t210, .int .i64 4, .int .i64 t187, .int .i64 t188, .slice Ao28 t189.length co28, .slice Ao29 t192.length co29, .bool t195] 28 (0, 0)) (by (with_reducible repeat (first | refine blk_drewN ?_ _ | refine blk_drew ?_ | refine blk_alloc ?_ _)); refine blk_far ?_ NB208_209.out _; refine blk_put (cs := #[.string t210, .int .i64 t186, .int .i64 t187, .int .i64 t188, .slice Ao28 t189.length co28, .slice Ao29 t192.length co29, .bool t195]) ?_ 1 _ rfl; refine blk_put (cs := #[.string t185, .int .i64 t186, .int .i64 t187, .int .i64 t188, .slice Ao28 t189.length co28, .slice Ao29 t192.length co29, .bool t195]) ?_ 0 _ rfl; (with_reducible repeat (first | refine blk_drewN ?_ _ | refine blk_drew ?_ | refine blk_alloc ?_ _)); exact BK208.out) hb); have n7_ := Aside0.mk (blk_below (g := gb209) (o := .cells #[.string t211, .int .i64 t197, .int .i64 t198, .slice Ao31 t199.length co31, .slice Ao32 t202.length co32, .bool t205] 31 (0, 0)) (by (with_reducible repeat (first | refine blk_drewN ?_ _ | refine blk_drew ?_ | refine blk_alloc ?_ _)); refine blk_put (cs := #[.string t196, .int .i64 t197, .int .i64 t198, .slice Ao31 t199.length co31, .slice Ao32 t202.length co32, .bool t205]) ?_ 0 _ rfl; (iterate 2 (refine blk_far ?_ NB209_208.out _)); (with_reducible repeat (first | refine blk_drewN ?_ _ | refine blk_drew ?_ | refine blk_alloc ?_ _)); exact BK209.out) hb); have n8_ := Aside0.mk (below_step (by repeat (first | (with_reducible first | exact HB.out | apply below_alloc | apply pw_below_drewN | apply below_drew1 | refine below_set ?_ GE206.out | refine below_set ?_ GE207.out | refine below_set ?_ GE208.out | refine below_set ?_ GE209.out) | exact HB.out)) hb); have n9_ := Aside0.mk (hbox); have n10_ := Aside0.mk ((by rw [hg]; exact (below_size (by repeat (first | (with_reducible first | exact HB.out | apply below_alloc | apply pw_below_drewN | apply below_drew1 | refine below_set ?_ GE206.out | refine below_set ?_ GE207.out | refine below_set ?_ GE208.out | refine below_set ?_ GE209.out) | exact HB.out))) : w.heap.size ≤ gb213)); have n11_ := Aside0.mk ((by rw [hg]; exact (below_size (by repeat (first | (with_reducible first | exact HB.out | apply below_alloc | apply pw_below_drewN | apply below_drew1 | refine below_set ?_ GE206.out | refine below_set ?_ GE207.out | refine below_set ?_ GE208.out | refine below_set ?_ GE209.out) | exact HB.out))) : w.heap.size ≤ gb213)); have n12_ := Aside0.mk ((by rw [hg]; exact Nat.ne_of_lt (blk_lt (g := gb206) (o := .cells #[.string t185, .int .i64 t186, .int .i64 t187, .int .i64 t188, .slice Ao28 t189.length co28, .slice Ao29 t192.length co29, .bool t195] 28 (0, 0)) (by (with_reducible repeat (first | refine blk_drewN ?_ _ | refine blk_drew ?_ | refine blk_alloc ?_ _)); refine blk_far ?_ NB206_209.out _; (iterate 2 (refine blk_far ?_ NB206_208.out _)); (with_reducible repeat (first | refine blk_drewN ?_ _ | refine blk_drew ?_ | refine blk_alloc ?_ _)); exact BK206.out)) : gb206 ≠ gb213)); have n13_ := Aside0.mk ((by rw [hg]; exact Nat.ne_of_gt (blk_lt (g := gb206) (o := .cells #[.string t185, .int .i64 t186, .int .i64 t187, .int .i64 t188, .slice Ao28 t189.length co28, .slice Ao29 t192.length co29, .bool t195] 28 (0, 0)) (by (with_reducible repeat (first | refine blk_drewN ?_ _ | refine blk_drew ?_ | refine blk_alloc ?_ _)); refine blk_far ?_ NB206_209.out _; (iterate 2 (refine blk_far ?_ NB206_208.out _)); (with_reducible repeat (first | refine blk_drewN ?_ _ | refine blk_drew ?_ | refine blk_alloc ?_ _)); exact BK206.out)) : gb213 ≠ gb206)); have n14_ := Aside0.mk ((by rw [hg]; exact Nat.ne_of_lt (blk_lt (g := gb207) (o := .cells #[.string t196, .int .i64 t197, .int .i64 t198, .slice Ao31 t199.length co31, .slice Ao32 t202.length co32, .bool t205] 31 (0, 0)) (by (with_reducible repeat (first | refine blk_drewN ?_ _ | refine blk_drew ?_ | refine blk_alloc ?_ _)); refine blk_far ?_ NB207_209.out _; (iterate 2 (refine blk_far ?_ NB207_208.out _)); (with_reducible repeat (first | refine blk_drewN ?_ _ | refine blk_drew ?_ | refine blk_alloc ?_ _)); exact BK207.out)) : gb207 ≠ gb213)); have n15_ := Aside0.mk ((by rw [hg]; exact Nat.ne_of_gt (blk_lt (g := gb207) (o := .cells #[.string t196, .int .i64 t197, .int .i64 t198, .slice Ao31 t199.length co31, .slice Ao32 t202.length co32, .bool t205] 31 (0, 0)) (by (with_reducible repeat (first | refine blk_drewN ?_ _ | refine blk_drew ?_ | refine blk_alloc ?_ _)); refine blk_far ?_ NB207_209.out _; (iterate 2 (refine blk_far ?_ NB207_208.out _)); (with_reducible repeat (first | refine blk_drewN ?_ _ | refine blk_drew ?_ | refine blk_alloc ?_ _)); exact BK207.out)) : gb213 ≠ gb207)); have n16_ := Aside0.mk ((by rw [hg]; exact Nat.ne_of_lt (blk_lt (g := gb208) (o := .cells #[.string t210, .int .i64 4, .int .i64 t187, .int .i64 t188, .slice Ao28 t189.length co28, .slice Ao29 t192.length co29, .bool t195] 28 (0, 0)) (by (with_reducible repeat (first | refine blk_drewN ?_ _ | refine blk_drew ?_ | refine blk_alloc ?_ _)); refine blk_far ?_ NB208_209.out _; refine blk_put (cs := #[.string t210, .int .i64 t186, .int .i64 t187, .int .i64 t188, .slice Ao28 t189.length co28, .slice Ao29 t192.length co29, .bool t195]) ?_ 1 _ rfl; refine blk_put (cs := #[.string t185, .int .i64 t186, .int .i64 t187, .int .i64 t188, .slice Ao28 t189.length co28, .slice Ao29 t192.length co29, .bool t195]) ?_ 0 _ rfl; (with_reducible repeat (first | refine blk_drewN ?_ _ | refine blk_drew ?_ | refine blk_alloc ?_ _)); exact BK208.out)) : gb208 ≠ gb213)); have n17_ := Aside0.mk ((by rw [hg]; exact Nat.ne_of_gt (blk_lt (g := gb208) (o := .cells #[.string t210, .int .i64 4, .int .i64 t187, .int .i64 t188, .slice Ao28 t189.length co28, .slice Ao29 t192.length co29, .bool t195] 28 (0, 0)) (by (with_reducible repeat (first | refine blk_drewN ?_ _ | refine blk_drew ?_ | refine blk_alloc ?_ _)); refine blk_far ?_ NB208_209.out _; refine blk_put (cs := #[.string t210, .int .i64 t186, .int .i64 t187, .int .i64 t188, .slice Ao28 t189.length co28, .slice Ao29 t192.length co29, .bool t195]) ?_ 1 _ rfl; refine blk_put (cs := #[.string t185, .int .i64 t186, .int .i64 t187, .int .i64 t188, .slice Ao28 t189.length co28, .slice Ao29 t192.length co29, .bool t195]) ?_ 0 _ rfl; (with_reducible repeat (first | refine blk_drewN ?_ _ | refine blk_drew ?_ | refine blk_alloc ?_ _)); exact BK208.out)) : gb213 ≠ gb208)); have n18_ := Aside0.mk ((by rw [hg]; exact Nat.ne_of_lt (blk_lt (g := gb209) (o := .cells #[.string t211, .int .i64 t197, .int .i64 t198, .slice Ao31 t199.length co31, .slice Ao32 t202.length co32, .bool t205] 31 (0, 0)) (by (with_reducible repeat (first | refine blk_drewN ?_ _ | refine blk_drew ?_ | refine blk_alloc ?_ _)); refine blk_put (cs := #[.string t196, .int .i64 t197, .int .i64 t198, .slice Ao31 t199.length co31, .slice Ao32 t202.length co32, .bool t205]) ?_ 0 _ rfl; (iterate 2 (refine blk_far ?_ NB209_208.out _)); (with_reducible repeat (first | refine blk_drewN ?_ _ | refine blk_drew ?_ | refine blk_alloc ?_ _)); exact BK209.out)) : gb209 ≠ gb213)); have n19_ := Aside0.mk ((by rw [hg]; exact Nat.ne_of_gt (blk_lt (g := gb209) (o := .cells #[.string t211, .int .i64 t197, .int .i64 t198, .slice Ao31 t199.length co31, .slice Ao32 t202.length co32, .bool t205] 31 (0, 0)) (by (with_reducible repeat (first | refine blk_drewN ?_ _ | refine blk_drew ?_ | refine blk_alloc ?_ _)); refine blk_put (cs := #[.string t196, .int .i64 t197, .int .i64 t198, .slice Ao31 t199.length co31, .slice Ao32 t202.length co32, .bool t205]) ?_ 0 _ rfl; (iterate 2 (refine blk_far ?_ NB209_208.out _)); (with_reducible repeat (first | refine blk_drewN ?_ _ | refine blk_drew ?_ | refine blk_alloc ?_ _)); exact BK209.out)) : gb213 ≠ gb209)); clear HO191; clear HO194; clear HO201; clear HO204; clear BK206; clear BK207; clear BK208; clear BK209; clear HB; have HO191 := n0_; have HO194 := n1_; have HO201 := n2_; have HO204 := n3_; have BK206 := n4_; have BK207 := n5_; have BK208 := n6_; have BK209 := n7_; have HB := n8_; have BK213 := n9_; have GW213 := n10_; have GE213 := n11_; have NB206_213 := n12_; have NB213_206 := n13_; have NB207_213 := n14_; have NB213_207 := n15_; have NB208_213 := n16_; have NB213_208 := n17_; have NB209_213 := n18_; have NB213_209 := n19_; clear n0_ n1_ n2_ n3_ n4_ n5_ n6_ n7_ n8_ n9_ n10_ n11_ n12_ n13_ n14_ n15_ n16_ n17_ n18_ n19_; clear hb hbox hg; have hnb61 := NB213_206.out; have hnc61 := NB206_213.out; have hnb62 := NB213_207.out; have hnc62 := NB207_213.out; have hnb63 := NB213_208.out; have hnc63 := NB208_213.out; have hnb64 := NB213_209.out; have hnc64 := NB209_213.out; have hcz65_0 : w60.cell? ⟨gb213, 0, none⟩ = some (.int .i64 0) := (blk_cell BK213.out 0).trans rfl; have hcz65_1 : w60.cell? ⟨gb213, 1, none⟩ = some (.int .i64 0) := (blk_cell BK213.out 1).trans rfl; have hfz65_0 := blk_frozen BK213.out 0; have hfz65_1 := blk_frozen BK213.out 1) | ((with_reducible refine gate_dst (N := 39) rfl ?_); refine Kd.R_lit k41 _ 41 ?hg (N := 39) ?hd (xs := ([(⟨(⟨#[113]⟩ : ByteArray), (⟨#[110]⟩ : ByteArray), (⟨0, 0⟩ : S25), false⟩ : S41)] : List (S41))) (inner := [.string (⟨#[113]⟩ : ByteArray), .string (⟨#[110]⟩ : ByteArray), .int .i64 0, .int .i64 0, .bool false]) (ok := fun _ => True) (okp := fun _ => True) ?hr ?hp (fun _ hk => hk) trivial (Below.refl _ _) (Nat.le_refl _) (by simp) ?_; (case hd => rfl); (case hg => rfl); (case hr => first | (go_simp; done) | (go_simp; rfl)); (case hp => exact (Reps.c5 (show Kd.M k41 _ _ _ (⟨(⟨#[113]⟩ : ByteArray), (⟨#[110]⟩ : ByteArray), (⟨0, 0⟩ : S25), false⟩ : S41) [.string (⟨#[113]⟩ : ByteArray), .string (⟨#[110]⟩ : ByteArray), .int .i64 0, .int .i64 0, .bool false] from (k41_mkM _ _ _ (⟨(⟨#[113]⟩ : ByteArray), (⟨#[110]⟩ : ByteArray), (⟨0, 0⟩ : S25), false⟩ : S41) )) (Reps.none _ _))); intro v215 w66 ho67 hb hg_ hnew_; clear hg_ hnew_; (first | rw [← Ny214.out] at ho67 | (simp only [Int.reduceToNat] at ho67; rw [← Ny214.out] at ho67)); have n0_ := Aside0.mk (Kd.R_below (by (with_reducible repeat (first | apply Kd.R_alloc | apply Kd.R_drewN | apply Kd.R_drew)); exact (Kd.R_mono (Kd.R_far (p := ⟨gb213, 1, none⟩) (Kd.R_far (p := ⟨gb213, 0, none⟩) (Kd.R_types HO191.out BK213.out (by decide)) (fun _ hk => hk.2) (.int .i64 t212)) (fun _ hk => hk.2) (.int .i64 0)) (fun _ h_ => h_.1))) hb); have n1_ := Aside0.mk (Kd.R_below (by (with_reducible repeat (first | apply Kd.R_alloc | apply Kd.R_drewN | apply Kd.R_drew)); exact (Kd.R_mono (Kd.R_far (p := ⟨gb213, 1, none⟩) (Kd.R_far (p := ⟨gb213, 0, none⟩) (Kd.R_types HO194.out BK213.out (by decide)) (fun _ hk => hk.2) (.int .i64 t212)) (fun _ hk => hk.2) (.int .i64 0)) (fun _ h_ => h_.1))) hb); have n2_ := Aside0.mk (Kd.R_below (by (with_reducible repeat (first | apply Kd.R_alloc | apply Kd.R_drewN | apply Kd.R_drew)); exact (Kd.R_mono (Kd.R_far (p := ⟨gb213, 1, none⟩) (Kd.R_far (p := ⟨gb213, 0, none⟩) (Kd.R_types HO201.out BK213.out (by decide)) (fun _ hk => hk.2) (.int .i64 t212)) (fun _ hk => hk.2) (.int .i64 0)) (fun _ h_ => h_.1))) hb); have n3_ := Aside0.mk (Kd.R_below (by (with_reducible repeat (first | apply Kd.R_alloc | apply Kd.R_drewN | apply Kd.R_drew)); exact (Kd.R_mono (Kd.R_far (p := ⟨gb213, 1, none⟩) (Kd.R_far (p := ⟨gb213, 0, none⟩) (Kd.R_types HO204.out BK213.out (by decide)) (fun _ hk => hk.2) (.int .i64 t212)) (fun _ hk => hk.2) (.int .i64 0)) (fun _ h_ => h_.1))) hb); have n4_ := Aside0.mk (Kd.R_lower ho67 (below_size (by repeat (first | (with_reducible first | exact HB.out | apply below_alloc | apply pw_below_drewN | apply below_drew1 | refine below_set ?_ GE206.out | refine below_set ?_ GE207.out | refine below_set ?_ GE208.out | refine below_set ?_ GE209.out | refine below_set ?_ GE213.out) | exact HB.out)))); have n5_ := Aside0.mk (blk_below (g := gb206) (o := .cells #[.string t185, .int .i64 t186, .int .i64 t187, .int .i64 t188, .slice Ao28 t189.length co28, .slice Ao29 t192.length co29, .bool t195] 28 (0, 0)) (by (with_reducible repeat (first | refine blk_drewN ?_ _ | refine blk_drew ?_ | refine blk_alloc ?_ _)); (iterate 2 (refine blk_far ?_ NB206_213.out _)); (with_reducible repeat (first | refine blk_drewN ?_ _ | refine blk_drew ?_ | refine blk_alloc ?_ _)); exact BK206.out) hb); have n6_ := Aside0.mk (blk_below (g := gb207) (o := .cells #[.string t196, .int .i64 t197, .int .i64 t198, .slice Ao31 t199.length co31, .slice Ao32 t202.length co32, .bool t205] 31 (0, 0)) (by (with_reducible repeat (first | refine blk_drewN ?_ _ | refine blk_drew ?_ | refine blk_alloc ?_ _)); (iterate 2 (refine blk_far ?_ NB207_213.out _)); (with_reducible repeat (first | refine blk_drewN ?_ _ | refine blk_drew ?_ | refine blk_alloc ?_ _)); exact BK207.out) hb); have n7_ := Aside0.mk (blk_below (g := gb208) (o := .cells #[.string t210, .int .i64 4, .int .i64 t187, .int .i64 t188, .slice Ao28 t189.length co28, .slice Ao29 t192.length co29, .bool t195] 28 (0, 0)) (by (with_reducible repeat (first | refine blk_drewN ?_ _ | refine blk_drew ?_ | refine blk_alloc ?_ _)); (iterate 2 (refine blk_far ?_ NB208_213.out _)); (with_reducible repeat (first | refine blk_drewN ?_ _ | refine blk_drew ?_ | refine blk_alloc ?_ _)); exact BK208.out) hb); have n8_ := Aside0.mk (blk_below (g := gb209) (o := .cells #[.string t211, .int .i64 t197, .int .i64 t198, .slice Ao31 t199.length co31, .slice Ao32 t202.length co32, .bool t205] 31 (0, 0)) (by (with_reducible repeat (first | refine blk_drewN ?_ _ | refine blk_drew ?_ | refine blk_alloc ?_ _)); (iterate 2 (refine blk_far ?_ NB209_213.out _)); (with_reducible repeat (first | refine blk_drewN ?_ _ | refine blk_drew ?_ | refine blk_alloc ?_ _)); exact BK209.out) hb); have n9_ := Aside0.mk (blk_below (g := gb213) (o := .cells #[.int .i64 t212, .int .i64 0] 25 (0, 0)) (by (with_reducible repeat (first | refine blk_drewN ?_ _ | refine blk_drew ?_ | refine blk_alloc ?_ _)); refine blk_put (cs := #[.int .i64 t212, .int .i64 0]) ?_ 1 _ rfl; refine blk_put (cs := #[.int .i64 0, .int .i64 0]) ?_ 0 _ rfl; (with_reducible repeat (first | refine blk_drewN ?_ _ | refine blk_drew ?_ | refine blk_alloc ?_ _)); exact BK213.out) hb); have n10_ := Aside0.mk (below_step (by repeat (first | (with_reducible first | exact HB.out | apply below_alloc | apply pw_below_drewN | apply below_drew1 | refine below_set ?_ GE206.out | refine below_set ?_ GE207.out | refine below_set ?_ GE208.out | refine below_set ?_ GE209.out | refine below_set ?_ GE213.out) | exact HB.out)) hb); clear HO191; clear HO194; clear HO201; clear HO204; clear BK206; clear BK207; clear BK208; clear BK209; clear BK213; clear HB; have HO191 := n0_; have HO194 := n1_; have HO201 := n2_; have HO204 := n3_; have HO216 := n4_; have BK206 := n5_; have BK207 := n6_; have BK208 := n7_; have BK209 := n8_; have BK213 := n9_; have HB := n10_; clear n0_ n1_ n2_ n3_ n4_ n5_ n6_ n7_ n8_ n9_ n10_; clear hb ho67) | ((with_reducible refine gate_dst (N := 42) rfl ?_); refine Kd.R_lit k41 _ 41 ?hg (N := 42) ?hd (xs := ([(⟨(⟨#[114]⟩ : ByteArray), (⟨#[109]⟩ : ByteArray), (⟨99, 0⟩ : S25), false⟩ : S41)] : List (S41))) (inner := [.string (⟨#[114]⟩ : ByteArray), .string (⟨#[109]⟩ : ByteArray), .int .i64 99, .int .i64 0, .bool false]) (ok := fun _ => True) (okp := fun _ => True) ?hr ?hp (fun _ hk => hk) trivial (Below.refl _ _) (Nat.le_refl _) (by simp) ?_; (case hd => rfl); (case hg => rfl); (case hr => first | (go_simp; done) | (go_simp; rfl)); (case hp => exact (Reps.c5 (show Kd.M k41 _ _ _ (⟨(⟨#[114]⟩ : ByteArray), (⟨#[109]⟩ : ByteArray), (⟨99, 0⟩ : S25), false⟩ : S41) [.string (⟨#[114]⟩ : ByteArray), .string (⟨#[109]⟩ : ByteArray), .int .i64 99, .int .i64 0, .bool false] from (k41_mkM _ _ _ (⟨(⟨#[114]⟩ : ByteArray), (⟨#[109]⟩ : ByteArray), (⟨99, 0⟩ : S25), false⟩ : S41) )) (Reps.none _ _))); intro v218 w68 ho69 hb hg_ hnew_; clear hg_ hnew_; (first | rw [← Ny217.out] at ho69 | (simp only [Int.reduceToNat] at ho69; rw [← Ny217.out] at ho69)); have n0_ := Aside0.mk (Kd.R_below (by (with_reducible repeat (first | apply Kd.R_alloc | apply Kd.R_drewN | apply Kd.R_drew)); exact HO191.out) hb); have n1_ := Aside0.mk (Kd.R_below (by (with_reducible repeat (first | apply Kd.R_alloc | apply Kd.R_drewN | apply Kd.R_drew)); exact HO194.out) hb); have n2_ := Aside0.mk (Kd.R_below (by (with_reducible repeat (first | apply Kd.R_alloc | apply Kd.R_drewN | apply Kd.R_drew)); exact HO201.out) hb); have n3_ := Aside0.mk (Kd.R_below (by (with_reducible repeat (first | apply Kd.R_alloc | apply Kd.R_drewN | apply Kd.R_drew)); exact HO204.out) hb); have n4_ := Aside0.mk (Kd.R_elder' (by (with_reducible repeat (first | apply Kd.R_alloc | apply Kd.R_drewN | apply Kd.R_drew)); exact HO216.out) (Kd.R_base ho69) hb); have n5_ := Aside0.mk (Kd.R_lower (Kd.R_new' ho69 (Kd.R_lt (by (with_reducible repeat (first | apply Kd.R_alloc | apply Kd.R_drewN | apply Kd.R_drew)); exact HO216.out))) (below_size (by repeat (first | (with_reducible first | exact HB.out | apply below_alloc | apply pw_below_drewN | apply below_drew1 | refine below_set ?_ GE206.out | refine below_set ?_ GE207.out | refine below_set ?_ GE208.out | refine below_set ?_ GE209.out | refine below_set ?_ GE213.out) | exact HB.out)))); have n6_ := Aside0.mk (blk_below (g := gb206) (o := .cells #[.string t185, .int .i64 t186, .int .i64 t187, .int .i64 t188, .slice Ao28 t189.length co28, .slice Ao29 t192.length co29, .bool t195] 28 (0, 0)) (by (with_reducible repeat (first | refine blk_drewN ?_ _ | refine blk_drew ?_ | refine blk_alloc ?_ _)); exact BK206.out) hb); have n7_ := Aside0.mk (blk_below (g := gb207) (o := .cells #[.string t196, .int .i64 t197, .int .i64 t198, .slice Ao31 t199.length co31, .slice Ao32 t202.length co32, .bool t205] 31 (0, 0)) (by (with_reducible repeat (first | refine blk_drewN ?_ _ | refine blk_drew ?_ | refine blk_alloc ?_ _)); exact BK207.out) hb); have n8_ := Aside0.mk (blk_below (g := gb208) (o := .cells #[.string t210, .int .i64 4, .int .i64 t187, .int .i64 t188, .slice Ao28 t189.length co28, .slice Ao29 t192.length co29, .bool t195] 28 (0, 0)) (by (with_reducible repeat (first | refine blk_drewN ?_ _ | refine blk_drew ?_ | refine blk_alloc ?_ _)); exact BK208.out) hb); have n9_ := Aside0.mk (blk_below (g := gb209) (o := .cells #[.string t211, .int .i64 t197, .int .i64 t198, .slice Ao31 t199.length co31, .slice Ao32 t202.length co32, .bool t205] 31 (0, 0)) (by (with_reducible repeat (first | refine blk_drewN ?_ _ | refine blk_drew ?_ | refine blk_alloc ?_ _)); exact BK209.out) hb); have n10_ := Aside0.mk (blk_below (g := gb213) (o := .cells #[.int .i64 t212, .int .i64 0] 25 (0, 0)) (by (with_reducible repeat (first | refine blk_drewN ?_ _ | refine blk_drew ?_ | refine blk_alloc ?_ _)); exact BK213.out) hb); have n11_ := Aside0.mk (below_step (by repeat (first | (with_reducible first | exact HB.out | apply below_alloc | apply pw_below_drewN | apply below_drew1 | refine below_set ?_ GE206.out | refine below_set ?_ GE207.out | refine below_set ?_ GE208.out | refine below_set ?_ GE209.out | refine below_set ?_ GE213.out) | exact HB.out)) hb); clear HO191; clear HO194; clear HO201; clear HO204; clear HO216; clear BK206; clear BK207; clear BK208; clear BK209; clear BK213; clear HB; have HO191 := n0_; have HO194 := n1_; have HO201 := n2_; have HO204 := n3_; have HO216 := n4_; have HO219 := n5_; have BK206 := n6_; have BK207 := n7_; have BK208 := n8_; have BK209 := n9_; have BK213 := n10_; have HB := n11_; clear n0_ n1_ n2_ n3_ n4_ n5_ n6_ n7_ n8_ n9_ n10_ n11_; clear hb ho69))
    have n0_ := Aside0.mk (Kd.R_drew HO191.out)
    have n1_ := Aside0.mk (Kd.R_drew HO194.out)
    have n2_ := Aside0.mk (Kd.R_drew HO201.out)
    have n3_ := Aside0.mk (Kd.R_drew HO204.out)
    have n4_ := Aside0.mk (Kd.R_drew HO216.out)
    have n5_ := Aside0.mk (Kd.R_drew HO219.out)
    have n6_ := Aside0.mk (blk_drew BK206.out)
    have n7_ := Aside0.mk (blk_drew BK207.out)
    have n8_ := Aside0.mk (blk_drew BK208.out)
    have n9_ := Aside0.mk (blk_drew BK209.out)
    have n10_ := Aside0.mk (blk_drew BK213.out)
    have n11_ := Aside0.mk (below_drew1 HB.out)
    clear HO191
    clear HO194
    clear HO201
    clear HO204
    clear HO216
    clear HO219
    clear BK206
    clear BK207
    clear BK208
    clear BK209
    clear BK213
    clear HB
    have HO191 := n0_
    have HO194 := n1_
    have HO201 := n2_
    have HO204 := n3_
    have HO216 := n4_
    have HO219 := n5_
    have BK206 := n6_
    have BK207 := n7_
    have BK208 := n8_
    have BK209 := n9_
    have BK213 := n10_
    have HB := n11_
    clear n0_ n1_ n2_ n3_ n4_ n5_ n6_ n7_ n8_ n9_ n10_ n11_
    obtain ⟨Ao71, co71, eo71⟩ := Kd.R_slice HO216.out
    (first | subst eo71 | (injection eo71 with f1_ f2_ f3_; have f4_ := f1_.symm; have f5_ := f3_.symm; clear f1_ f2_ f3_; subst f4_; subst f5_))
    refine start_ (n := 36) (S := fun w' => w'.cell? ⟨gb206, 0, none⟩ = some (.string t185) ∧ w'.cell? ⟨gb206, 1, none⟩ = some (.int .i64 t186) ∧ w'.cell? ⟨gb206, 2, none⟩ = some (.int .i64 t187) ∧ w'.cell? ⟨gb206, 3, none⟩ = some (.int .i64 t188) ∧ w'.cell? ⟨gb206, 4, none⟩ = some (.slice Ao28 t189.length co28) ∧ w'.cell? ⟨gb206, 5, none⟩ = some (.slice Ao29 t192.length co29) ∧ w'.cell? ⟨gb206, 6, none⟩ = some (.bool t195) ∧ w'.cell? ⟨gb207, 0, none⟩ = some (.string t196) ∧ w'.cell? ⟨gb207, 1, none⟩ = some (.int .i64 t197) ∧ w'.cell? ⟨gb207, 2, none⟩ = some (.int .i64 t198) ∧ w'.cell? ⟨gb207, 3, none⟩ = some (.slice Ao31 t199.length co31) ∧ w'.cell? ⟨gb207, 4, none⟩ = some (.slice Ao32 t202.length co32) ∧ w'.cell? ⟨gb207, 5, none⟩ = some (.bool t205) ∧ w'.cell? ⟨gb213, 0, none⟩ = some (.int .i64 t212) ∧ w'.cell? ⟨gb213, 1, none⟩ = some (.int .i64 0) ∧ w'.cell? ⟨gb208, 0, none⟩ = some (.string t210) ∧ w'.cell? ⟨gb208, 1, none⟩ = some (.int .i64 4) ∧ w'.cell? ⟨gb208, 2, none⟩ = some (.int .i64 t187) ∧ w'.cell? ⟨gb208, 3, none⟩ = some (.int .i64 t188) ∧ w'.cell? ⟨gb208, 4, none⟩ = some (.slice Ao28 t189.length co28) ∧ w'.cell? ⟨gb208, 5, none⟩ = some (.slice Ao29 t192.length co29) ∧ w'.cell? ⟨gb208, 6, none⟩ = some (.bool t195) ∧ w'.cell? ⟨gb209, 0, none⟩ = some (.string t211) ∧ w'.cell? ⟨gb209, 1, none⟩ = some (.int .i64 t197) ∧ w'.cell? ⟨gb209, 2, none⟩ = some (.int .i64 t198) ∧ w'.cell? ⟨gb209, 3, none⟩ = some (.slice Ao31 t199.length co31) ∧ w'.cell? ⟨gb209, 4, none⟩ = some (.slice Ao32 t202.length co32) ∧ w'.cell? ⟨gb209, 5, none⟩ = some (.bool t205)) (ds := []) #[false, false, false, false, false, false, false, false, false, false, false, false, false, false, false, false, false, false, false, false, false, false, false, false, false, false, false, false, false, false, false, false, false, false, false, false] (by kernel_rfl) rfl rfl ⟨(blk_cell BK206.out 0).trans rfl, (blk_cell BK206.out 1).trans rfl, (blk_cell BK206.out 2).trans rfl, (blk_cell BK206.out 3).trans rfl, (blk_cell BK206.out 4).trans rfl, (blk_cell BK206.out 5).trans rfl, (blk_cell BK206.out 6).trans rfl, (blk_cell BK207.out 0).trans rfl, (blk_cell BK207.out 1).trans rfl, (blk_cell BK207.out 2).trans rfl, (blk_cell BK207.out 3).trans rfl, (blk_cell BK207.out 4).trans rfl, (blk_cell BK207.out 5).trans rfl, (blk_cell BK213.out 0).trans rfl, (blk_cell BK213.out 1).trans rfl, (blk_cell BK208.out 0).trans rfl, (blk_cell BK208.out 1).trans rfl, (blk_cell BK208.out 2).trans rfl, (blk_cell BK208.out 3).trans rfl, (blk_cell BK208.out 4).trans rfl, (blk_cell BK208.out 5).trans rfl, (blk_cell BK208.out 6).trans rfl, (blk_cell BK209.out 0).trans rfl, (blk_cell BK209.out 1).trans rfl, (blk_cell BK209.out 2).trans rfl, (blk_cell BK209.out 3).trans rfl, (blk_cell BK209.out 4).trans rfl, (blk_cell BK209.out 5).trans rfl⟩ (fun hHeld => ?_); refine with_tabW joinerylaw5_FitNames.tab8 joinerylaw5_FitNames.bits8 (fun HT_ HW_ => ?_)
    generalize w68.drew = w70 at HO191 HO194 HO201 HO204 HO216 HO219 BK206 BK207 BK208 BK209 BK213 HB hHeld ⊢
    refine pure_ (i := 3) (N := some 46) (v := ?_) (a' := ?_) #[false, false, false, true, false, false, false, false, false, false, false, false, false, false, false, false, false, false, false, false, false, false, false, false, false, false, false, false, false, false, false, false, false, false, false, false] rfl rfl (any_of HT_.out (by kernel_rfl)) (fun _ _ _ h => h) (Or.inl ⟨by rfl, ?_⟩) ?_ ?_
    rotate_left
    ·intro w'
     go_simp
     with_reducible rfl
    rotate_left
    ·simp only [Act.put, List.setIfInBounds_toArray, List.set_cons_zero, List.set_cons_succ, i64_w, i32_w]
     rfl
    refine pure_ (i := 8) (N := some 51) (v := ?_) (a' := ?_) #[false, false, false, true, false, false, false, false, true, false, false, false, false, false, false, false, false, false, false, false, false, false, false, false, false, false, false, false, false, false, false, false, false, false, false, false] rfl rfl (any_of HT_.out (by kernel_rfl)) (fun _ _ _ h => h) (Or.inl ⟨by rfl, ?_⟩) ?_ ?_
    rotate_left
    ·intro w'
     go_simp
     with_reducible rfl
    rotate_left
    ·simp only [Act.put, List.setIfInBounds_toArray, List.set_cons_zero, List.set_cons_succ, i64_w, i32_w]
     rfl
    refine take_ (i := 0) (N := some 43) (v := ?_) (a' := ?_) #[true, false, false, true, false, false, false, false, true, false, false, false, false, false, false, false, false, false, false, false, false, false, false, false, false, false, false, false, false, false, false, false, false, false, false, false] rfl rfl (take_ofW HT_.out HW_.out (by kernel_rfl)) (fun _ _ _ h => h) (Or.inl ⟨by rfl, ?_⟩) hHeld ?_ ?_
    rotate_left
    ·rintro w' ⟨s0, s1, s2, s3, s4, s5, s6, s7, s8, s9, s10, s11, s12, s13, s14, s15, s16, s17, s18, s19, s20, s21, s22, s23, s24, s25, s26, s27⟩
     go_simp
     with_reducible rfl
    rotate_left
    ·simp only [Act.put, List.setIfInBounds_toArray, List.set_cons_zero, List.set_cons_succ, i64_w, i32_w]
     rfl
    refine take_ (i := 1) (N := some 44) (v := ?_) (a' := ?_) #[true, true, false, true, false, false, false, false, true, false, false, false, false, false, false, false, false, false, false, false, false, false, false, false, false, false, false, false, false, false, false, false, false, false, false, false] rfl rfl (take_ofW HT_.out HW_.out (by kernel_rfl)) (fun _ _ _ h => h) (Or.inl ⟨by rfl, ?_⟩) hHeld ?_ ?_
    rotate_left
    ·rintro w' ⟨s0, s1, s2, s3, s4, s5, s6, s7, s8, s9, s10, s11, s12, s13, s14, s15, s16, s17, s18, s19, s20, s21, s22, s23, s24, s25, s26, s27⟩
     go_simp
     with_reducible rfl
    rotate_left
    ·simp only [Act.put, List.setIfInBounds_toArray, List.set_cons_zero, List.set_cons_succ, i64_w, i32_w]
     rfl
    refine take_ (i := 2) (N := some 45) (v := ?_) (a' := ?_) #[true, true, true, true, false, false, false, false, true, false, false, false, false, false, false, false, false, false, false, false, false, false, false, false, false, false, false, false, false, false, false, false, false, false, false, false] rfl rfl (take_ofW HT_.out HW_.out (by kernel_rfl)) (fun _ _ _ h => h) (Or.inl ⟨by rfl, ?_⟩) hHeld ?_ ?_
    rotate_left
    ·rintro w' ⟨s0, s1, s2, s3, s4, s5, s6, s7, s8, s9, s10, s11, s12, s13, s14, s15, s16, s17, s18, s19, s20, s21, s22, s23, s24, s25, s26, s27⟩
     go_simp
     with_reducible rfl
    rotate_left
    ·simp only [Act.put, List.setIfInBounds_toArray, List.set_cons_zero, List.set_cons_succ, i64_w, i32_w]
     rfl
    refine take_ (i := 5) (N := some 48) (v := ?_) (a' := ?_) #[true, true, true, true, false, true, false, false, true, false, false, false, false, false, false, false, false, false, false, false, false, false, false, false, false, false, false, false, false, false, false, false, false, false, false, false] rfl rfl (take_ofW HT_.out HW_.out (by kernel_rfl)) (fun _ _ _ h => h) (Or.inl ⟨by rfl, ?_⟩) hHeld ?_ ?_
    rotate_left
    ·rintro w' ⟨s0, s1, s2, s3, s4, s5, s6, s7, s8, s9, s10, s11, s12, s13, s14, s15, s16, s17, s18, s19, s20, s21, s22, s23, s24, s25, s26, s27⟩
     go_simp
     with_reducible rfl
    rotate_left
    ·simp only [Act.put, List.setIfInBounds_toArray, List.set_cons_zero, List.set_cons_succ, i64_w, i32_w]
     rfl
    refine take_ (i := 6) (N := some 49) (v := ?_) (a' := ?_) #[true, true, true, true, false, true, true, false, true, false, false, false, false, false, false, false, false, false, false, false, false, false, false, false, false, false, false, false, false, false, false, false, false, false, false, false] rfl rfl (take_ofW HT_.out HW_.out (by kernel_rfl)) (fun _ _ _ h => h) (Or.inl ⟨by rfl, ?_⟩) hHeld ?_ ?_
    rotate_left
    ·rintro w' ⟨s0, s1, s2, s3, s4, s5, s6, s7, s8, s9, s10, s11, s12, s13, s14, s15, s16, s17, s18, s19, s20, s21, s22, s23, s24, s25, s26, s27⟩
     go_simp
     with_reducible rfl
    rotate_left
    ·simp only [Act.put, List.setIfInBounds_toArray, List.set_cons_zero, List.set_cons_succ, i64_w, i32_w]
     rfl
    refine take_ (i := 7) (N := some 50) (v := ?_) (a' := ?_) #[true, true, true, true, false, true, true, true, true, false, false, false, false, false, false, false, false, false, false, false, false, false, false, false, false, false, false, false, false, false, false, false, false, false, false, false] rfl rfl (take_ofW HT_.out HW_.out (by kernel_rfl)) (fun _ _ _ h => h) (Or.inl ⟨by rfl, ?_⟩) hHeld ?_ ?_
    rotate_left
    ·rintro w' ⟨s0, s1, s2, s3, s4, s5, s6, s7, s8, s9, s10, s11, s12, s13, s14, s15, s16, s17, s18, s19, s20, s21, s22, s23, s24, s25, s26, s27⟩
     go_simp
     with_reducible rfl
    rotate_left
    ·simp only [Act.put, List.setIfInBounds_toArray, List.set_cons_zero, List.set_cons_succ, i64_w, i32_w]
     rfl
    refine one_ (i := 4) (N := some 47) #[true, true, true, true, true, true, true, true, true, false, false, false, false, false, false, false, false, false, false, false, false, false, false, false, false, false, false, false, false, false, false, false, false, false, false, false] rfl rfl (one_of HT_.out (by kernel_rfl)) (by decide) (fun K hK => ?_)
    refine goes_ Try.func16 (by kernel_rfl) rfl #[.agg #[.string t185, .int .i64 t186, .int .i64 t187, .int .i64 t188, .slice Ao28 t189.length co28, .slice Ao29 t192.length co29, .bool t195], .agg #[.string t196, .int .i64 t197, .int .i64 t198, .slice Ao31 t199.length co31, .slice Ao32 t202.length co32, .bool t205], .agg #[.int .i64 t212, .int .i64 0], .slice Ao71 y214.length co71] (by rfl) rfl rfl (by (try simp only [List.map_toArray, List.map_cons, List.map_nil]); first | done | rfl) ?_
    with_reducible refine (fit_Why.calls k t185 t186 t187 t188 _ _ t189 _ _ t192 t195 t196 t197 t198 _ _ t199 _ _ t202 t205 t212 0 _ _ y214 t220 _ ?side1 ?side2 ?side3 ?side4 ?side5 ?side6 ?side7 ?side8 ?side9 ?side10 A13.out).mono ?_
    (case side1 => repeat (first | exact (Kd.R_reads' HO191.out).2.2 | (with_reducible refine Kd.C_alloc ?_ _) | (with_reducible refine Kd.C_drewN ?_ _) | (with_reducible refine Kd.C_drew ?_)))
    (case side2 => exact (Kd.R_reads' HO191.out).2.1)
    (case side3 => repeat (first | exact (Kd.R_reads' HO194.out).2.2 | (with_reducible refine Kd.C_alloc ?_ _) | (with_reducible refine Kd.C_drewN ?_ _) | (with_reducible refine Kd.C_drew ?_)))
    (case side4 => exact (Kd.R_reads' HO194.out).2.1)
    (case side5 => repeat (first | exact (Kd.R_reads' HO201.out).2.2 | (with_reducible refine Kd.C_alloc ?_ _) | (with_reducible refine Kd.C_drewN ?_ _) | (with_reducible refine Kd.C_drew ?_)))
    (case side6 => exact (Kd.R_reads' HO201.out).2.1)
    (case side7 => repeat (first | exact (Kd.R_reads' HO204.out).2.2 | (with_reducible refine Kd.C_alloc ?_ _) | (with_reducible refine Kd.C_drewN ?_ _) | (with_reducible refine Kd.C_drew ?_)))
    (case side8 => exact (Kd.R_reads' HO204.out).2.1)
    (case side9 => repeat (first | exact (Kd.R_reads' HO216.out).2.2 | (with_reducible refine Kd.C_alloc ?_ _) | (with_reducible refine Kd.C_drewN ?_ _) | (with_reducible refine Kd.C_drew ?_)))
    (case side10 => exact (Kd.R_reads' HO216.out).2.1)
    rintro e w72 ⟨rfl, hb⟩
    refine ⟨_, rfl, ?_⟩
    have n0_ := Aside0.mk (Kd.R_below (by (with_reducible repeat (first | apply Kd.R_alloc | apply Kd.R_drewN | apply Kd.R_drew)); exact HO191.out) hb)
    have n1_ := Aside0.mk (Kd.R_below (by (with_reducible repeat (first | apply Kd.R_alloc | apply Kd.R_drewN | apply Kd.R_drew)); exact HO194.out) hb)
    have n2_ := Aside0.mk (Kd.R_below (by (with_reducible repeat (first | apply Kd.R_alloc | apply Kd.R_drewN | apply Kd.R_drew)); exact HO201.out) hb)
    have n3_ := Aside0.mk (Kd.R_below (by (with_reducible repeat (first | apply Kd.R_alloc | apply Kd.R_drewN | apply Kd.R_drew)); exact HO204.out) hb)
    have n4_ := Aside0.mk (Kd.R_below (by (with_reducible repeat (first | apply Kd.R_alloc | apply Kd.R_drewN | apply Kd.R_drew)); exact HO216.out) hb)
    have n5_ := Aside0.mk (Kd.R_below (by (with_reducible repeat (first | apply Kd.R_alloc | apply Kd.R_drewN | apply Kd.R_drew)); exact HO219.out) hb)
    have n6_ := Aside0.mk (blk_below (g := gb206) (o := .cells #[.string t185, .int .i64 t186, .int .i64 t187, .int .i64 t188, .slice Ao28 t189.length co28, .slice Ao29 t192.length co29, .bool t195] 28 (0, 0)) (by (with_reducible repeat (first | refine blk_drewN ?_ _ | refine blk_drew ?_ | refine blk_alloc ?_ _)); exact BK206.out) hb)
    have n7_ := Aside0.mk (blk_below (g := gb207) (o := .cells #[.string t196, .int .i64 t197, .int .i64 t198, .slice Ao31 t199.length co31, .slice Ao32 t202.length co32, .bool t205] 31 (0, 0)) (by (with_reducible repeat (first | refine blk_drewN ?_ _ | refine blk_drew ?_ | refine blk_alloc ?_ _)); exact BK207.out) hb)
    have n8_ := Aside0.mk (blk_below (g := gb208) (o := .cells #[.string t210, .int .i64 4, .int .i64 t187, .int .i64 t188, .slice Ao28 t189.length co28, .slice Ao29 t192.length co29, .bool t195] 28 (0, 0)) (by (with_reducible repeat (first | refine blk_drewN ?_ _ | refine blk_drew ?_ | refine blk_alloc ?_ _)); exact BK208.out) hb)
    have n9_ := Aside0.mk (blk_below (g := gb209) (o := .cells #[.string t211, .int .i64 t197, .int .i64 t198, .slice Ao31 t199.length co31, .slice Ao32 t202.length co32, .bool t205] 31 (0, 0)) (by (with_reducible repeat (first | refine blk_drewN ?_ _ | refine blk_drew ?_ | refine blk_alloc ?_ _)); exact BK209.out) hb)
    have n10_ := Aside0.mk (blk_below (g := gb213) (o := .cells #[.int .i64 t212, .int .i64 0] 25 (0, 0)) (by (with_reducible repeat (first | refine blk_drewN ?_ _ | refine blk_drew ?_ | refine blk_alloc ?_ _)); exact BK213.out) hb)
    have n11_ := Aside0.mk (below_step (by repeat (first | (with_reducible first | exact HB.out | apply below_alloc | apply pw_below_drewN | apply below_drew1 | refine below_set ?_ GE206.out | refine below_set ?_ GE207.out | refine below_set ?_ GE208.out | refine below_set ?_ GE209.out | refine below_set ?_ GE213.out) | exact HB.out)) hb)
    clear HO191
    clear HO194
    clear HO201
    clear HO204
    clear HO216
    clear HO219
    clear BK206
    clear BK207
    clear BK208
    clear BK209
    clear BK213
    clear HB
    have HO191 := n0_
    have HO194 := n1_
    have HO201 := n2_
    have HO204 := n3_
    have HO216 := n4_
    have HO219 := n5_
    have BK206 := n6_
    have BK207 := n7_
    have BK208 := n8_
    have BK209 := n9_
    have BK213 := n10_
    have HB := n11_
    clear n0_ n1_ n2_ n3_ n4_ n5_ n6_ n7_ n8_ n9_ n10_ n11_
    (try clear hb)
    (try clear hb2)
    (try clear hk)
    (try clear hi)
    obtain ⟨Ao73, co73, eo73⟩ := Kd.R_slice HO219.out
    (first | subst eo73 | (injection eo73 with f1_ f2_ f3_; have f4_ := f1_.symm; have f5_ := f3_.symm; clear f1_ f2_ f3_; subst f4_; subst f5_))
    refine hK.out _ _ ⟨(blk_cell BK206.out 0).trans rfl, (blk_cell BK206.out 1).trans rfl, (blk_cell BK206.out 2).trans rfl, (blk_cell BK206.out 3).trans rfl, (blk_cell BK206.out 4).trans rfl, (blk_cell BK206.out 5).trans rfl, (blk_cell BK206.out 6).trans rfl, (blk_cell BK207.out 0).trans rfl, (blk_cell BK207.out 1).trans rfl, (blk_cell BK207.out 2).trans rfl, (blk_cell BK207.out 3).trans rfl, (blk_cell BK207.out 4).trans rfl, (blk_cell BK207.out 5).trans rfl, (blk_cell BK213.out 0).trans rfl, (blk_cell BK213.out 1).trans rfl, (blk_cell BK208.out 0).trans rfl, (blk_cell BK208.out 1).trans rfl, (blk_cell BK208.out 2).trans rfl, (blk_cell BK208.out 3).trans rfl, (blk_cell BK208.out 4).trans rfl, (blk_cell BK208.out 5).trans rfl, (blk_cell BK208.out 6).trans rfl, (blk_cell BK209.out 0).trans rfl, (blk_cell BK209.out 1).trans rfl, (blk_cell BK209.out 2).trans rfl, (blk_cell BK209.out 3).trans rfl, (blk_cell BK209.out 4).trans rfl, (blk_cell BK209.out 5).trans rfl⟩ (fun hHeld => ?_)
    clear hK K
    refine norm_ (a' := ?_) ?_ ?_
    rotate_left
    ·show Act.put _ (some 47) _ = _
     simp only [Act.put, List.setIfInBounds_toArray, List.set_cons_zero, List.set_cons_succ, i64_w, i32_w]
     rfl
    refine one_ (i := 9) (N := some 52) #[true, true, true, true, true, true, true, true, true, true, false, false, false, false, false, false, false, false, false, false, false, false, false, false, false, false, false, false, false, false, false, false, false, false, false, false] rfl rfl (one_of HT_.out (by kernel_rfl)) (by decide) (fun K hK => ?_)
    refine goes_ Try.func16 (by kernel_rfl) rfl #[.agg #[.string t210, .int .i64 4, .int .i64 t187, .int .i64 t188, .slice Ao28 t189.length co28, .slice Ao29 t192.length co29, .bool t195], .agg #[.string t211, .int .i64 t197, .int .i64 t198, .slice Ao31 t199.length co31, .slice Ao32 t202.length co32, .bool t205], .agg #[.int .i64 t212, .int .i64 0], .slice Ao73 y217.length co73] (by rfl) rfl rfl (by (try simp only [List.map_toArray, List.map_cons, List.map_nil]); first | done | rfl) ?_
    with_reducible refine (fit_Why.calls k t210 4 t187 t188 _ _ t189 _ _ t192 t195 t211 t197 t198 _ _ t199 _ _ t202 t205 t212 0 _ _ y217 t221 _ ?side1 ?side2 ?side3 ?side4 ?side5 ?side6 ?side7 ?side8 ?side9 ?side10 A14.out).mono ?_
    (case side1 => repeat (first | exact (Kd.R_reads' HO191.out).2.2 | (with_reducible refine Kd.C_alloc ?_ _) | (with_reducible refine Kd.C_drewN ?_ _) | (with_reducible refine Kd.C_drew ?_)))
    (case side2 => exact (Kd.R_reads' HO191.out).2.1)
    (case side3 => repeat (first | exact (Kd.R_reads' HO194.out).2.2 | (with_reducible refine Kd.C_alloc ?_ _) | (with_reducible refine Kd.C_drewN ?_ _) | (with_reducible refine Kd.C_drew ?_)))
    (case side4 => exact (Kd.R_reads' HO194.out).2.1)
    (case side5 => repeat (first | exact (Kd.R_reads' HO201.out).2.2 | (with_reducible refine Kd.C_alloc ?_ _) | (with_reducible refine Kd.C_drewN ?_ _) | (with_reducible refine Kd.C_drew ?_)))
    (case side6 => exact (Kd.R_reads' HO201.out).2.1)
    (case side7 => repeat (first | exact (Kd.R_reads' HO204.out).2.2 | (with_reducible refine Kd.C_alloc ?_ _) | (with_reducible refine Kd.C_drewN ?_ _) | (with_reducible refine Kd.C_drew ?_)))
    (case side8 => exact (Kd.R_reads' HO204.out).2.1)
    (case side9 => repeat (first | exact (Kd.R_reads' HO219.out).2.2 | (with_reducible refine Kd.C_alloc ?_ _) | (with_reducible refine Kd.C_drewN ?_ _) | (with_reducible refine Kd.C_drew ?_)))
    (case side10 => exact (Kd.R_reads' HO219.out).2.1)
    rintro e w74 ⟨rfl, hb⟩
    refine ⟨_, rfl, ?_⟩
    have n0_ := Aside0.mk (Kd.R_below (by (with_reducible repeat (first | apply Kd.R_alloc | apply Kd.R_drewN | apply Kd.R_drew)); exact HO191.out) hb)
    have n1_ := Aside0.mk (Kd.R_below (by (with_reducible repeat (first | apply Kd.R_alloc | apply Kd.R_drewN | apply Kd.R_drew)); exact HO194.out) hb)
    have n2_ := Aside0.mk (Kd.R_below (by (with_reducible repeat (first | apply Kd.R_alloc | apply Kd.R_drewN | apply Kd.R_drew)); exact HO201.out) hb)
    have n3_ := Aside0.mk (Kd.R_below (by (with_reducible repeat (first | apply Kd.R_alloc | apply Kd.R_drewN | apply Kd.R_drew)); exact HO204.out) hb)
    have n4_ := Aside0.mk (Kd.R_below (by (with_reducible repeat (first | apply Kd.R_alloc | apply Kd.R_drewN | apply Kd.R_drew)); exact HO216.out) hb)
    have n5_ := Aside0.mk (Kd.R_below (by (with_reducible repeat (first | apply Kd.R_alloc | apply Kd.R_drewN | apply Kd.R_drew)); exact HO219.out) hb)
    have n6_ := Aside0.mk (blk_below (g := gb206) (o := .cells #[.string t185, .int .i64 t186, .int .i64 t187, .int .i64 t188, .slice Ao28 t189.length co28, .slice Ao29 t192.length co29, .bool t195] 28 (0, 0)) (by (with_reducible repeat (first | refine blk_drewN ?_ _ | refine blk_drew ?_ | refine blk_alloc ?_ _)); exact BK206.out) hb)
    have n7_ := Aside0.mk (blk_below (g := gb207) (o := .cells #[.string t196, .int .i64 t197, .int .i64 t198, .slice Ao31 t199.length co31, .slice Ao32 t202.length co32, .bool t205] 31 (0, 0)) (by (with_reducible repeat (first | refine blk_drewN ?_ _ | refine blk_drew ?_ | refine blk_alloc ?_ _)); exact BK207.out) hb)
    have n8_ := Aside0.mk (blk_below (g := gb208) (o := .cells #[.string t210, .int .i64 4, .int .i64 t187, .int .i64 t188, .slice Ao28 t189.length co28, .slice Ao29 t192.length co29, .bool t195] 28 (0, 0)) (by (with_reducible repeat (first | refine blk_drewN ?_ _ | refine blk_drew ?_ | refine blk_alloc ?_ _)); exact BK208.out) hb)
    have n9_ := Aside0.mk (blk_below (g := gb209) (o := .cells #[.string t211, .int .i64 t197, .int .i64 t198, .slice Ao31 t199.length co31, .slice Ao32 t202.length co32, .bool t205] 31 (0, 0)) (by (with_reducible repeat (first | refine blk_drewN ?_ _ | refine blk_drew ?_ | refine blk_alloc ?_ _)); exact BK209.out) hb)
    have n10_ := Aside0.mk (blk_below (g := gb213) (o := .cells #[.int .i64 t212, .int .i64 0] 25 (0, 0)) (by (with_reducible repeat (first | refine blk_drewN ?_ _ | refine blk_drew ?_ | refine blk_alloc ?_ _)); exact BK213.out) hb)
    have n11_ := Aside0.mk (below_step (by repeat (first | (with_reducible first | exact HB.out | apply below_alloc | apply pw_below_drewN | apply below_drew1 | refine below_set ?_ GE206.out | refine below_set ?_ GE207.out | refine below_set ?_ GE208.out | refine below_set ?_ GE209.out | refine below_set ?_ GE213.out) | exact HB.out)) hb)
    clear HO191
    clear HO194
    clear HO201
    clear HO204
    clear HO216
    clear HO219
    clear BK206
    clear BK207
    clear BK208
    clear BK209
    clear BK213
    clear HB
    have HO191 := n0_
    have HO194 := n1_
    have HO201 := n2_
    have HO204 := n3_
    have HO216 := n4_
    have HO219 := n5_
    have BK206 := n6_
    have BK207 := n7_
    have BK208 := n8_
    have BK209 := n9_
    have BK213 := n10_
    have HB := n11_
    clear n0_ n1_ n2_ n3_ n4_ n5_ n6_ n7_ n8_ n9_ n10_ n11_
    (try clear hb)
    (try clear hb2)
    (try clear hk)
    (try clear hi)
    refine hK.out _ _ ⟨(blk_cell BK206.out 0).trans rfl, (blk_cell BK206.out 1).trans rfl, (blk_cell BK206.out 2).trans rfl, (blk_cell BK206.out 3).trans rfl, (blk_cell BK206.out 4).trans rfl, (blk_cell BK206.out 5).trans rfl, (blk_cell BK206.out 6).trans rfl, (blk_cell BK207.out 0).trans rfl, (blk_cell BK207.out 1).trans rfl, (blk_cell BK207.out 2).trans rfl, (blk_cell BK207.out 3).trans rfl, (blk_cell BK207.out 4).trans rfl, (blk_cell BK207.out 5).trans rfl, (blk_cell BK213.out 0).trans rfl, (blk_cell BK213.out 1).trans rfl, (blk_cell BK208.out 0).trans rfl, (blk_cell BK208.out 1).trans rfl, (blk_cell BK208.out 2).trans rfl, (blk_cell BK208.out 3).trans rfl, (blk_cell BK208.out 4).trans rfl, (blk_cell BK208.out 5).trans rfl, (blk_cell BK208.out 6).trans rfl, (blk_cell BK209.out 0).trans rfl, (blk_cell BK209.out 1).trans rfl, (blk_cell BK209.out 2).trans rfl, (blk_cell BK209.out 3).trans rfl, (blk_cell BK209.out 4).trans rfl, (blk_cell BK209.out 5).trans rfl⟩ (fun hHeld => ?_)
    clear hK K
    refine norm_ (a' := ?_) ?_ ?_
    rotate_left
    ·show Act.put _ (some 52) _ = _
     simp only [Act.put, List.setIfInBounds_toArray, List.set_cons_zero, List.set_cons_succ, i64_w, i32_w]
     rfl
    refine pure_ (i := 10) (N := some 53) (v := ?_) (a' := ?_) #[true, true, true, true, true, true, true, true, true, true, true, false, false, false, false, false, false, false, false, false, false, false, false, false, false, false, false, false, false, false, false, false, false, false, false, false] rfl rfl (any_of HT_.out (by kernel_rfl)) (fun _ _ _ h => h) (Or.inl ⟨by rfl, ?_⟩) ?_ ?_
    rotate_left
    ·intro w'
     go_simp
     with_reducible rfl
    rotate_left
    ·simp only [Act.put, List.setIfInBounds_toArray, List.set_cons_zero, List.set_cons_succ, i64_w, i32_w]
     rfl
    refine pure_ (i := 11) (N := some 54) (v := ?_) (a' := ?_) #[true, true, true, true, true, true, true, true, true, true, true, true, false, false, false, false, false, false, false, false, false, false, false, false, false, false, false, false, false, false, false, false, false, false, false, false] rfl rfl (any_of HT_.out (by kernel_rfl)) (fun _ _ _ h => h) (Or.inl ⟨by rfl, ?_⟩) ?_ ?_
    rotate_left
    ·intro w'
     go_simp
     with_reducible rfl
    rotate_left
    ·simp only [Act.put, List.setIfInBounds_toArray, List.set_cons_zero, List.set_cons_succ, i64_w, i32_w]
     rfl
    refine take_ (i := 12) (N := some 55) (v := ?_) (a' := ?_) #[true, true, true, true, true, true, true, true, true, true, true, true, true, false, false, false, false, false, false, false, false, false, false, false, false, false, false, false, false, false, false, false, false, false, false, false] rfl rfl (take_ofW HT_.out HW_.out (by kernel_rfl)) (fun _ _ _ h => h) (Or.inl ⟨by rfl, ?_⟩) hHeld ?_ ?_
    rotate_left
    ·rintro w' ⟨s0, s1, s2, s3, s4, s5, s6, s7, s8, s9, s10, s11, s12, s13, s14, s15, s16, s17, s18, s19, s20, s21, s22, s23, s24, s25, s26, s27⟩
     go_simp
     with_reducible rfl
    rotate_left
    ·simp only [Act.put, List.setIfInBounds_toArray, List.set_cons_zero, List.set_cons_succ, i64_w, i32_w]
     rfl
    refine take_ (i := 13) (N := some 56) (v := ?_) (a' := ?_) #[true, true, true, true, true, true, true, true, true, true, true, true, true, true, false, false, false, false, false, false, false, false, false, false, false, false, false, false, false, false, false, false, false, false, false, false] rfl rfl (take_ofW HT_.out HW_.out (by kernel_rfl)) (fun _ _ _ h => h) (Or.inl ⟨by rfl, ?_⟩) hHeld ?_ ?_
    rotate_left
    ·rintro w' ⟨s0, s1, s2, s3, s4, s5, s6, s7, s8, s9, s10, s11, s12, s13, s14, s15, s16, s17, s18, s19, s20, s21, s22, s23, s24, s25, s26, s27⟩
     go_simp
     with_reducible rfl
    rotate_left
    ·simp only [Act.put, List.setIfInBounds_toArray, List.set_cons_zero, List.set_cons_succ, i64_w, i32_w]
     rfl
    refine take_ (i := 14) (N := some 57) (v := ?_) (a' := ?_) #[true, true, true, true, true, true, true, true, true, true, true, true, true, true, true, false, false, false, false, false, false, false, false, false, false, false, false, false, false, false, false, false, false, false, false, false] rfl rfl (take_ofW HT_.out HW_.out (by kernel_rfl)) (fun _ _ _ h => h) (Or.inl ⟨by rfl, ?_⟩) hHeld ?_ ?_
    rotate_left
    ·rintro w' ⟨s0, s1, s2, s3, s4, s5, s6, s7, s8, s9, s10, s11, s12, s13, s14, s15, s16, s17, s18, s19, s20, s21, s22, s23, s24, s25, s26, s27⟩
     go_simp
     with_reducible rfl
    rotate_left
    ·simp only [Act.put, List.setIfInBounds_toArray, List.set_cons_zero, List.set_cons_succ, i64_w, i32_w]
     rfl
    refine take_ (i := 16) (N := some 59) (v := ?_) (a' := ?_) #[true, true, true, true, true, true, true, true, true, true, true, true, true, true, true, false, true, false, false, false, false, false, false, false, false, false, false, false, false, false, false, false, false, false, false, false] rfl rfl (take_ofW HT_.out HW_.out (by kernel_rfl)) (fun _ _ _ h => h) (Or.inl ⟨by rfl, ?_⟩) hHeld ?_ ?_
    rotate_left
    ·rintro w' ⟨s0, s1, s2, s3, s4, s5, s6, s7, s8, s9, s10, s11, s12, s13, s14, s15, s16, s17, s18, s19, s20, s21, s22, s23, s24, s25, s26, s27⟩
     go_simp
     with_reducible rfl
    rotate_left
    ·simp only [Act.put, List.setIfInBounds_toArray, List.set_cons_zero, List.set_cons_succ, i64_w, i32_w]
     rfl
    refine take_ (i := 17) (N := some 60) (v := ?_) (a' := ?_) #[true, true, true, true, true, true, true, true, true, true, true, true, true, true, true, false, true, true, false, false, false, false, false, false, false, false, false, false, false, false, false, false, false, false, false, false] rfl rfl (take_ofW HT_.out HW_.out (by kernel_rfl)) (fun _ _ _ h => h) (Or.inl ⟨by rfl, ?_⟩) hHeld ?_ ?_
    rotate_left
    ·rintro w' ⟨s0, s1, s2, s3, s4, s5, s6, s7, s8, s9, s10, s11, s12, s13, s14, s15, s16, s17, s18, s19, s20, s21, s22, s23, s24, s25, s26, s27⟩
     go_simp
     with_reducible rfl
    rotate_left
    ·simp only [Act.put, List.setIfInBounds_toArray, List.set_cons_zero, List.set_cons_succ, i64_w, i32_w]
     rfl
    refine take_ (i := 18) (N := some 61) (v := ?_) (a' := ?_) #[true, true, true, true, true, true, true, true, true, true, true, true, true, true, true, false, true, true, true, false, false, false, false, false, false, false, false, false, false, false, false, false, false, false, false, false] rfl rfl (take_ofW HT_.out HW_.out (by kernel_rfl)) (fun _ _ _ h => h) (Or.inl ⟨by rfl, ?_⟩) hHeld ?_ ?_
    rotate_left
    ·rintro w' ⟨s0, s1, s2, s3, s4, s5, s6, s7, s8, s9, s10, s11, s12, s13, s14, s15, s16, s17, s18, s19, s20, s21, s22, s23, s24, s25, s26, s27⟩
     go_simp
     with_reducible rfl
    rotate_left
    ·simp only [Act.put, List.setIfInBounds_toArray, List.set_cons_zero, List.set_cons_succ, i64_w, i32_w]
     rfl
    refine one_ (i := 15) (N := some 58) #[true, true, true, true, true, true, true, true, true, true, true, true, true, true, true, true, true, true, true, false, false, false, false, false, false, false, false, false, false, false, false, false, false, false, false, false] rfl rfl (one_of HT_.out (by kernel_rfl)) (by decide) (fun K hK => ?_)
    refine goes_ Try.func16 (by kernel_rfl) rfl #[.agg #[.string t185, .int .i64 t186, .int .i64 t187, .int .i64 t188, .slice Ao28 t189.length co28, .slice Ao29 t192.length co29, .bool t195], .agg #[.string t196, .int .i64 t197, .int .i64 t198, .slice Ao31 t199.length co31, .slice Ao32 t202.length co32, .bool t205], .agg #[.int .i64 t212, .int .i64 0], .slice none 0 0] (by rfl) rfl rfl (by (try simp only [List.map_toArray, List.map_cons, List.map_nil]); first | done | rfl) ?_
    refine (fit_Why.calls k t185 t186 t187 t188 _ _ t189 _ _ t192 t195 t196 t197 t198 _ _ t199 _ _ t202 t205 t212 0 _ _ ([] : List (S41)) t222 _ ?side1 ?side2 ?side3 ?side4 ?side5 ?side6 ?side7 ?side8 ?side9 ?side10 A16.out).mono ?_
    (case side1 => repeat (first | exact (Kd.R_reads' HO191.out).2.2 | (with_reducible refine Kd.C_alloc ?_ _) | (with_reducible refine Kd.C_drewN ?_ _) | (with_reducible refine Kd.C_drew ?_)))
    (case side2 => exact (Kd.R_reads' HO191.out).2.1)
    (case side3 => repeat (first | exact (Kd.R_reads' HO194.out).2.2 | (with_reducible refine Kd.C_alloc ?_ _) | (with_reducible refine Kd.C_drewN ?_ _) | (with_reducible refine Kd.C_drew ?_)))
    (case side4 => exact (Kd.R_reads' HO194.out).2.1)
    (case side5 => repeat (first | exact (Kd.R_reads' HO201.out).2.2 | (with_reducible refine Kd.C_alloc ?_ _) | (with_reducible refine Kd.C_drewN ?_ _) | (with_reducible refine Kd.C_drew ?_)))
    (case side6 => exact (Kd.R_reads' HO201.out).2.1)
    (case side7 => repeat (first | exact (Kd.R_reads' HO204.out).2.2 | (with_reducible refine Kd.C_alloc ?_ _) | (with_reducible refine Kd.C_drewN ?_ _) | (with_reducible refine Kd.C_drew ?_)))
    (case side8 => exact (Kd.R_reads' HO204.out).2.1)
    (case side9 => exact Kd.C_nil _ _)
    (case side10 => exact Nat.le_refl _)
    rintro e w75 ⟨rfl, hb⟩
    refine ⟨_, rfl, ?_⟩
    have n0_ := Aside0.mk (Kd.R_below (by (with_reducible repeat (first | apply Kd.R_alloc | apply Kd.R_drewN | apply Kd.R_drew)); exact HO191.out) hb)
    have n1_ := Aside0.mk (Kd.R_below (by (with_reducible repeat (first | apply Kd.R_alloc | apply Kd.R_drewN | apply Kd.R_drew)); exact HO194.out) hb)
    have n2_ := Aside0.mk (Kd.R_below (by (with_reducible repeat (first | apply Kd.R_alloc | apply Kd.R_drewN | apply Kd.R_drew)); exact HO201.out) hb)
    have n3_ := Aside0.mk (Kd.R_below (by (with_reducible repeat (first | apply Kd.R_alloc | apply Kd.R_drewN | apply Kd.R_drew)); exact HO204.out) hb)
    have n4_ := Aside0.mk (Kd.R_below (by (with_reducible repeat (first | apply Kd.R_alloc | apply Kd.R_drewN | apply Kd.R_drew)); exact HO216.out) hb)
    have n5_ := Aside0.mk (Kd.R_below (by (with_reducible repeat (first | apply Kd.R_alloc | apply Kd.R_drewN | apply Kd.R_drew)); exact HO219.out) hb)
    have n6_ := Aside0.mk (blk_below (g := gb206) (o := .cells #[.string t185, .int .i64 t186, .int .i64 t187, .int .i64 t188, .slice Ao28 t189.length co28, .slice Ao29 t192.length co29, .bool t195] 28 (0, 0)) (by (with_reducible repeat (first | refine blk_drewN ?_ _ | refine blk_drew ?_ | refine blk_alloc ?_ _)); exact BK206.out) hb)
    have n7_ := Aside0.mk (blk_below (g := gb207) (o := .cells #[.string t196, .int .i64 t197, .int .i64 t198, .slice Ao31 t199.length co31, .slice Ao32 t202.length co32, .bool t205] 31 (0, 0)) (by (with_reducible repeat (first | refine blk_drewN ?_ _ | refine blk_drew ?_ | refine blk_alloc ?_ _)); exact BK207.out) hb)
    have n8_ := Aside0.mk (blk_below (g := gb208) (o := .cells #[.string t210, .int .i64 4, .int .i64 t187, .int .i64 t188, .slice Ao28 t189.length co28, .slice Ao29 t192.length co29, .bool t195] 28 (0, 0)) (by (with_reducible repeat (first | refine blk_drewN ?_ _ | refine blk_drew ?_ | refine blk_alloc ?_ _)); exact BK208.out) hb)
    have n9_ := Aside0.mk (blk_below (g := gb209) (o := .cells #[.string t211, .int .i64 t197, .int .i64 t198, .slice Ao31 t199.length co31, .slice Ao32 t202.length co32, .bool t205] 31 (0, 0)) (by (with_reducible repeat (first | refine blk_drewN ?_ _ | refine blk_drew ?_ | refine blk_alloc ?_ _)); exact BK209.out) hb)
    have n10_ := Aside0.mk (blk_below (g := gb213) (o := .cells #[.int .i64 t212, .int .i64 0] 25 (0, 0)) (by (with_reducible repeat (first | refine blk_drewN ?_ _ | refine blk_drew ?_ | refine blk_alloc ?_ _)); exact BK213.out) hb)
    have n11_ := Aside0.mk (below_step (by repeat (first | (with_reducible first | exact HB.out | apply below_alloc | apply pw_below_drewN | apply below_drew1 | refine below_set ?_ GE206.out | refine below_set ?_ GE207.out | refine below_set ?_ GE208.out | refine below_set ?_ GE209.out | refine below_set ?_ GE213.out) | exact HB.out)) hb)
    clear HO191
    clear HO194
    clear HO201
    clear HO204
    clear HO216
    clear HO219
    clear BK206
    clear BK207
    clear BK208
    clear BK209
    clear BK213
    clear HB
    have HO191 := n0_
    have HO194 := n1_
    have HO201 := n2_
    have HO204 := n3_
    have HO216 := n4_
    have HO219 := n5_
    have BK206 := n6_
    have BK207 := n7_
    have BK208 := n8_
    have BK209 := n9_
    have BK213 := n10_
    have HB := n11_
    clear n0_ n1_ n2_ n3_ n4_ n5_ n6_ n7_ n8_ n9_ n10_ n11_
    (try clear hb)
    (try clear hb2)
    (try clear hk)
    (try clear hi)
    refine hK.out _ _ ⟨(blk_cell BK206.out 0).trans rfl, (blk_cell BK206.out 1).trans rfl, (blk_cell BK206.out 2).trans rfl, (blk_cell BK206.out 3).trans rfl, (blk_cell BK206.out 4).trans rfl, (blk_cell BK206.out 5).trans rfl, (blk_cell BK206.out 6).trans rfl, (blk_cell BK207.out 0).trans rfl, (blk_cell BK207.out 1).trans rfl, (blk_cell BK207.out 2).trans rfl, (blk_cell BK207.out 3).trans rfl, (blk_cell BK207.out 4).trans rfl, (blk_cell BK207.out 5).trans rfl, (blk_cell BK213.out 0).trans rfl, (blk_cell BK213.out 1).trans rfl, (blk_cell BK208.out 0).trans rfl, (blk_cell BK208.out 1).trans rfl, (blk_cell BK208.out 2).trans rfl, (blk_cell BK208.out 3).trans rfl, (blk_cell BK208.out 4).trans rfl, (blk_cell BK208.out 5).trans rfl, (blk_cell BK208.out 6).trans rfl, (blk_cell BK209.out 0).trans rfl, (blk_cell BK209.out 1).trans rfl, (blk_cell BK209.out 2).trans rfl, (blk_cell BK209.out 3).trans rfl, (blk_cell BK209.out 4).trans rfl, (blk_cell BK209.out 5).trans rfl⟩ (fun hHeld => ?_)
    clear hK K
    refine norm_ (a' := ?_) ?_ ?_
    rotate_left
    ·show Act.put _ (some 58) _ = _
     simp only [Act.put, List.setIfInBounds_toArray, List.set_cons_zero, List.set_cons_succ, i64_w, i32_w]
     rfl
    refine one_ (i := 19) (N := some 62) #[true, true, true, true, true, true, true, true, true, true, true, true, true, true, true, true, true, true, true, true, false, false, false, false, false, false, false, false, false, false, false, false, false, false, false, false] rfl rfl (one_of HT_.out (by kernel_rfl)) (by decide) (fun K hK => ?_)
    refine goes_ Try.func16 (by kernel_rfl) rfl #[.agg #[.string t210, .int .i64 4, .int .i64 t187, .int .i64 t188, .slice Ao28 t189.length co28, .slice Ao29 t192.length co29, .bool t195], .agg #[.string t211, .int .i64 t197, .int .i64 t198, .slice Ao31 t199.length co31, .slice Ao32 t202.length co32, .bool t205], .agg #[.int .i64 t212, .int .i64 0], .slice none 0 0] (by rfl) rfl rfl (by (try simp only [List.map_toArray, List.map_cons, List.map_nil]); first | done | rfl) ?_
    refine (fit_Why.calls k t210 4 t187 t188 _ _ t189 _ _ t192 t195 t211 t197 t198 _ _ t199 _ _ t202 t205 t212 0 _ _ ([] : List (S41)) t223 _ ?side1 ?side2 ?side3 ?side4 ?side5 ?side6 ?side7 ?side8 ?side9 ?side10 A17.out).mono ?_
    (case side1 => repeat (first | exact (Kd.R_reads' HO191.out).2.2 | (with_reducible refine Kd.C_alloc ?_ _) | (with_reducible refine Kd.C_drewN ?_ _) | (with_reducible refine Kd.C_drew ?_)))
    (case side2 => exact (Kd.R_reads' HO191.out).2.1)
    (case side3 => repeat (first | exact (Kd.R_reads' HO194.out).2.2 | (with_reducible refine Kd.C_alloc ?_ _) | (with_reducible refine Kd.C_drewN ?_ _) | (with_reducible refine Kd.C_drew ?_)))
    (case side4 => exact (Kd.R_reads' HO194.out).2.1)
    (case side5 => repeat (first | exact (Kd.R_reads' HO201.out).2.2 | (with_reducible refine Kd.C_alloc ?_ _) | (with_reducible refine Kd.C_drewN ?_ _) | (with_reducible refine Kd.C_drew ?_)))
    (case side6 => exact (Kd.R_reads' HO201.out).2.1)
    (case side7 => repeat (first | exact (Kd.R_reads' HO204.out).2.2 | (with_reducible refine Kd.C_alloc ?_ _) | (with_reducible refine Kd.C_drewN ?_ _) | (with_reducible refine Kd.C_drew ?_)))
    (case side8 => exact (Kd.R_reads' HO204.out).2.1)
    (case side9 => exact Kd.C_nil _ _)
    (case side10 => exact Nat.le_refl _)
    rintro e w76 ⟨rfl, hb⟩
    refine ⟨_, rfl, ?_⟩
    have n0_ := Aside0.mk (Kd.R_below (by (with_reducible repeat (first | apply Kd.R_alloc | apply Kd.R_drewN | apply Kd.R_drew)); exact HO191.out) hb)
    have n1_ := Aside0.mk (Kd.R_below (by (with_reducible repeat (first | apply Kd.R_alloc | apply Kd.R_drewN | apply Kd.R_drew)); exact HO194.out) hb)
    have n2_ := Aside0.mk (Kd.R_below (by (with_reducible repeat (first | apply Kd.R_alloc | apply Kd.R_drewN | apply Kd.R_drew)); exact HO201.out) hb)
    have n3_ := Aside0.mk (Kd.R_below (by (with_reducible repeat (first | apply Kd.R_alloc | apply Kd.R_drewN | apply Kd.R_drew)); exact HO204.out) hb)
    have n4_ := Aside0.mk (Kd.R_below (by (with_reducible repeat (first | apply Kd.R_alloc | apply Kd.R_drewN | apply Kd.R_drew)); exact HO216.out) hb)
    have n5_ := Aside0.mk (Kd.R_below (by (with_reducible repeat (first | apply Kd.R_alloc | apply Kd.R_drewN | apply Kd.R_drew)); exact HO219.out) hb)
    have n6_ := Aside0.mk (blk_below (g := gb206) (o := .cells #[.string t185, .int .i64 t186, .int .i64 t187, .int .i64 t188, .slice Ao28 t189.length co28, .slice Ao29 t192.length co29, .bool t195] 28 (0, 0)) (by (with_reducible repeat (first | refine blk_drewN ?_ _ | refine blk_drew ?_ | refine blk_alloc ?_ _)); exact BK206.out) hb)
    have n7_ := Aside0.mk (blk_below (g := gb207) (o := .cells #[.string t196, .int .i64 t197, .int .i64 t198, .slice Ao31 t199.length co31, .slice Ao32 t202.length co32, .bool t205] 31 (0, 0)) (by (with_reducible repeat (first | refine blk_drewN ?_ _ | refine blk_drew ?_ | refine blk_alloc ?_ _)); exact BK207.out) hb)
    have n8_ := Aside0.mk (blk_below (g := gb208) (o := .cells #[.string t210, .int .i64 4, .int .i64 t187, .int .i64 t188, .slice Ao28 t189.length co28, .slice Ao29 t192.length co29, .bool t195] 28 (0, 0)) (by (with_reducible repeat (first | refine blk_drewN ?_ _ | refine blk_drew ?_ | refine blk_alloc ?_ _)); exact BK208.out) hb)
    have n9_ := Aside0.mk (blk_below (g := gb209) (o := .cells #[.string t211, .int .i64 t197, .int .i64 t198, .slice Ao31 t199.length co31, .slice Ao32 t202.length co32, .bool t205] 31 (0, 0)) (by (with_reducible repeat (first | refine blk_drewN ?_ _ | refine blk_drew ?_ | refine blk_alloc ?_ _)); exact BK209.out) hb)
    have n10_ := Aside0.mk (blk_below (g := gb213) (o := .cells #[.int .i64 t212, .int .i64 0] 25 (0, 0)) (by (with_reducible repeat (first | refine blk_drewN ?_ _ | refine blk_drew ?_ | refine blk_alloc ?_ _)); exact BK213.out) hb)
    have n11_ := Aside0.mk (below_step (by repeat (first | (with_reducible first | exact HB.out | apply below_alloc | apply pw_below_drewN | apply below_drew1 | refine below_set ?_ GE206.out | refine below_set ?_ GE207.out | refine below_set ?_ GE208.out | refine below_set ?_ GE209.out | refine below_set ?_ GE213.out) | exact HB.out)) hb)
    clear HO191
    clear HO194
    clear HO201
    clear HO204
    clear HO216
    clear HO219
    clear BK206
    clear BK207
    clear BK208
    clear BK209
    clear BK213
    clear HB
    have HO191 := n0_
    have HO194 := n1_
    have HO201 := n2_
    have HO204 := n3_
    have HO216 := n4_
    have HO219 := n5_
    have BK206 := n6_
    have BK207 := n7_
    have BK208 := n8_
    have BK209 := n9_
    have BK213 := n10_
    have HB := n11_
    clear n0_ n1_ n2_ n3_ n4_ n5_ n6_ n7_ n8_ n9_ n10_ n11_
    (try clear hb)
    (try clear hb2)
    (try clear hk)
    (try clear hi)
    refine hK.out _ _ ⟨(blk_cell BK206.out 0).trans rfl, (blk_cell BK206.out 1).trans rfl, (blk_cell BK206.out 2).trans rfl, (blk_cell BK206.out 3).trans rfl, (blk_cell BK206.out 4).trans rfl, (blk_cell BK206.out 5).trans rfl, (blk_cell BK206.out 6).trans rfl, (blk_cell BK207.out 0).trans rfl, (blk_cell BK207.out 1).trans rfl, (blk_cell BK207.out 2).trans rfl, (blk_cell BK207.out 3).trans rfl, (blk_cell BK207.out 4).trans rfl, (blk_cell BK207.out 5).trans rfl, (blk_cell BK213.out 0).trans rfl, (blk_cell BK213.out 1).trans rfl, (blk_cell BK208.out 0).trans rfl, (blk_cell BK208.out 1).trans rfl, (blk_cell BK208.out 2).trans rfl, (blk_cell BK208.out 3).trans rfl, (blk_cell BK208.out 4).trans rfl, (blk_cell BK208.out 5).trans rfl, (blk_cell BK208.out 6).trans rfl, (blk_cell BK209.out 0).trans rfl, (blk_cell BK209.out 1).trans rfl, (blk_cell BK209.out 2).trans rfl, (blk_cell BK209.out 3).trans rfl, (blk_cell BK209.out 4).trans rfl, (blk_cell BK209.out 5).trans rfl⟩ (fun hHeld => ?_)
    clear hK K
    refine norm_ (a' := ?_) ?_ ?_
    rotate_left
    ·show Act.put _ (some 62) _ = _
     simp only [Act.put, List.setIfInBounds_toArray, List.set_cons_zero, List.set_cons_succ, i64_w, i32_w]
     rfl
    refine pure_ (i := 20) (N := some 63) (v := ?_) (a' := ?_) #[true, true, true, true, true, true, true, true, true, true, true, true, true, true, true, true, true, true, true, true, true, false, false, false, false, false, false, false, false, false, false, false, false, false, false, false] rfl rfl (any_of HT_.out (by kernel_rfl)) (fun _ _ _ h => h) (Or.inl ⟨by rfl, ?_⟩) ?_ ?_
    rotate_left
    ·intro w'
     go_simp
     with_reducible rfl
    rotate_left
    ·simp only [Act.put, List.setIfInBounds_toArray, List.set_cons_zero, List.set_cons_succ, i64_w, i32_w]
     rfl
    refine pure_ (i := 21) (N := some 64) (v := ?_) (a' := ?_) #[true, true, true, true, true, true, true, true, true, true, true, true, true, true, true, true, true, true, true, true, true, true, false, false, false, false, false, false, false, false, false, false, false, false, false, false] rfl rfl (any_of HT_.out (by kernel_rfl)) (fun _ _ _ h => h) (Or.inl ⟨by rfl, ?_⟩) ?_ ?_
    rotate_left
    ·intro w'
     go_simp
     with_reducible rfl
    rotate_left
    ·simp only [Act.put, List.setIfInBounds_toArray, List.set_cons_zero, List.set_cons_succ, i64_w, i32_w]
     rfl
    refine pure_ (i := 22) (N := some 65) (v := ?_) (a' := ?_) #[true, true, true, true, true, true, true, true, true, true, true, true, true, true, true, true, true, true, true, true, true, true, true, false, false, false, false, false, false, false, false, false, false, false, false, false] rfl rfl (any_of HT_.out (by kernel_rfl)) (fun _ _ _ h => h) (Or.inl ⟨by rfl, ?_⟩) ?_ ?_
    rotate_left
    ·intro w'
     go_simp
     with_reducible rfl
    rotate_left
    ·simp only [Act.put, List.setIfInBounds_toArray, List.set_cons_zero, List.set_cons_succ, i64_w, i32_w]
     rfl
    refine pure_ (i := 26) (N := some 69) (v := ?_) (a' := ?_) #[true, true, true, true, true, true, true, true, true, true, true, true, true, true, true, true, true, true, true, true, true, true, true, false, false, false, true, false, false, false, false, false, false, false, false, false] rfl rfl (any_of HT_.out (by kernel_rfl)) (fun _ _ _ h => h) (Or.inl ⟨by rfl, ?_⟩) ?_ ?_
    rotate_left
    ·intro w'
     go_simp
     with_reducible rfl
    rotate_left
    ·simp only [Act.put, List.setIfInBounds_toArray, List.set_cons_zero, List.set_cons_succ, i64_w, i32_w]
     rfl
    refine pure_ (i := 31) (N := some 74) (v := ?_) (a' := ?_) #[true, true, true, true, true, true, true, true, true, true, true, true, true, true, true, true, true, true, true, true, true, true, true, false, false, false, true, false, false, false, false, true, false, false, false, false] rfl rfl (any_of HT_.out (by kernel_rfl)) (fun _ _ _ h => h) (Or.inl ⟨by rfl, ?_⟩) ?_ ?_
    rotate_left
    ·intro w'
     go_simp
     with_reducible rfl
    rotate_left
    ·simp only [Act.put, List.setIfInBounds_toArray, List.set_cons_zero, List.set_cons_succ, i64_w, i32_w]
     rfl
    refine take_ (i := 23) (N := some 66) (v := ?_) (a' := ?_) #[true, true, true, true, true, true, true, true, true, true, true, true, true, true, true, true, true, true, true, true, true, true, true, true, false, false, true, false, false, false, false, true, false, false, false, false] rfl rfl (take_ofW HT_.out HW_.out (by kernel_rfl)) (fun _ _ _ h => h) (Or.inl ⟨by rfl, ?_⟩) hHeld ?_ ?_
    rotate_left
    ·rintro w' ⟨s0, s1, s2, s3, s4, s5, s6, s7, s8, s9, s10, s11, s12, s13, s14, s15, s16, s17, s18, s19, s20, s21, s22, s23, s24, s25, s26, s27⟩
     go_simp
     with_reducible rfl
    rotate_left
    ·simp only [Act.put, List.setIfInBounds_toArray, List.set_cons_zero, List.set_cons_succ, i64_w, i32_w]
     rfl
    refine take_ (i := 24) (N := some 67) (v := ?_) (a' := ?_) #[true, true, true, true, true, true, true, true, true, true, true, true, true, true, true, true, true, true, true, true, true, true, true, true, true, false, true, false, false, false, false, true, false, false, false, false] rfl rfl (take_ofW HT_.out HW_.out (by kernel_rfl)) (fun _ _ _ h => h) (Or.inl ⟨by rfl, ?_⟩) hHeld ?_ ?_
    rotate_left
    ·rintro w' ⟨s0, s1, s2, s3, s4, s5, s6, s7, s8, s9, s10, s11, s12, s13, s14, s15, s16, s17, s18, s19, s20, s21, s22, s23, s24, s25, s26, s27⟩
     go_simp
     with_reducible rfl
    rotate_left
    ·simp only [Act.put, List.setIfInBounds_toArray, List.set_cons_zero, List.set_cons_succ, i64_w, i32_w]
     rfl
    refine take_ (i := 25) (N := some 68) (v := ?_) (a' := ?_) #[true, true, true, true, true, true, true, true, true, true, true, true, true, true, true, true, true, true, true, true, true, true, true, true, true, true, true, false, false, false, false, true, false, false, false, false] rfl rfl (take_ofW HT_.out HW_.out (by kernel_rfl)) (fun _ _ _ h => h) (Or.inl ⟨by rfl, ?_⟩) hHeld ?_ ?_
    rotate_left
    ·rintro w' ⟨s0, s1, s2, s3, s4, s5, s6, s7, s8, s9, s10, s11, s12, s13, s14, s15, s16, s17, s18, s19, s20, s21, s22, s23, s24, s25, s26, s27⟩
     go_simp
     with_reducible rfl
    rotate_left
    ·simp only [Act.put, List.setIfInBounds_toArray, List.set_cons_zero, List.set_cons_succ, i64_w, i32_w]
     rfl
    refine take_ (i := 28) (N := some 71) (v := ?_) (a' := ?_) #[true, true, true, true, true, true, true, true, true, true, true, true, true, true, true, true, true, true, true, true, true, true, true, true, true, true, true, false, true, false, false, true, false, false, false, false] rfl rfl (take_ofW HT_.out HW_.out (by kernel_rfl)) (fun _ _ _ h => h) (Or.inl ⟨by rfl, ?_⟩) hHeld ?_ ?_
    rotate_left
    ·rintro w' ⟨s0, s1, s2, s3, s4, s5, s6, s7, s8, s9, s10, s11, s12, s13, s14, s15, s16, s17, s18, s19, s20, s21, s22, s23, s24, s25, s26, s27⟩
     go_simp
     with_reducible rfl
    rotate_left
    ·simp only [Act.put, List.setIfInBounds_toArray, List.set_cons_zero, List.set_cons_succ, i64_w, i32_w]
     rfl
    refine take_ (i := 29) (N := some 72) (v := ?_) (a' := ?_) #[true, true, true, true, true, true, true, true, true, true, true, true, true, true, true, true, true, true, true, true, true, true, true, true, true, true, true, false, true, true, false, true, false, false, false, false] rfl rfl (take_ofW HT_.out HW_.out (by kernel_rfl)) (fun _ _ _ h => h) (Or.inl ⟨by rfl, ?_⟩) hHeld ?_ ?_
    rotate_left
    ·rintro w' ⟨s0, s1, s2, s3, s4, s5, s6, s7, s8, s9, s10, s11, s12, s13, s14, s15, s16, s17, s18, s19, s20, s21, s22, s23, s24, s25, s26, s27⟩
     go_simp
     with_reducible rfl
    rotate_left
    ·simp only [Act.put, List.setIfInBounds_toArray, List.set_cons_zero, List.set_cons_succ, i64_w, i32_w]
     rfl
    refine take_ (i := 30) (N := some 73) (v := ?_) (a' := ?_) #[true, true, true, true, true, true, true, true, true, true, true, true, true, true, true, true, true, true, true, true, true, true, true, true, true, true, true, false, true, true, true, true, false, false, false, false] rfl rfl (take_ofW HT_.out HW_.out (by kernel_rfl)) (fun _ _ _ h => h) (Or.inl ⟨by rfl, ?_⟩) hHeld ?_ ?_
    rotate_left
    ·rintro w' ⟨s0, s1, s2, s3, s4, s5, s6, s7, s8, s9, s10, s11, s12, s13, s14, s15, s16, s17, s18, s19, s20, s21, s22, s23, s24, s25, s26, s27⟩
     go_simp
     with_reducible rfl
    rotate_left
    ·simp only [Act.put, List.setIfInBounds_toArray, List.set_cons_zero, List.set_cons_succ, i64_w, i32_w]
     rfl
    refine one_ (i := 27) (N := some 70) #[true, true, true, true, true, true, true, true, true, true, true, true, true, true, true, true, true, true, true, true, true, true, true, true, true, true, true, true, true, true, true, true, false, false, false, false] rfl rfl (one_of HT_.out (by kernel_rfl)) (by decide) (fun K hK => ?_)
    refine goes_ Try.func16 (by kernel_rfl) rfl #[.agg #[.string t185, .int .i64 t186, .int .i64 t187, .int .i64 t188, .slice Ao28 t189.length co28, .slice Ao29 t192.length co29, .bool t195], .agg #[.string t196, .int .i64 t197, .int .i64 t198, .slice Ao31 t199.length co31, .slice Ao32 t202.length co32, .bool t205], .agg #[.int .i64 t212, .int .i64 0], .slice Ao71 y214.length co71] (by rfl) rfl rfl (by (try simp only [List.map_toArray, List.map_cons, List.map_nil]); first | done | rfl) ?_
    with_reducible refine (fit_Why.calls k t185 t186 t187 t188 _ _ t189 _ _ t192 t195 t196 t197 t198 _ _ t199 _ _ t202 t205 t212 0 _ _ y214 t224 _ ?side1 ?side2 ?side3 ?side4 ?side5 ?side6 ?side7 ?side8 ?side9 ?side10 A19.out).mono ?_
    (case side1 => repeat (first | exact (Kd.R_reads' HO191.out).2.2 | (with_reducible refine Kd.C_alloc ?_ _) | (with_reducible refine Kd.C_drewN ?_ _) | (with_reducible refine Kd.C_drew ?_)))
    (case side2 => exact (Kd.R_reads' HO191.out).2.1)
    (case side3 => repeat (first | exact (Kd.R_reads' HO194.out).2.2 | (with_reducible refine Kd.C_alloc ?_ _) | (with_reducible refine Kd.C_drewN ?_ _) | (with_reducible refine Kd.C_drew ?_)))
    (case side4 => exact (Kd.R_reads' HO194.out).2.1)
    (case side5 => repeat (first | exact (Kd.R_reads' HO201.out).2.2 | (with_reducible refine Kd.C_alloc ?_ _) | (with_reducible refine Kd.C_drewN ?_ _) | (with_reducible refine Kd.C_drew ?_)))
    (case side6 => exact (Kd.R_reads' HO201.out).2.1)
    (case side7 => repeat (first | exact (Kd.R_reads' HO204.out).2.2 | (with_reducible refine Kd.C_alloc ?_ _) | (with_reducible refine Kd.C_drewN ?_ _) | (with_reducible refine Kd.C_drew ?_)))
    (case side8 => exact (Kd.R_reads' HO204.out).2.1)
    (case side9 => repeat (first | exact (Kd.R_reads' HO216.out).2.2 | (with_reducible refine Kd.C_alloc ?_ _) | (with_reducible refine Kd.C_drewN ?_ _) | (with_reducible refine Kd.C_drew ?_)))
    (case side10 => exact (Kd.R_reads' HO216.out).2.1)
    rintro e w77 ⟨rfl, hb⟩
    refine ⟨_, rfl, ?_⟩
    have n0_ := Aside0.mk (Kd.R_below (by (with_reducible repeat (first | apply Kd.R_alloc | apply Kd.R_drewN | apply Kd.R_drew)); exact HO191.out) hb)
    have n1_ := Aside0.mk (Kd.R_below (by (with_reducible repeat (first | apply Kd.R_alloc | apply Kd.R_drewN | apply Kd.R_drew)); exact HO194.out) hb)
    have n2_ := Aside0.mk (Kd.R_below (by (with_reducible repeat (first | apply Kd.R_alloc | apply Kd.R_drewN | apply Kd.R_drew)); exact HO201.out) hb)
    have n3_ := Aside0.mk (Kd.R_below (by (with_reducible repeat (first | apply Kd.R_alloc | apply Kd.R_drewN | apply Kd.R_drew)); exact HO204.out) hb)
    have n4_ := Aside0.mk (Kd.R_below (by (with_reducible repeat (first | apply Kd.R_alloc | apply Kd.R_drewN | apply Kd.R_drew)); exact HO216.out) hb)
    have n5_ := Aside0.mk (Kd.R_below (by (with_reducible repeat (first | apply Kd.R_alloc | apply Kd.R_drewN | apply Kd.R_drew)); exact HO219.out) hb)
    have n6_ := Aside0.mk (blk_below (g := gb206) (o := .cells #[.string t185, .int .i64 t186, .int .i64 t187, .int .i64 t188, .slice Ao28 t189.length co28, .slice Ao29 t192.length co29, .bool t195] 28 (0, 0)) (by (with_reducible repeat (first | refine blk_drewN ?_ _ | refine blk_drew ?_ | refine blk_alloc ?_ _)); exact BK206.out) hb)
    have n7_ := Aside0.mk (blk_below (g := gb207) (o := .cells #[.string t196, .int .i64 t197, .int .i64 t198, .slice Ao31 t199.length co31, .slice Ao32 t202.length co32, .bool t205] 31 (0, 0)) (by (with_reducible repeat (first | refine blk_drewN ?_ _ | refine blk_drew ?_ | refine blk_alloc ?_ _)); exact BK207.out) hb)
    have n8_ := Aside0.mk (blk_below (g := gb208) (o := .cells #[.string t210, .int .i64 4, .int .i64 t187, .int .i64 t188, .slice Ao28 t189.length co28, .slice Ao29 t192.length co29, .bool t195] 28 (0, 0)) (by (with_reducible repeat (first | refine blk_drewN ?_ _ | refine blk_drew ?_ | refine blk_alloc ?_ _)); exact BK208.out) hb)
    have n9_ := Aside0.mk (blk_below (g := gb209) (o := .cells #[.string t211, .int .i64 t197, .int .i64 t198, .slice Ao31 t199.length co31, .slice Ao32 t202.length co32, .bool t205] 31 (0, 0)) (by (with_reducible repeat (first | refine blk_drewN ?_ _ | refine blk_drew ?_ | refine blk_alloc ?_ _)); exact BK209.out) hb)
    have n10_ := Aside0.mk (blk_below (g := gb213) (o := .cells #[.int .i64 t212, .int .i64 0] 25 (0, 0)) (by (with_reducible repeat (first | refine blk_drewN ?_ _ | refine blk_drew ?_ | refine blk_alloc ?_ _)); exact BK213.out) hb)
    have n11_ := Aside0.mk (below_step (by repeat (first | (with_reducible first | exact HB.out | apply below_alloc | apply pw_below_drewN | apply below_drew1 | refine below_set ?_ GE206.out | refine below_set ?_ GE207.out | refine below_set ?_ GE208.out | refine below_set ?_ GE209.out | refine below_set ?_ GE213.out) | exact HB.out)) hb)
    clear HO191
    clear HO194
    clear HO201
    clear HO204
    clear HO216
    clear HO219
    clear BK206
    clear BK207
    clear BK208
    clear BK209
    clear BK213
    clear HB
    have HO191 := n0_
    have HO194 := n1_
    have HO201 := n2_
    have HO204 := n3_
    have HO216 := n4_
    have HO219 := n5_
    have BK206 := n6_
    have BK207 := n7_
    have BK208 := n8_
    have BK209 := n9_
    have BK213 := n10_
    have HB := n11_
    clear n0_ n1_ n2_ n3_ n4_ n5_ n6_ n7_ n8_ n9_ n10_ n11_
    (try clear hb)
    (try clear hb2)
    (try clear hk)
    (try clear hi)
    refine hK.out _ _ ⟨(blk_cell BK206.out 0).trans rfl, (blk_cell BK206.out 1).trans rfl, (blk_cell BK206.out 2).trans rfl, (blk_cell BK206.out 3).trans rfl, (blk_cell BK206.out 4).trans rfl, (blk_cell BK206.out 5).trans rfl, (blk_cell BK206.out 6).trans rfl, (blk_cell BK207.out 0).trans rfl, (blk_cell BK207.out 1).trans rfl, (blk_cell BK207.out 2).trans rfl, (blk_cell BK207.out 3).trans rfl, (blk_cell BK207.out 4).trans rfl, (blk_cell BK207.out 5).trans rfl, (blk_cell BK213.out 0).trans rfl, (blk_cell BK213.out 1).trans rfl, (blk_cell BK208.out 0).trans rfl, (blk_cell BK208.out 1).trans rfl, (blk_cell BK208.out 2).trans rfl, (blk_cell BK208.out 3).trans rfl, (blk_cell BK208.out 4).trans rfl, (blk_cell BK208.out 5).trans rfl, (blk_cell BK208.out 6).trans rfl, (blk_cell BK209.out 0).trans rfl, (blk_cell BK209.out 1).trans rfl, (blk_cell BK209.out 2).trans rfl, (blk_cell BK209.out 3).trans rfl, (blk_cell BK209.out 4).trans rfl, (blk_cell BK209.out 5).trans rfl⟩ (fun hHeld => ?_)
    clear hK K
    refine norm_ (a' := ?_) ?_ ?_
    rotate_left
    ·show Act.put _ (some 70) _ = _
     simp only [Act.put, List.setIfInBounds_toArray, List.set_cons_zero, List.set_cons_succ, i64_w, i32_w]
     rfl
    refine one_ (i := 32) (N := some 75) #[true, true, true, true, true, true, true, true, true, true, true, true, true, true, true, true, true, true, true, true, true, true, true, true, true, true, true, true, true, true, true, true, true, false, false, false] rfl rfl (one_of HT_.out (by kernel_rfl)) (by decide) (fun K hK => ?_)
    refine goes_ Try.func18 (by kernel_rfl) rfl #[.agg #[.string t185, .int .i64 t186, .int .i64 t187, .int .i64 t188, .slice Ao28 t189.length co28, .slice Ao29 t192.length co29, .bool t195], .agg #[.string t196, .int .i64 t197, .int .i64 t198, .slice Ao31 t199.length co31, .slice Ao32 t202.length co32, .bool t205], .agg #[.int .i64 t212, .int .i64 0], .slice Ao71 y214.length co71] (by rfl) rfl rfl (by (try simp only [List.map_toArray, List.map_cons, List.map_nil]); first | done | rfl) ?_
    with_reducible refine (joineryref5_Why.calls k t185 t186 t187 t188 _ _ t189 _ _ t192 t195 t196 t197 t198 _ _ t199 _ _ t202 t205 t212 0 _ _ y214 t225 _ ?side1 ?side2 ?side3 ?side4 ?side5 ?side6 ?side7 ?side8 ?side9 ?side10 A20.out).mono ?_
    (case side1 => repeat (first | exact (Kd.R_reads' HO191.out).2.2 | (with_reducible refine Kd.C_alloc ?_ _) | (with_reducible refine Kd.C_drewN ?_ _) | (with_reducible refine Kd.C_drew ?_)))
    (case side2 => exact (Kd.R_reads' HO191.out).2.1)
    (case side3 => repeat (first | exact (Kd.R_reads' HO194.out).2.2 | (with_reducible refine Kd.C_alloc ?_ _) | (with_reducible refine Kd.C_drewN ?_ _) | (with_reducible refine Kd.C_drew ?_)))
    (case side4 => exact (Kd.R_reads' HO194.out).2.1)
    (case side5 => repeat (first | exact (Kd.R_reads' HO201.out).2.2 | (with_reducible refine Kd.C_alloc ?_ _) | (with_reducible refine Kd.C_drewN ?_ _) | (with_reducible refine Kd.C_drew ?_)))
    (case side6 => exact (Kd.R_reads' HO201.out).2.1)
    (case side7 => repeat (first | exact (Kd.R_reads' HO204.out).2.2 | (with_reducible refine Kd.C_alloc ?_ _) | (with_reducible refine Kd.C_drewN ?_ _) | (with_reducible refine Kd.C_drew ?_)))
    (case side8 => exact (Kd.R_reads' HO204.out).2.1)
    (case side9 => repeat (first | exact (Kd.R_reads' HO216.out).2.2 | (with_reducible refine Kd.C_alloc ?_ _) | (with_reducible refine Kd.C_drewN ?_ _) | (with_reducible refine Kd.C_drew ?_)))
    (case side10 => exact (Kd.R_reads' HO216.out).2.1)
    rintro e w78 ⟨rfl, hb⟩
    refine ⟨_, rfl, ?_⟩
    have n0_ := Aside0.mk (Kd.R_below (by (with_reducible repeat (first | apply Kd.R_alloc | apply Kd.R_drewN | apply Kd.R_drew)); exact HO191.out) hb)
    have n1_ := Aside0.mk (Kd.R_below (by (with_reducible repeat (first | apply Kd.R_alloc | apply Kd.R_drewN | apply Kd.R_drew)); exact HO194.out) hb)
    have n2_ := Aside0.mk (Kd.R_below (by (with_reducible repeat (first | apply Kd.R_alloc | apply Kd.R_drewN | apply Kd.R_drew)); exact HO201.out) hb)
    have n3_ := Aside0.mk (Kd.R_below (by (with_reducible repeat (first | apply Kd.R_alloc | apply Kd.R_drewN | apply Kd.R_drew)); exact HO204.out) hb)
    have n4_ := Aside0.mk (Kd.R_below (by (with_reducible repeat (first | apply Kd.R_alloc | apply Kd.R_drewN | apply Kd.R_drew)); exact HO216.out) hb)
    have n5_ := Aside0.mk (Kd.R_below (by (with_reducible repeat (first | apply Kd.R_alloc | apply Kd.R_drewN | apply Kd.R_drew)); exact HO219.out) hb)
    have n6_ := Aside0.mk (blk_below (g := gb206) (o := .cells #[.string t185, .int .i64 t186, .int .i64 t187, .int .i64 t188, .slice Ao28 t189.length co28, .slice Ao29 t192.length co29, .bool t195] 28 (0, 0)) (by (with_reducible repeat (first | refine blk_drewN ?_ _ | refine blk_drew ?_ | refine blk_alloc ?_ _)); exact BK206.out) hb)
    have n7_ := Aside0.mk (blk_below (g := gb207) (o := .cells #[.string t196, .int .i64 t197, .int .i64 t198, .slice Ao31 t199.length co31, .slice Ao32 t202.length co32, .bool t205] 31 (0, 0)) (by (with_reducible repeat (first | refine blk_drewN ?_ _ | refine blk_drew ?_ | refine blk_alloc ?_ _)); exact BK207.out) hb)
    have n8_ := Aside0.mk (blk_below (g := gb208) (o := .cells #[.string t210, .int .i64 4, .int .i64 t187, .int .i64 t188, .slice Ao28 t189.length co28, .slice Ao29 t192.length co29, .bool t195] 28 (0, 0)) (by (with_reducible repeat (first | refine blk_drewN ?_ _ | refine blk_drew ?_ | refine blk_alloc ?_ _)); exact BK208.out) hb)
    have n9_ := Aside0.mk (blk_below (g := gb209) (o := .cells #[.string t211, .int .i64 t197, .int .i64 t198, .slice Ao31 t199.length co31, .slice Ao32 t202.length co32, .bool t205] 31 (0, 0)) (by (with_reducible repeat (first | refine blk_drewN ?_ _ | refine blk_drew ?_ | refine blk_alloc ?_ _)); exact BK209.out) hb)
    have n10_ := Aside0.mk (blk_below (g := gb213) (o := .cells #[.int .i64 t212, .int .i64 0] 25 (0, 0)) (by (with_reducible repeat (first | refine blk_drewN ?_ _ | refine blk_drew ?_ | refine blk_alloc ?_ _)); exact BK213.out) hb)
    have n11_ := Aside0.mk (below_step (by repeat (first | (with_reducible first | exact HB.out | apply below_alloc | apply pw_below_drewN | apply below_drew1 | refine below_set ?_ GE206.out | refine below_set ?_ GE207.out | refine below_set ?_ GE208.out | refine below_set ?_ GE209.out | refine below_set ?_ GE213.out) | exact HB.out)) hb)
    clear HO191
    clear HO194
    clear HO201
    clear HO204
    clear HO216
    clear HO219
    clear BK206
    clear BK207
    clear BK208
    clear BK209
    clear BK213
    clear HB
    have HO191 := n0_
    have HO194 := n1_
    have HO201 := n2_
    have HO204 := n3_
    have HO216 := n4_
    have HO219 := n5_
    have BK206 := n6_
    have BK207 := n7_
    have BK208 := n8_
    have BK209 := n9_
    have BK213 := n10_
    have HB := n11_
    clear n0_ n1_ n2_ n3_ n4_ n5_ n6_ n7_ n8_ n9_ n10_ n11_
    (try clear hb)
    (try clear hb2)
    (try clear hk)
    (try clear hi)
    refine hK.out _ _ ⟨(blk_cell BK206.out 0).trans rfl, (blk_cell BK206.out 1).trans rfl, (blk_cell BK206.out 2).trans rfl, (blk_cell BK206.out 3).trans rfl, (blk_cell BK206.out 4).trans rfl, (blk_cell BK206.out 5).trans rfl, (blk_cell BK206.out 6).trans rfl, (blk_cell BK207.out 0).trans rfl, (blk_cell BK207.out 1).trans rfl, (blk_cell BK207.out 2).trans rfl, (blk_cell BK207.out 3).trans rfl, (blk_cell BK207.out 4).trans rfl, (blk_cell BK207.out 5).trans rfl, (blk_cell BK213.out 0).trans rfl, (blk_cell BK213.out 1).trans rfl, (blk_cell BK208.out 0).trans rfl, (blk_cell BK208.out 1).trans rfl, (blk_cell BK208.out 2).trans rfl, (blk_cell BK208.out 3).trans rfl, (blk_cell BK208.out 4).trans rfl, (blk_cell BK208.out 5).trans rfl, (blk_cell BK208.out 6).trans rfl, (blk_cell BK209.out 0).trans rfl, (blk_cell BK209.out 1).trans rfl, (blk_cell BK209.out 2).trans rfl, (blk_cell BK209.out 3).trans rfl, (blk_cell BK209.out 4).trans rfl, (blk_cell BK209.out 5).trans rfl⟩ (fun hHeld => ?_)
    clear hK K
    refine norm_ (a' := ?_) ?_ ?_
    rotate_left
    ·show Act.put _ (some 75) _ = _
     simp only [Act.put, List.setIfInBounds_toArray, List.set_cons_zero, List.set_cons_succ, i64_w, i32_w]
     rfl
    refine pure_ (i := 33) (N := some 76) (v := ?_) (a' := ?_) #[true, true, true, true, true, true, true, true, true, true, true, true, true, true, true, true, true, true, true, true, true, true, true, true, true, true, true, true, true, true, true, true, true, true, false, false] rfl rfl (any_of HT_.out (by kernel_rfl)) (fun _ _ _ h => h) (Or.inl ⟨by rfl, ?_⟩) ?_ ?_
    rotate_left
    ·intro w'
     go_simp
     with_reducible rfl
    rotate_left
    ·simp only [Act.put, List.setIfInBounds_toArray, List.set_cons_zero, List.set_cons_succ, i64_w, i32_w]
     rfl
    refine pure_ (i := 34) (N := some 77) (v := ?_) (a' := ?_) #[true, true, true, true, true, true, true, true, true, true, true, true, true, true, true, true, true, true, true, true, true, true, true, true, true, true, true, true, true, true, true, true, true, true, true, false] rfl rfl (any_of HT_.out (by kernel_rfl)) (fun _ _ _ h => h) (Or.inl ⟨by rfl, ?_⟩) ?_ ?_
    rotate_left
    ·intro w'
     go_simp
     with_reducible rfl
    rotate_left
    ·simp only [Act.put, List.setIfInBounds_toArray, List.set_cons_zero, List.set_cons_succ, i64_w, i32_w]
     rfl
    refine pure_ (i := 35) (N := some 10) (v := ?_) (a' := ?_) #[true, true, true, true, true, true, true, true, true, true, true, true, true, true, true, true, true, true, true, true, true, true, true, true, true, true, true, true, true, true, true, true, true, true, true, true] rfl rfl (any_of HT_.out (by kernel_rfl)) (fun _ _ _ h => h) (Or.inl ⟨by rfl, ?_⟩) ?_ ?_
    rotate_left
    ·intro w'
     go_simp
     with_reducible rfl
    rotate_left
    ·simp only [Act.put, List.setIfInBounds_toArray, List.set_cons_zero, List.set_cons_succ, i64_w, i32_w]
     rfl
    refine done_ (done_of HT_.out (by kernel_rfl)) ?_
    try go_wp2
    go_ret
    exact ⟨by first | rfl | (simp [errW_none, errW_some] <;> rfl) | (simp [*, errW_none, errW_some] <;> rfl), by repeat (first | (with_reducible first | exact HB.out | apply below_alloc | apply pw_below_drewN | apply below_drew1 | refine below_set ?_ GE206.out | refine below_set ?_ GE207.out | refine below_set ?_ GE208.out | refine below_set ?_ GE209.out | refine below_set ?_ GE213.out) | exact HB.out)⟩
   ·rw [if_neg c18] at H
    have c18b0 : (t222 == t223) = false := beq_eq_false_iff_ne.mpr c18
    have c18b1 : (t222 != t223) = true := bne_iff_ne.mpr c18
    obtain rfl := Option.some.inj H
    exact absurd hT_.out (by simp)
  ·rw [if_neg c15] at H
   have c15b0 : (t220 == t221) = false := beq_eq_false_iff_ne.mpr c15
   have c15b1 : (t220 != t221) = true := bne_iff_ne.mpr c15
   obtain rfl := Option.some.inj H
   exact absurd hT_.out (by simp)
 ·replace c7 := Bool.eq_false_iff.mpr c7
  subst c7
  have H1 : (some false) = some r := by rw [if_neg (show ¬ (false = true) by decide)] at H; exact H
  clear H
  have H := H1
  clear H1
  obtain rfl := Option.some.inj H
  exact absurd hT_.out (by simp)

/-- THE ONE PURE STATEMENT of joinerylaw5_FitNames: yours. -/
def joinerylaw5_FitNames.Pure : Prop := ∀ (a0 : Int) (a1 : Int) (a2 : Int) (a3 : Int) (a4 : Int), (Lit.int .i64 a0).wf = true → (Lit.int .i64 a1).wf = true → (Lit.int .i64 a2).wf = true → (Lit.int .i64 a3).wf = true → (Lit.int .i64 a4).wf = true → ∃ k, joinerylaw5_FitNames.f k a0 a1 a2 a3 a4 = some true
theorem joinerylaw5_FitNames.walk (P : joinerylaw5_FitNames.Pure) (a0 : Int) (a1 : Int) (a2 : Int) (a3 : Int) (a4 : Int) (w : World) (w0 : (Lit.int .i64 a0).wf = true) (w1 : (Lit.int .i64 a1).wf = true) (w2 : (Lit.int .i64 a2).wf = true) (w3 : (Lit.int .i64 a3).wf = true) (w4 : (Lit.int .i64 a4).wf = true) :
  Calls Try.prog 10 #[.int .i64 a0, .int .i64 a1, .int .i64 a2, .int .i64 a3, .int .i64 a4] w fun e w' => e = .returned (.bool true) ∧ Below w.heap.size w w' := by
 obtain ⟨k, h⟩ := P a0 a1 a2 a3 a4 w0 w1 w2 w3 w4
 refine (joinerylaw5_FitNames.calls k a0 a1 a2 a3 a4 true w ⟨rfl⟩ h).mono ?_
 rintro e w' ⟨rfl, hd⟩
 exact ⟨rfl, hd⟩

end Go.Proofs.Ytciedbaeenhgkaa.N
