-- Printed by wip/tools/gprint.py (the kit's print, hand-proved contracts laid in): functions of the program as Lean functions, each with the proof that the machine's call comes to its answer.
import Derived.Test.YtocndmgimcmfaaaFx0
namespace Go.Proofs.Ytocndmgimcmfaaa.F
open Go.RowKit Go.Proofs.Ytocndmgimcmfaaa.Base Go.Proofs.YtocndmgimcmfaaaW.PrintWords Go.Proofs.YtocndmgimcmfaaaW.PrintLast Go.Proofs.YtocndmgimcmfaaaW.PrintMore
attribute [local go_sem] max2_int min2_int max_two min_two max_three min_three max_four min_four   -- for this text's walks alone
set_option linter.unusedVariables false
set_option linter.unusedSimpArgs false

-- function 18 (mark_Runes): its contract is proved by hand

/-! ### mark_letter: function 26 -/
def mark_letter.f (a0 : Int) : Option (Bool) := if a0 ≥ 97 then (if a0 ≤ 122 then (some true) else (if a0 ≥ 945 then (some (decide (a0 ≤ 969))) else (some false))) else (if a0 ≥ 945 then (some (decide (a0 ≤ 969))) else (some false))
set_option maxHeartbeats 8000000 in
set_option maxRecDepth 100000 in
theorem mark_letter.calls (a0 : Int) (r : Bool) (w : World) (h : mark_letter.f a0 = some r) :
    Calls Try.prog 26 #[.int .i32 a0] w fun e w' => e = .returned (.bool r) ∧ Drawn0 w w' := by
  have H : (if a0 ≥ 97 then (if a0 ≤ 122 then (some true) else (if a0 ≥ 945 then (some (decide (a0 ≤ 969))) else (some false))) else (if a0 ≥ 945 then (some (decide (a0 ≤ 969))) else (some false))) = some r := h
  clear h
  by_cases c2 : a0 ≥ 97
  · rw [if_pos c2] at H
    have c2b0 : decide (97 ≤ a0) = true := decide_eq_true c2
    clear c2
    by_cases c3 : a0 ≤ 122
    · rw [if_pos c3] at H
      have c3b0 : decide (a0 ≤ 122) = true := decide_eq_true c3
      clear c3
      obtain rfl := Option.some.inj H
      go_enter Try.func26, Try.ntmps26
      go_wp2
      go_ret
      exact ⟨by first | rfl | (simp; done) | (simp [*]; done), by repeat (first | exact Drawn0.refl _ | apply Drawn0.step)⟩
    · rw [if_neg c3] at H
      have c3b0 : decide (a0 ≤ 122) = false := decide_eq_false c3
      clear c3
      by_cases c4 : a0 ≥ 945
      · rw [if_pos c4] at H
        have c4b0 : decide (945 ≤ a0) = true := decide_eq_true c4
        clear c4
        obtain rfl := Option.some.inj H
        go_enter Try.func26, Try.ntmps26
        go_wp2
        go_ret
        exact ⟨by first | rfl | (simp; done) | (simp [*]; done), by repeat (first | exact Drawn0.refl _ | apply Drawn0.step)⟩
      · rw [if_neg c4] at H
        have c4b0 : decide (945 ≤ a0) = false := decide_eq_false c4
        clear c4
        obtain rfl := Option.some.inj H
        go_enter Try.func26, Try.ntmps26
        go_wp2
        go_ret
        exact ⟨by first | rfl | (simp; done) | (simp [*]; done), by repeat (first | exact Drawn0.refl _ | apply Drawn0.step)⟩
  · rw [if_neg c2] at H
    have c2b0 : decide (97 ≤ a0) = false := decide_eq_false c2
    clear c2
    by_cases c5 : a0 ≥ 945
    · rw [if_pos c5] at H
      have c5b0 : decide (945 ≤ a0) = true := decide_eq_true c5
      clear c5
      obtain rfl := Option.some.inj H
      go_enter Try.func26, Try.ntmps26
      go_wp2
      go_ret
      exact ⟨by first | rfl | (simp; done) | (simp [*]; done), by repeat (first | exact Drawn0.refl _ | apply Drawn0.step)⟩
    · rw [if_neg c5] at H
      have c5b0 : decide (945 ≤ a0) = false := decide_eq_false c5
      clear c5
      obtain rfl := Option.some.inj H
      go_enter Try.func26, Try.ntmps26
      go_wp2
      go_ret
      exact ⟨by first | rfl | (simp; done) | (simp [*]; done), by repeat (first | exact Drawn0.refl _ | apply Drawn0.step)⟩

/-! ### mark_digit: function 27 -/
def mark_digit.f (a0 : Int) : Option (Bool) := if a0 ≥ 48 then (some (decide (a0 ≤ 57))) else (some false)
set_option maxHeartbeats 8000000 in
set_option maxRecDepth 100000 in
theorem mark_digit.calls (a0 : Int) (r : Bool) (w : World) (h : mark_digit.f a0 = some r) :
    Calls Try.prog 27 #[.int .i32 a0] w fun e w' => e = .returned (.bool r) ∧ Drawn0 w w' := by
  have H : (if a0 ≥ 48 then (some (decide (a0 ≤ 57))) else (some false)) = some r := h
  clear h
  by_cases c2 : a0 ≥ 48
  · rw [if_pos c2] at H
    have c2b0 : decide (48 ≤ a0) = true := decide_eq_true c2
    clear c2
    obtain rfl := Option.some.inj H
    go_enter Try.func27, Try.ntmps27
    go_wp2
    go_ret
    exact ⟨by first | rfl | (simp; done) | (simp [*]; done), by repeat (first | exact Drawn0.refl _ | apply Drawn0.step)⟩
  · rw [if_neg c2] at H
    have c2b0 : decide (48 ≤ a0) = false := decide_eq_false c2
    clear c2
    obtain rfl := Option.some.inj H
    go_enter Try.func27, Try.ntmps27
    go_wp2
    go_ret
    exact ⟨by first | rfl | (simp; done) | (simp [*]; done), by repeat (first | exact Drawn0.refl _ | apply Drawn0.step)⟩

-- function 16 (mark_Name): its contract is proved by hand

/-! ### joinerylaw2_known: function 13 -/
def joinerylaw2_known.f  : Option (Bool) := (mark_Name.f (⟨#[206, 177, 206, 178]⟩ : ByteArray)).bind fun t101 => (if t101 = true then ((mark_Name.f (⟨#[97, 49]⟩ : ByteArray)).bind fun t102 => (if t102 = true then ((mark_Name.f (⟨#[]⟩ : ByteArray)).bind fun t103 => (if t103 = true then (some false) else ((mark_Runes.f (⟨#[206, 177, 97]⟩ : ByteArray)).bind fun t104 => (some (t104 == 2))))) else (some false))) else (some false))
set_option maxHeartbeats 8000000 in
set_option maxRecDepth 100000 in
theorem joinerylaw2_known.calls  (r : Bool) (w : World) (h : joinerylaw2_known.f  = some r) :
    Calls Try.prog 13 #[] w fun e w' => e = .returned (.bool r) ∧ Below w.heap.size w w' := by
  have HB := Aside0.mk (Below.refl w.heap.size w)
  have H : ((mark_Name.f (⟨#[206, 177, 206, 178]⟩ : ByteArray)).bind fun t101 => (if t101 = true then ((mark_Name.f (⟨#[97, 49]⟩ : ByteArray)).bind fun t102 => (if t102 = true then ((mark_Name.f (⟨#[]⟩ : ByteArray)).bind fun t103 => (if t103 = true then (some false) else ((mark_Runes.f (⟨#[206, 177, 97]⟩ : ByteArray)).bind fun t104 => (some (t104 == 2))))) else (some false))) else (some false))) = some r := h
  clear h
  replace H := Option.bind_eq_some_iff.mp H
  obtain ⟨t101, A10, H⟩ := H
  replace H : (if t101 = true then ((mark_Name.f (⟨#[97, 49]⟩ : ByteArray)).bind fun t102 => (if t102 = true then ((mark_Name.f (⟨#[]⟩ : ByteArray)).bind fun t103 => (if t103 = true then (some false) else ((mark_Runes.f (⟨#[206, 177, 97]⟩ : ByteArray)).bind fun t104 => (some (t104 == 2))))) else (some false))) else (some false)) = some r := H
  have A1 := Aside0.mk A10
  clear A10
  by_cases c2 : t101 = true
  · subst c2
    have H1 : ((mark_Name.f (⟨#[97, 49]⟩ : ByteArray)).bind fun t102 => (if t102 = true then ((mark_Name.f (⟨#[]⟩ : ByteArray)).bind fun t103 => (if t103 = true then (some false) else ((mark_Runes.f (⟨#[206, 177, 97]⟩ : ByteArray)).bind fun t104 => (some (t104 == 2))))) else (some false))) = some r := by rw [if_pos rfl] at H; exact H
    clear H
    have H := H1
    clear H1
    replace H := Option.bind_eq_some_iff.mp H
    obtain ⟨t102, A30, H⟩ := H
    replace H : (if t102 = true then ((mark_Name.f (⟨#[]⟩ : ByteArray)).bind fun t103 => (if t103 = true then (some false) else ((mark_Runes.f (⟨#[206, 177, 97]⟩ : ByteArray)).bind fun t104 => (some (t104 == 2))))) else (some false)) = some r := H
    have A3 := Aside0.mk A30
    clear A30
    by_cases c4 : t102 = true
    · subst c4
      have H1 : ((mark_Name.f (⟨#[]⟩ : ByteArray)).bind fun t103 => (if t103 = true then (some false) else ((mark_Runes.f (⟨#[206, 177, 97]⟩ : ByteArray)).bind fun t104 => (some (t104 == 2))))) = some r := by rw [if_pos rfl] at H; exact H
      clear H
      have H := H1
      clear H1
      replace H := Option.bind_eq_some_iff.mp H
      obtain ⟨t103, A50, H⟩ := H
      replace H : (if t103 = true then (some false) else ((mark_Runes.f (⟨#[206, 177, 97]⟩ : ByteArray)).bind fun t104 => (some (t104 == 2)))) = some r := H
      have A5 := Aside0.mk A50
      clear A50
      by_cases c6 : t103 = true
      · subst c6
        have H1 : (some false) = some r := by rw [if_pos rfl] at H; exact H
        clear H
        have H := H1
        clear H1
        obtain rfl := Option.some.inj H
        go_enter Try.func13, Try.ntmps13
        go_wp2_with (first | ((with_reducible refine gate_callee (f := 16) rfl ?_); refine goesL_ (some 1) rfl rfl Try.func16 (by kernel_rfl) rfl #[.string (⟨#[206, 177, 206, 178]⟩ : ByteArray)] rfl (by (try simp only [List.map_toArray, List.map_cons, List.map_nil]); first | done | rfl | (simp only [List.length_drop, List.length_take]; rfl)) ?_; (with_reducible refine (mark_Name.calls (⟨#[206, 177, 206, 178]⟩ : ByteArray) true _ A1.out).mono ?_); rintro e w7 ⟨rfl, hb⟩; refine ⟨_, rfl, ?_⟩; have n0_ := Aside0.mk (below_step (by repeat (first | (with_reducible first | exact HB.out | apply below_alloc | apply pw_below_drewN | apply below_drew1) | exact HB.out)) hb); clear HB; have HB := n0_; clear n0_; (try clear hb); (try clear hb2); (try clear hk); (try clear hi)) | (go_at_call 16; (with_reducible refine (mark_Name.calls (⟨#[97, 49]⟩ : ByteArray) true _ A3.out).mono ?_); rintro e w8 ⟨rfl, hb⟩; have n0_ := Aside0.mk (below_step (by repeat (first | (with_reducible first | exact HB.out | apply below_alloc | apply pw_below_drewN | apply below_drew1) | exact HB.out)) hb); clear HB; have HB := n0_; clear n0_; (try clear hb); (try clear hb2); (try clear hk); (try clear hi)) | (go_at_call 16; (with_reducible refine (mark_Name.calls (⟨#[]⟩ : ByteArray) true _ A5.out).mono ?_); rintro e w9 ⟨rfl, hb⟩; have n0_ := Aside0.mk (below_step (by repeat (first | (with_reducible first | exact HB.out | apply below_alloc | apply pw_below_drewN | apply below_drew1) | exact HB.out)) hb); clear HB; have HB := n0_; clear n0_; (try clear hb); (try clear hb2); (try clear hk); (try clear hi)))
        go_ret
        exact ⟨by first | rfl | (simp [errW_none, errW_some] <;> rfl) | (simp [*, errW_none, errW_some] <;> rfl), by repeat (first | (with_reducible first | exact HB.out | apply below_alloc | apply pw_below_drewN | apply below_drew1) | exact HB.out)⟩
      · replace c6 := Bool.eq_false_iff.mpr c6
        subst c6
        have H1 : ((mark_Runes.f (⟨#[206, 177, 97]⟩ : ByteArray)).bind fun t104 => (some (t104 == 2))) = some r := by rw [if_neg (show ¬ (false = true) by decide)] at H; exact H
        clear H
        have H := H1
        clear H1
        replace H := Option.bind_eq_some_iff.mp H
        obtain ⟨t104, A100, H⟩ := H
        replace H : (some (t104 == 2)) = some r := H
        have A10 := Aside0.mk A100
        clear A100
        obtain rfl := Option.some.inj H
        go_enter Try.func13, Try.ntmps13
        go_wp2_with (first | ((with_reducible refine gate_callee (f := 16) rfl ?_); refine goesL_ (some 1) rfl rfl Try.func16 (by kernel_rfl) rfl #[.string (⟨#[206, 177, 206, 178]⟩ : ByteArray)] rfl (by (try simp only [List.map_toArray, List.map_cons, List.map_nil]); first | done | rfl | (simp only [List.length_drop, List.length_take]; rfl)) ?_; (with_reducible refine (mark_Name.calls (⟨#[206, 177, 206, 178]⟩ : ByteArray) true _ A1.out).mono ?_); rintro e w11 ⟨rfl, hb⟩; refine ⟨_, rfl, ?_⟩; have n0_ := Aside0.mk (below_step (by repeat (first | (with_reducible first | exact HB.out | apply below_alloc | apply pw_below_drewN | apply below_drew1) | exact HB.out)) hb); clear HB; have HB := n0_; clear n0_; (try clear hb); (try clear hb2); (try clear hk); (try clear hi)) | (go_at_call 16; (with_reducible refine (mark_Name.calls (⟨#[97, 49]⟩ : ByteArray) true _ A3.out).mono ?_); rintro e w12 ⟨rfl, hb⟩; have n0_ := Aside0.mk (below_step (by repeat (first | (with_reducible first | exact HB.out | apply below_alloc | apply pw_below_drewN | apply below_drew1) | exact HB.out)) hb); clear HB; have HB := n0_; clear n0_; (try clear hb); (try clear hb2); (try clear hk); (try clear hi)) | (go_at_call 16; (with_reducible refine (mark_Name.calls (⟨#[]⟩ : ByteArray) false _ A5.out).mono ?_); rintro e w13 ⟨rfl, hb⟩; have n0_ := Aside0.mk (below_step (by repeat (first | (with_reducible first | exact HB.out | apply below_alloc | apply pw_below_drewN | apply below_drew1) | exact HB.out)) hb); clear HB; have HB := n0_; clear n0_; (try clear hb); (try clear hb2); (try clear hk); (try clear hi)) | (go_at_call 18; (with_reducible refine (mark_Runes.calls (⟨#[206, 177, 97]⟩ : ByteArray) t104 _ A10.out).mono ?_); rintro e w14 ⟨rfl, hb⟩; have n0_ := Aside0.mk (below_step (by repeat (first | (with_reducible first | exact HB.out | apply below_alloc | apply pw_below_drewN | apply below_drew1) | exact HB.out)) hb); clear HB; have HB := n0_; clear n0_; (try clear hb); (try clear hb2); (try clear hk); (try clear hi)))
        go_ret
        exact ⟨by first | rfl | (simp [errW_none, errW_some] <;> rfl) | (simp [*, errW_none, errW_some] <;> rfl), by repeat (first | (with_reducible first | exact HB.out | apply below_alloc | apply pw_below_drewN | apply below_drew1) | exact HB.out)⟩
    · replace c4 := Bool.eq_false_iff.mpr c4
      subst c4
      have H1 : (some false) = some r := by rw [if_neg (show ¬ (false = true) by decide)] at H; exact H
      clear H
      have H := H1
      clear H1
      obtain rfl := Option.some.inj H
      go_enter Try.func13, Try.ntmps13
      go_wp2_with (first | ((with_reducible refine gate_callee (f := 16) rfl ?_); refine goesL_ (some 1) rfl rfl Try.func16 (by kernel_rfl) rfl #[.string (⟨#[206, 177, 206, 178]⟩ : ByteArray)] rfl (by (try simp only [List.map_toArray, List.map_cons, List.map_nil]); first | done | rfl | (simp only [List.length_drop, List.length_take]; rfl)) ?_; (with_reducible refine (mark_Name.calls (⟨#[206, 177, 206, 178]⟩ : ByteArray) true _ A1.out).mono ?_); rintro e w15 ⟨rfl, hb⟩; refine ⟨_, rfl, ?_⟩; have n0_ := Aside0.mk (below_step (by repeat (first | (with_reducible first | exact HB.out | apply below_alloc | apply pw_below_drewN | apply below_drew1) | exact HB.out)) hb); clear HB; have HB := n0_; clear n0_; (try clear hb); (try clear hb2); (try clear hk); (try clear hi)) | (go_at_call 16; (with_reducible refine (mark_Name.calls (⟨#[97, 49]⟩ : ByteArray) false _ A3.out).mono ?_); rintro e w16 ⟨rfl, hb⟩; have n0_ := Aside0.mk (below_step (by repeat (first | (with_reducible first | exact HB.out | apply below_alloc | apply pw_below_drewN | apply below_drew1) | exact HB.out)) hb); clear HB; have HB := n0_; clear n0_; (try clear hb); (try clear hb2); (try clear hk); (try clear hi)))
      go_ret
      exact ⟨by first | rfl | (simp [errW_none, errW_some] <;> rfl) | (simp [*, errW_none, errW_some] <;> rfl), by repeat (first | (with_reducible first | exact HB.out | apply below_alloc | apply pw_below_drewN | apply below_drew1) | exact HB.out)⟩
  · replace c2 := Bool.eq_false_iff.mpr c2
    subst c2
    have H1 : (some false) = some r := by rw [if_neg (show ¬ (false = true) by decide)] at H; exact H
    clear H
    have H := H1
    clear H1
    obtain rfl := Option.some.inj H
    go_enter Try.func13, Try.ntmps13
    go_wp2_with (first | ((with_reducible refine gate_callee (f := 16) rfl ?_); refine goesL_ (some 1) rfl rfl Try.func16 (by kernel_rfl) rfl #[.string (⟨#[206, 177, 206, 178]⟩ : ByteArray)] rfl (by (try simp only [List.map_toArray, List.map_cons, List.map_nil]); first | done | rfl | (simp only [List.length_drop, List.length_take]; rfl)) ?_; (with_reducible refine (mark_Name.calls (⟨#[206, 177, 206, 178]⟩ : ByteArray) false _ A1.out).mono ?_); rintro e w17 ⟨rfl, hb⟩; refine ⟨_, rfl, ?_⟩; have n0_ := Aside0.mk (below_step (by repeat (first | (with_reducible first | exact HB.out | apply below_alloc | apply pw_below_drewN | apply below_drew1) | exact HB.out)) hb); clear HB; have HB := n0_; clear n0_; (try clear hb); (try clear hb2); (try clear hk); (try clear hi)))
    go_ret
    exact ⟨by first | rfl | (simp [errW_none, errW_some] <;> rfl) | (simp [*, errW_none, errW_some] <;> rfl), by repeat (first | (with_reducible first | exact HB.out | apply below_alloc | apply pw_below_drewN | apply below_drew1) | exact HB.out)⟩

/-! ### joinerylaw2_within: function 15 -/
def joinerylaw2_within.f (a0 : Int) (a1 : Int) : Option (Int) := if a1 = 0 then (none) else (if (Int.tmod a0 a1) < 0 then (some (wrap64 ((Int.tmod a0 a1) + a1))) else (some (Int.tmod a0 a1)))
set_option maxHeartbeats 8000000 in
set_option maxRecDepth 100000 in
theorem joinerylaw2_within.calls (a0 : Int) (a1 : Int) (r : Int) (w : World) (h : joinerylaw2_within.f a0 a1 = some r) :
    Calls Try.prog 15 #[.int .i64 a0, .int .i64 a1] w fun e w' => e = .returned (.int .i64 r) ∧ Drawn0 w w' := by
  have H : (if a1 = 0 then (none) else (if (Int.tmod a0 a1) < 0 then (some (wrap64 ((Int.tmod a0 a1) + a1))) else (some (Int.tmod a0 a1)))) = some r := h
  clear h
  by_cases c3 : a1 = 0
  · rw [if_pos c3] at H
    exact absurd H (by simp)
  · rw [if_neg c3] at H
    have c3b0 : (a1 == 0) = false := beq_eq_false_iff_ne.mpr c3
    have c3b1 : (a1 != 0) = true := bne_iff_ne.mpr c3
    by_cases c4 : (Int.tmod a0 a1) < 0
    · rw [if_pos c4] at H
      have c4b0 : decide ((Int.tmod a0 a1) < 0) = true := decide_eq_true c4
      clear c4
      obtain rfl := Option.some.inj H
      go_enter Try.func15, Try.ntmps15
      go_wp2
      go_ret
      exact ⟨by first | rfl | (simp; done) | (simp [*]; done), by repeat (first | exact Drawn0.refl _ | apply Drawn0.step)⟩
    · rw [if_neg c4] at H
      have c4b0 : decide ((Int.tmod a0 a1) < 0) = false := decide_eq_false c4
      clear c4
      obtain rfl := Option.some.inj H
      go_enter Try.func15, Try.ntmps15
      go_wp2
      go_ret
      exact ⟨by first | rfl | (simp; done) | (simp [*]; done), by repeat (first | exact Drawn0.refl _ | apply Drawn0.step)⟩

-- NOT PRINTED: function 32 (slices_IndexFunc_string_string)

-- NOT PRINTED: function 28 (slices_ContainsFunc_string_string)

-- function 22 (mark_All): its contract is proved by hand

-- function 23 (mark_Set): its contract is proved by hand

/-! ### joinerylaw2_MarkFive: function 12 -/
def joinerylaw2_MarkFive.f (a0 : Int) (a1 : Int) : Option (Bool) := (joinerylaw2_known.f).bind fun t105 => (if t105 = true then ((some (([(⟨#[97]⟩ : ByteArray), (⟨#[98]⟩ : ByteArray), (⟨#[99]⟩ : ByteArray), (⟨#[100]⟩ : ByteArray), (⟨#[101]⟩ : ByteArray), (⟨#[102]⟩ : ByteArray), (⟨#[206, 177]⟩ : ByteArray), (⟨#[206, 178]⟩ : ByteArray)] : List ByteArray) : List ByteArray)).bind fun y106 => ((joinerylaw2_within.f a0 8).bind fun t109 => ((joinerylaw2_within.f a1 (wrap64 ((wrap64 ((y106.length : Int) - t109)) + 1))).bind fun t110 => (if 0 ≤ t110 then (if t110 ≤ (wrap64 (t110 + t109)) then (if (wrap64 (t110 + t109)) ≤ (y106.length : Int) then ((mark_Set.f ((y106.take ((wrap64 (t110 + t109)) : Int).toNat).drop (t110 : Int).toNat)).bind fun t115 => (if (t115 == (decide (t109 ≤ 4))) = true then ((mark_All.f ((y106.take ((wrap64 (t110 + t109)) : Int).toNat).drop (t110 : Int).toNat) y106).bind fun t120 => (if t120 = true then (if t110 ≤ (wrap64 (t110 + (mn t109 4))) then (if (wrap64 (t110 + (mn t109 4))) ≤ (y106.length : Int) then ((mark_Set.f ((y106.take ((wrap64 (t110 + (mn t109 4))) : Int).toNat).drop (t110 : Int).toNat)).bind fun t125 => (some t125)) else (none)) else (none)) else (some false))) else (some false))) else (none)) else (none)) else (none))))) else (some false))
set_option maxHeartbeats 8000000 in
set_option maxRecDepth 100000 in
theorem joinerylaw2_MarkFive.calls (a0 : Int) (a1 : Int) (r : Bool) (w : World) (hT_ : Aside0 (r = true)) (h : joinerylaw2_MarkFive.f a0 a1 = some r) :
    Calls Try.prog 12 #[.int .i64 a0, .int .i64 a1] w fun e w' => e = .returned (.bool r) ∧ Below w.heap.size w w' := by
  have HB := Aside0.mk (Below.refl w.heap.size w)
  have H : ((joinerylaw2_known.f).bind fun t105 => (if t105 = true then ((some (([(⟨#[97]⟩ : ByteArray), (⟨#[98]⟩ : ByteArray), (⟨#[99]⟩ : ByteArray), (⟨#[100]⟩ : ByteArray), (⟨#[101]⟩ : ByteArray), (⟨#[102]⟩ : ByteArray), (⟨#[206, 177]⟩ : ByteArray), (⟨#[206, 178]⟩ : ByteArray)] : List ByteArray) : List ByteArray)).bind fun y106 => ((joinerylaw2_within.f a0 8).bind fun t109 => ((joinerylaw2_within.f a1 (wrap64 ((wrap64 ((y106.length : Int) - t109)) + 1))).bind fun t110 => (if 0 ≤ t110 then (if t110 ≤ (wrap64 (t110 + t109)) then (if (wrap64 (t110 + t109)) ≤ (y106.length : Int) then ((mark_Set.f ((y106.take ((wrap64 (t110 + t109)) : Int).toNat).drop (t110 : Int).toNat)).bind fun t115 => (if (t115 == (decide (t109 ≤ 4))) = true then ((mark_All.f ((y106.take ((wrap64 (t110 + t109)) : Int).toNat).drop (t110 : Int).toNat) y106).bind fun t120 => (if t120 = true then (if t110 ≤ (wrap64 (t110 + (mn t109 4))) then (if (wrap64 (t110 + (mn t109 4))) ≤ (y106.length : Int) then ((mark_Set.f ((y106.take ((wrap64 (t110 + (mn t109 4))) : Int).toNat).drop (t110 : Int).toNat)).bind fun t125 => (some t125)) else (none)) else (none)) else (some false))) else (some false))) else (none)) else (none)) else (none))))) else (some false))) = some r := h
  clear h
  replace H := Option.bind_eq_some_iff.mp H
  obtain ⟨t105, A30, H⟩ := H
  replace H : (if t105 = true then ((some (([(⟨#[97]⟩ : ByteArray), (⟨#[98]⟩ : ByteArray), (⟨#[99]⟩ : ByteArray), (⟨#[100]⟩ : ByteArray), (⟨#[101]⟩ : ByteArray), (⟨#[102]⟩ : ByteArray), (⟨#[206, 177]⟩ : ByteArray), (⟨#[206, 178]⟩ : ByteArray)] : List ByteArray) : List ByteArray)).bind fun y106 => ((joinerylaw2_within.f a0 8).bind fun t109 => ((joinerylaw2_within.f a1 (wrap64 ((wrap64 ((y106.length : Int) - t109)) + 1))).bind fun t110 => (if 0 ≤ t110 then (if t110 ≤ (wrap64 (t110 + t109)) then (if (wrap64 (t110 + t109)) ≤ (y106.length : Int) then ((mark_Set.f ((y106.take ((wrap64 (t110 + t109)) : Int).toNat).drop (t110 : Int).toNat)).bind fun t115 => (if (t115 == (decide (t109 ≤ 4))) = true then ((mark_All.f ((y106.take ((wrap64 (t110 + t109)) : Int).toNat).drop (t110 : Int).toNat) y106).bind fun t120 => (if t120 = true then (if t110 ≤ (wrap64 (t110 + (mn t109 4))) then (if (wrap64 (t110 + (mn t109 4))) ≤ (y106.length : Int) then ((mark_Set.f ((y106.take ((wrap64 (t110 + (mn t109 4))) : Int).toNat).drop (t110 : Int).toNat)).bind fun t125 => (some t125)) else (none)) else (none)) else (some false))) else (some false))) else (none)) else (none)) else (none))))) else (some false)) = some r := H
  have A3 := Aside0.mk A30
  clear A30
  by_cases c4 : t105 = true
  · subst c4
    have H1 : ((some (([(⟨#[97]⟩ : ByteArray), (⟨#[98]⟩ : ByteArray), (⟨#[99]⟩ : ByteArray), (⟨#[100]⟩ : ByteArray), (⟨#[101]⟩ : ByteArray), (⟨#[102]⟩ : ByteArray), (⟨#[206, 177]⟩ : ByteArray), (⟨#[206, 178]⟩ : ByteArray)] : List ByteArray) : List ByteArray)).bind fun y106 => ((joinerylaw2_within.f a0 8).bind fun t109 => ((joinerylaw2_within.f a1 (wrap64 ((wrap64 ((y106.length : Int) - t109)) + 1))).bind fun t110 => (if 0 ≤ t110 then (if t110 ≤ (wrap64 (t110 + t109)) then (if (wrap64 (t110 + t109)) ≤ (y106.length : Int) then ((mark_Set.f ((y106.take ((wrap64 (t110 + t109)) : Int).toNat).drop (t110 : Int).toNat)).bind fun t115 => (if (t115 == (decide (t109 ≤ 4))) = true then ((mark_All.f ((y106.take ((wrap64 (t110 + t109)) : Int).toNat).drop (t110 : Int).toNat) y106).bind fun t120 => (if t120 = true then (if t110 ≤ (wrap64 (t110 + (mn t109 4))) then (if (wrap64 (t110 + (mn t109 4))) ≤ (y106.length : Int) then ((mark_Set.f ((y106.take ((wrap64 (t110 + (mn t109 4))) : Int).toNat).drop (t110 : Int).toNat)).bind fun t125 => (some t125)) else (none)) else (none)) else (some false))) else (some false))) else (none)) else (none)) else (none))))) = some r := by rw [if_pos rfl] at H; exact H
    clear H
    have H := H1
    clear H1
    obtain ⟨y106, hy106⟩ : ∃ y_ : List ByteArray, y_ = (([(⟨#[97]⟩ : ByteArray), (⟨#[98]⟩ : ByteArray), (⟨#[99]⟩ : ByteArray), (⟨#[100]⟩ : ByteArray), (⟨#[101]⟩ : ByteArray), (⟨#[102]⟩ : ByteArray), (⟨#[206, 177]⟩ : ByteArray), (⟨#[206, 178]⟩ : ByteArray)] : List ByteArray)) := ⟨_, rfl⟩
    replace H : ((joinerylaw2_within.f a0 8).bind fun t109 => ((joinerylaw2_within.f a1 (wrap64 ((wrap64 ((y106.length : Int) - t109)) + 1))).bind fun t110 => (if 0 ≤ t110 then (if t110 ≤ (wrap64 (t110 + t109)) then (if (wrap64 (t110 + t109)) ≤ (y106.length : Int) then ((mark_Set.f ((y106.take ((wrap64 (t110 + t109)) : Int).toNat).drop (t110 : Int).toNat)).bind fun t115 => (if (t115 == (decide (t109 ≤ 4))) = true then ((mark_All.f ((y106.take ((wrap64 (t110 + t109)) : Int).toNat).drop (t110 : Int).toNat) y106).bind fun t120 => (if t120 = true then (if t110 ≤ (wrap64 (t110 + (mn t109 4))) then (if (wrap64 (t110 + (mn t109 4))) ≤ (y106.length : Int) then ((mark_Set.f ((y106.take ((wrap64 (t110 + (mn t109 4))) : Int).toNat).drop (t110 : Int).toNat)).bind fun t125 => (some t125)) else (none)) else (none)) else (some false))) else (some false))) else (none)) else (none)) else (none)))) = some r := by first | (rw [hy106]; with_reducible exact H) | (have H2_ := (Option.bind_some _ _).symm.trans H; rw [hy106]; with_reducible exact H2_) | (have H2_ := (Option.bind_some _ _).symm.trans H; with_reducible exact H2_) | with_reducible exact H | (rw [hy106]; exact H) | exact H
    have Ny106 := Aside0.mk hy106
    clear hy106
    replace H := Option.bind_eq_some_iff.mp H
    obtain ⟨t109, A50, H⟩ := H
    replace H : ((joinerylaw2_within.f a1 (wrap64 ((wrap64 ((y106.length : Int) - t109)) + 1))).bind fun t110 => (if 0 ≤ t110 then (if t110 ≤ (wrap64 (t110 + t109)) then (if (wrap64 (t110 + t109)) ≤ (y106.length : Int) then ((mark_Set.f ((y106.take ((wrap64 (t110 + t109)) : Int).toNat).drop (t110 : Int).toNat)).bind fun t115 => (if (t115 == (decide (t109 ≤ 4))) = true then ((mark_All.f ((y106.take ((wrap64 (t110 + t109)) : Int).toNat).drop (t110 : Int).toNat) y106).bind fun t120 => (if t120 = true then (if t110 ≤ (wrap64 (t110 + (mn t109 4))) then (if (wrap64 (t110 + (mn t109 4))) ≤ (y106.length : Int) then ((mark_Set.f ((y106.take ((wrap64 (t110 + (mn t109 4))) : Int).toNat).drop (t110 : Int).toNat)).bind fun t125 => (some t125)) else (none)) else (none)) else (some false))) else (some false))) else (none)) else (none)) else (none))) = some r := H
    have A5 := Aside0.mk A50
    clear A50
    replace H := Option.bind_eq_some_iff.mp H
    obtain ⟨t110, A60, H⟩ := H
    replace H : (if 0 ≤ t110 then (if t110 ≤ (wrap64 (t110 + t109)) then (if (wrap64 (t110 + t109)) ≤ (y106.length : Int) then ((mark_Set.f ((y106.take ((wrap64 (t110 + t109)) : Int).toNat).drop (t110 : Int).toNat)).bind fun t115 => (if (t115 == (decide (t109 ≤ 4))) = true then ((mark_All.f ((y106.take ((wrap64 (t110 + t109)) : Int).toNat).drop (t110 : Int).toNat) y106).bind fun t120 => (if t120 = true then (if t110 ≤ (wrap64 (t110 + (mn t109 4))) then (if (wrap64 (t110 + (mn t109 4))) ≤ (y106.length : Int) then ((mark_Set.f ((y106.take ((wrap64 (t110 + (mn t109 4))) : Int).toNat).drop (t110 : Int).toNat)).bind fun t125 => (some t125)) else (none)) else (none)) else (some false))) else (some false))) else (none)) else (none)) else (none)) = some r := H
    have A6 := Aside0.mk A60
    clear A60
    by_cases c7 : 0 ≤ t110
    · rw [if_pos c7] at H
      have c7b0 := eq_true c7
      have c7b1 : decide (0 ≤ t110) = true := decide_eq_true c7
      clear c7
      by_cases c8 : t110 ≤ (wrap64 (t110 + t109))
      · rw [if_pos c8] at H
        have c8b0 := eq_true c8
        have c8b1 : decide (t110 ≤ (wrap64 (t110 + t109))) = true := decide_eq_true c8
        by_cases c9 : (wrap64 (t110 + t109)) ≤ (y106.length : Int)
        · rw [if_pos c9] at H
          have c9b0 := eq_true c9
          have c9b1 : decide ((wrap64 (t110 + t109)) ≤ (y106.length : Int)) = true := decide_eq_true c9
          obtain ⟨y111, hy111⟩ : ∃ y_ : List ByteArray, y_ = ((y106.take ((wrap64 (t110 + t109)) : Int).toNat).drop (t110 : Int).toNat) := ⟨_, rfl⟩
          replace H : ((mark_Set.f y111).bind fun t115 => (if (t115 == (decide (t109 ≤ 4))) = true then ((mark_All.f ((y106.take ((wrap64 (t110 + t109)) : Int).toNat).drop (t110 : Int).toNat) y106).bind fun t120 => (if t120 = true then (if t110 ≤ (wrap64 (t110 + (mn t109 4))) then (if (wrap64 (t110 + (mn t109 4))) ≤ (y106.length : Int) then ((mark_Set.f ((y106.take ((wrap64 (t110 + (mn t109 4))) : Int).toNat).drop (t110 : Int).toNat)).bind fun t125 => (some t125)) else (none)) else (none)) else (some false))) else (some false))) = some r := by first | (rw [hy111]; with_reducible exact H) | (have H2_ := (Option.bind_some _ _).symm.trans H; rw [hy111]; with_reducible exact H2_) | (have H2_ := (Option.bind_some _ _).symm.trans H; with_reducible exact H2_) | with_reducible exact H | (rw [hy111]; exact H) | exact H
          have Ny111 := Aside0.mk hy111
          clear hy111
          replace H := Option.bind_eq_some_iff.mp H
          obtain ⟨t115, A100, H⟩ := H
          replace H : (if (t115 == (decide (t109 ≤ 4))) = true then ((mark_All.f ((y106.take ((wrap64 (t110 + t109)) : Int).toNat).drop (t110 : Int).toNat) y106).bind fun t120 => (if t120 = true then (if t110 ≤ (wrap64 (t110 + (mn t109 4))) then (if (wrap64 (t110 + (mn t109 4))) ≤ (y106.length : Int) then ((mark_Set.f ((y106.take ((wrap64 (t110 + (mn t109 4))) : Int).toNat).drop (t110 : Int).toNat)).bind fun t125 => (some t125)) else (none)) else (none)) else (some false))) else (some false)) = some r := H
          have A10 := Aside0.mk A100
          clear A100
          by_cases c11 : (t115 == (decide (t109 ≤ 4))) = true
          · rw [if_pos c11] at H
            have c11b0 : (t115 == (decide (t109 ≤ 4))) = true := c11
            (try (have c11b1 : decide (t115 = (decide (t109 ≤ 4))) = true := by simpa using c11))
            (try (have c11b2 : (t115 == (decide (t109 ≤ 4))) = true := by simpa using c11))
            clear c11
            have c12b0 := eq_true (of_decide_eq_true (by first | (with_reducible assumption) | assumption) : 0 ≤ t110)
            have c13b0 := eq_true (of_decide_eq_true (by first | (with_reducible assumption) | assumption) : t110 ≤ (wrap64 (t110 + t109)))
            have c14b0 := eq_true (of_decide_eq_true (by first | (with_reducible assumption) | assumption) : (wrap64 (t110 + t109)) ≤ (y106.length : Int))
            obtain ⟨y116, hy116⟩ : ∃ y_ : List ByteArray, y_ = ((y106.take ((wrap64 (t110 + t109)) : Int).toNat).drop (t110 : Int).toNat) := ⟨_, rfl⟩
            replace H : ((mark_All.f y116 y106).bind fun t120 => (if t120 = true then (if t110 ≤ (wrap64 (t110 + (mn t109 4))) then (if (wrap64 (t110 + (mn t109 4))) ≤ (y106.length : Int) then ((mark_Set.f ((y106.take ((wrap64 (t110 + (mn t109 4))) : Int).toNat).drop (t110 : Int).toNat)).bind fun t125 => (some t125)) else (none)) else (none)) else (some false))) = some r := by first | (rw [hy116]; with_reducible exact H) | (have H2_ := (Option.bind_some _ _).symm.trans H; rw [hy116]; with_reducible exact H2_) | (have H2_ := (Option.bind_some _ _).symm.trans H; with_reducible exact H2_) | with_reducible exact H | (rw [hy116]; exact H) | exact H
            have Ny116 := Aside0.mk hy116
            clear hy116
            replace H := Option.bind_eq_some_iff.mp H
            obtain ⟨t120, A150, H⟩ := H
            replace H : (if t120 = true then (if t110 ≤ (wrap64 (t110 + (mn t109 4))) then (if (wrap64 (t110 + (mn t109 4))) ≤ (y106.length : Int) then ((mark_Set.f ((y106.take ((wrap64 (t110 + (mn t109 4))) : Int).toNat).drop (t110 : Int).toNat)).bind fun t125 => (some t125)) else (none)) else (none)) else (some false)) = some r := H
            have A15 := Aside0.mk A150
            clear A150
            by_cases c16 : t120 = true
            · subst c16
              have H1 : (if t110 ≤ (wrap64 (t110 + (mn t109 4))) then (if (wrap64 (t110 + (mn t109 4))) ≤ (y106.length : Int) then ((mark_Set.f ((y106.take ((wrap64 (t110 + (mn t109 4))) : Int).toNat).drop (t110 : Int).toNat)).bind fun t125 => (some t125)) else (none)) else (none)) = some r := by rw [if_pos rfl] at H; exact H
              clear H
              have H := H1
              clear H1
              obtain ⟨ji17, hji17⟩ : ∃ j_ : Int, (mn t109 4) = j_ := ⟨_, rfl⟩
              replace H : (if t110 ≤ (wrap64 (t110 + (ji17))) then (if (wrap64 (t110 + (ji17))) ≤ (y106.length : Int) then ((mark_Set.f ((y106.take ((wrap64 (t110 + (ji17))) : Int).toNat).drop (t110 : Int).toNat)).bind fun t125 => (some t125)) else (none)) else (none)) = some r := by first | (rw [hji17] at H; exact H) | (simp only [hji17] at H ⊢; exact H)
              (try rw [hji17] at A3)
              (try rw [hji17] at A5)
              (try rw [hji17] at A6)
              (try rw [hji17] at A10)
              (try rw [hji17] at A15)
              (try (have hji17h : ji17 ≤ 4 := by (rw [← hji17]; unfold mn; (repeat' split) <;> omega)))
              (try (have hji17g : ji17 ≤ 64 := by omega))
              have hji17_ : (if 4 < t109 then 4 else t109) = ji17 := hji17
              have c18b0 := eq_true (of_decide_eq_true (by first | (with_reducible assumption) | assumption) : 0 ≤ t110)
              by_cases c19 : t110 ≤ (wrap64 (t110 + (ji17)))
              · rw [if_pos c19] at H
                have c19b0 := eq_true c19
                have c19b1 : decide (t110 ≤ (wrap64 (t110 + (ji17)))) = true := decide_eq_true c19
                by_cases c20 : (wrap64 (t110 + (ji17))) ≤ (y106.length : Int)
                · rw [if_pos c20] at H
                  have c20b0 := eq_true c20
                  have c20b1 : decide ((wrap64 (t110 + (ji17))) ≤ (y106.length : Int)) = true := decide_eq_true c20
                  obtain ⟨y121, hy121⟩ : ∃ y_ : List ByteArray, y_ = ((y106.take ((wrap64 (t110 + (ji17))) : Int).toNat).drop (t110 : Int).toNat) := ⟨_, rfl⟩
                  replace H : ((mark_Set.f y121).bind fun t125 => (some t125)) = some r := by first | (rw [hy121]; with_reducible exact H) | (have H2_ := (Option.bind_some _ _).symm.trans H; rw [hy121]; with_reducible exact H2_) | (have H2_ := (Option.bind_some _ _).symm.trans H; with_reducible exact H2_) | with_reducible exact H | (rw [hy121]; exact H) | exact H
                  have Ny121 := Aside0.mk hy121
                  clear hy121
                  replace H := Option.bind_eq_some_iff.mp H
                  obtain ⟨t125, A210, H⟩ := H
                  replace H : (some t125) = some r := H
                  have A21 := Aside0.mk A210
                  clear A210
                  obtain rfl := Option.some.inj H
                  go_enter Try.func12, Try.ntmps12
                  go_wp2_with (first | ((with_reducible refine gate_callee (f := 13) rfl ?_); refine goesL_ (some 8) rfl rfl Try.func13 (by kernel_rfl) rfl #[] rfl (by (try simp only [List.map_toArray, List.map_cons, List.map_nil]); first | done | rfl | (simp only [List.length_drop, List.length_take]; rfl)) ?_; (with_reducible refine (joinerylaw2_known.calls  true _ A3.out).mono ?_); rintro e w22 ⟨rfl, hb⟩; refine ⟨_, rfl, ?_⟩; have n0_ := Aside0.mk (below_step (by repeat (first | (with_reducible first | exact HB.out | apply below_alloc | apply pw_below_drewN | apply below_drew1) | exact HB.out)) hb); clear HB; have HB := n0_; clear n0_; (try clear hb); (try clear hb2); (try clear hk); (try clear hi)) | ((with_reducible refine gate_dst (N := 10) rfl ?_); (try (refine gate_guard (by rfl) ?_; dsimp only)); refine Kd.R_lit Kd.string _ 9 ?hg (N := 10) ?hd (xs := ([(⟨#[97]⟩ : ByteArray), (⟨#[98]⟩ : ByteArray), (⟨#[99]⟩ : ByteArray), (⟨#[100]⟩ : ByteArray), (⟨#[101]⟩ : ByteArray), (⟨#[102]⟩ : ByteArray), (⟨#[206, 177]⟩ : ByteArray), (⟨#[206, 178]⟩ : ByteArray)] : List ByteArray)) (inner := [.string (⟨#[97]⟩ : ByteArray), .string (⟨#[98]⟩ : ByteArray), .string (⟨#[99]⟩ : ByteArray), .string (⟨#[100]⟩ : ByteArray), .string (⟨#[101]⟩ : ByteArray), .string (⟨#[102]⟩ : ByteArray), .string (⟨#[206, 177]⟩ : ByteArray), .string (⟨#[206, 178]⟩ : ByteArray)]) (ok := fun _ => True) (okp := fun _ => True) ?hr ?hp (fun _ hk => hk) trivial (Below.refl _ _) (Nat.le_refl _) (by simp) ?_; (case hd => rfl); (case hg => rfl); (case hr => first | (go_simp; done) | (go_simp; rfl)); (case hp => exact (Reps.one (show Kd.M Kd.string _ _ _ (⟨#[97]⟩ : ByteArray) [.string (⟨#[97]⟩ : ByteArray)] from rfl) (Reps.one (show Kd.M Kd.string _ _ _ (⟨#[98]⟩ : ByteArray) [.string (⟨#[98]⟩ : ByteArray)] from rfl) (Reps.one (show Kd.M Kd.string _ _ _ (⟨#[99]⟩ : ByteArray) [.string (⟨#[99]⟩ : ByteArray)] from rfl) (Reps.one (show Kd.M Kd.string _ _ _ (⟨#[100]⟩ : ByteArray) [.string (⟨#[100]⟩ : ByteArray)] from rfl) (Reps.one (show Kd.M Kd.string _ _ _ (⟨#[101]⟩ : ByteArray) [.string (⟨#[101]⟩ : ByteArray)] from rfl) (Reps.one (show Kd.M Kd.string _ _ _ (⟨#[102]⟩ : ByteArray) [.string (⟨#[102]⟩ : ByteArray)] from rfl) (Reps.one (show Kd.M Kd.string _ _ _ (⟨#[206, 177]⟩ : ByteArray) [.string (⟨#[206, 177]⟩ : ByteArray)] from rfl) (Reps.one (show Kd.M Kd.string _ _ _ (⟨#[206, 178]⟩ : ByteArray) [.string (⟨#[206, 178]⟩ : ByteArray)] from rfl) (Reps.none _ _)))))))))); intro v107 w23 ho24 hb hg_ hnew_; clear hg_ hnew_; (first | rw [← Ny106.out] at ho24 | (simp only [Int.reduceToNat] at ho24; rw [← Ny106.out] at ho24)); have n0_ := Aside0.mk (Kd.R_lower ho24 (below_size (by repeat (first | (with_reducible first | exact HB.out | apply below_alloc | apply pw_below_drewN | apply below_drew1) | exact HB.out)))); have n1_ := Aside0.mk (below_step (by repeat (first | (with_reducible first | exact HB.out | apply below_alloc | apply pw_below_drewN | apply below_drew1) | exact HB.out)) hb); clear HB; have HO108 := n0_; have HB := n1_; clear n0_ n1_; clear hb ho24) | ((with_reducible refine gate_callee (f := 15) rfl ?_); refine goesL_ (some 12) rfl rfl Try.func15 (by kernel_rfl) rfl #[.int .i64 a0, .int .i64 8] rfl (by (try simp only [List.map_toArray, List.map_cons, List.map_nil]); first | done | rfl | (simp only [List.length_drop, List.length_take]; rfl)) ?_; (with_reducible refine (joinerylaw2_within.calls a0 8 t109 _ A5.out).mono ?_); rintro e w' ⟨rfl, ⟨nd, rfl⟩⟩; refine ⟨_, rfl, ?_⟩; obtain ⟨Ao25, co25, eo25⟩ := Kd.R_slice HO108.out; subst eo25) | ((with_reducible refine gate_callee (f := 15) rfl ?_); refine goesL_ (some 19) rfl rfl Try.func15 (by kernel_rfl) rfl #[.int .i64 a1, .int .i64 (wrap64 ((wrap64 ((y106.length : Int) - t109)) + 1))] rfl (by (try simp only [List.map_toArray, List.map_cons, List.map_nil]); first | done | rfl | (simp only [List.length_drop, List.length_take]; rfl)) ?_; (with_reducible refine (joinerylaw2_within.calls a1 (wrap64 ((wrap64 ((y106.length : Int) - t109)) + 1)) t110 _ A6.out).mono ?_); rintro e w' ⟨rfl, ⟨nd, rfl⟩⟩; refine ⟨_, rfl, ?_⟩; have q26 : ((wrap64 (t110 + t109)) : Int) ≤ ((y106.length : Int) : Int) := of_decide_eq_true (by first | (with_reducible assumption) | assumption); obtain ⟨i026, hi026, _, hsz26, _⟩ := info_parts info9; have hroom26 : y106.length ≤ co25 := (Kd.R_reads' HO108.out).2.1; have hC26 : Kd.C Kd.string _ Ao25 y106.length y106 := (Kd.R_reads' HO108.out).2.2; have ql26 : (t110 : Int) ≤ ((wrap64 (t110 + t109)) : Int) := of_decide_eq_true (by first | (with_reducible assumption) | assumption); have q026 : (0 : Int) ≤ (t110 : Int) := of_decide_eq_true (by first | (with_reducible assumption) | assumption); have hcut26 := cut_mid (P := Try.prog) 26 9 .i64 .i64 Try.underlying26 hi026 1 hsz26 Ao25 y106.length co25 t110 (wrap64 (t110 + t109)) q026 ql26 q26 hroom26; have hr26 := Kd.C_mid (lo := (t110 : Int).toNat) (hi := ((wrap64 (t110 + t109)) : Int).toNat) (c := co25) hC26 (by omega) (by omega) hroom26; obtain ⟨A26, hA26⟩ : ∃ A1, A1 = (if co25 = (t110 : Int).toNat then Ao25 else (Ao25 : Option Addr).map (·.add ((t110 : Int).toNat * 1))) := ⟨_, rfl⟩; obtain ⟨c26, hc26⟩ : ∃ c1, c1 = co25 - (t110 : Int).toNat := ⟨_, rfl⟩; have hy26 : y111.length = ((wrap64 (t110 + t109)) : Int).toNat - (t110 : Int).toNat := (by rw [Ny111.out, List.length_drop, List.length_take] <;> omega); rw [show ((y106).take ((wrap64 (t110 + t109)) : Int).toNat).drop (t110 : Int).toNat = y111 from Ny111.out.symm] at hr26; replace hr26 : Kd.C Kd.string _ A26 y111.length y111 := (by rw [hA26]; exact hr26); rw [← hy26, ← hA26, ← hc26] at hcut26; have HR114 := Aside0.mk hr26; have HC114 := Aside0.mk (show y111.length ≤ c26 from by rw [hy26, hc26]; exact Nat.sub_le_sub_right (Nat.le_trans (by omega) hroom26) _); clear hr26 hC26 hroom26 hi026 hsz26 hc26; have KY26 := Aside0.mk hy26; have KA26 := Aside0.mk hA26; clear hy26 hA26; have KL26 := Aside0.mk (show ((wrap64 (t110 + t109)) : Int).toNat ≤ y106.length from by omega); have KM26 := Aside0.mk (show (t110 : Int).toNat ≤ ((wrap64 (t110 + t109)) : Int).toNat from by omega); replace q26 := eq_true q26) | ((with_reducible refine gate_callee (f := 23) rfl ?_); refine goesL_ (some 26) rfl rfl Try.func23 (by kernel_rfl) rfl #[.slice A26 y111.length c26] rfl (by (try simp only [List.map_toArray, List.map_cons, List.map_nil]); first | done | rfl | (simp only [List.length_drop, List.length_take]; rfl)) ?_; (with_reducible refine (mark_Set.calls _ _ y111 t115 _ ?side1 ?side2 A10.out).mono ?_); (case side1 => repeat (first | exact (by repeat (first | (with_reducible exact HR114.out) | (with_reducible refine Kd.C_alloc ?_ _) | (with_reducible refine Kd.C_drewN ?_ _) | (with_reducible refine Kd.C_drew ?_) | exact HR114.out)) | (with_reducible refine Kd.C_alloc ?_ _) | (with_reducible refine Kd.C_drewN ?_ _) | (with_reducible refine Kd.C_drew ?_))); (case side2 => exact HC114.out); rintro e w27 ⟨rfl, hb⟩; refine ⟨_, rfl, ?_⟩; have n0_ := Aside0.mk (Kd.R_below (by (with_reducible repeat (first | apply Kd.R_alloc | apply Kd.R_drewN | apply Kd.R_drew)); exact HO108.out) hb); have n1_ := Aside0.mk (Kd.C_below (by repeat (first | (with_reducible exact HR114.out) | (with_reducible refine Kd.C_alloc ?_ _) | (with_reducible refine Kd.C_drewN ?_ _) | (with_reducible refine Kd.C_drew ?_) | exact HR114.out)) hb); have n2_ := Aside0.mk (below_step (by repeat (first | (with_reducible first | exact HB.out | apply below_alloc | apply pw_below_drewN | apply below_drew1) | exact HB.out)) hb); clear HO108; clear HR114; clear HB; have HO108 := n0_; have HR114 := n1_; have HB := n2_; clear n0_ n1_ n2_; (try clear hb); (try clear hb2); (try clear hk); (try clear hi); have q28 : ((wrap64 (t110 + t109)) : Int) ≤ ((y106.length : Int) : Int) := of_decide_eq_true (by first | (with_reducible assumption) | assumption); obtain ⟨i028, hi028, _, hsz28, _⟩ := info_parts info9; have hroom28 : y106.length ≤ co25 := (Kd.R_reads' HO108.out).2.1; have hC28 : Kd.C Kd.string _ Ao25 y106.length y106 := (Kd.R_reads' HO108.out).2.2; have ql28 : (t110 : Int) ≤ ((wrap64 (t110 + t109)) : Int) := of_decide_eq_true (by first | (with_reducible assumption) | assumption); have q028 : (0 : Int) ≤ (t110 : Int) := of_decide_eq_true (by first | (with_reducible assumption) | assumption); have hcut28 := cut_mid (P := Try.prog) 26 9 .i64 .i64 Try.underlying26 hi028 1 hsz28 Ao25 y106.length co25 t110 (wrap64 (t110 + t109)) q028 ql28 q28 hroom28; have hr28 := Kd.C_mid (lo := (t110 : Int).toNat) (hi := ((wrap64 (t110 + t109)) : Int).toNat) (c := co25) hC28 (by omega) (by omega) hroom28; obtain ⟨A28, hA28⟩ : ∃ A1, A1 = (if co25 = (t110 : Int).toNat then Ao25 else (Ao25 : Option Addr).map (·.add ((t110 : Int).toNat * 1))) := ⟨_, rfl⟩; obtain ⟨c28, hc28⟩ : ∃ c1, c1 = co25 - (t110 : Int).toNat := ⟨_, rfl⟩; have hy28 : y116.length = ((wrap64 (t110 + t109)) : Int).toNat - (t110 : Int).toNat := (by rw [Ny116.out, List.length_drop, List.length_take] <;> omega); rw [show ((y106).take ((wrap64 (t110 + t109)) : Int).toNat).drop (t110 : Int).toNat = y116 from Ny116.out.symm] at hr28; replace hr28 : Kd.C Kd.string _ A28 y116.length y116 := (by rw [hA28]; exact hr28); rw [← hy28, ← hA28, ← hc28] at hcut28; have HR119 := Aside0.mk hr28; have HC119 := Aside0.mk (show y116.length ≤ c28 from by rw [hy28, hc28]; exact Nat.sub_le_sub_right (Nat.le_trans (by omega) hroom28) _); clear hr28 hC28 hroom28 hi028 hsz28 hc28; have KY28 := Aside0.mk hy28; have KA28 := Aside0.mk hA28; clear hy28 hA28; have KL28 := Aside0.mk (show ((wrap64 (t110 + t109)) : Int).toNat ≤ y106.length from by omega); have KM28 := Aside0.mk (show (t110 : Int).toNat ≤ ((wrap64 (t110 + t109)) : Int).toNat from by omega); replace q28 := eq_true q28) | (go_at_call 22; (with_reducible refine (mark_All.calls _ _ y111 _ _ y106 true _ ?side1 ?side2 ?side3 ?side4 ((Ny116.out.trans Ny111.out.symm) ▸ A15.out)).mono ?_); (case side1 => repeat (first | exact (by repeat (first | (with_reducible exact HR114.out) | (with_reducible refine Kd.C_alloc ?_ _) | (with_reducible refine Kd.C_drewN ?_ _) | (with_reducible refine Kd.C_drew ?_) | exact HR114.out)) | (with_reducible refine Kd.C_alloc ?_ _) | (with_reducible refine Kd.C_drewN ?_ _) | (with_reducible refine Kd.C_drew ?_))); (case side2 => exact HC114.out); (case side3 => repeat (first | exact (Kd.R_reads' HO108.out).2.2 | (with_reducible refine Kd.C_alloc ?_ _) | (with_reducible refine Kd.C_drewN ?_ _) | (with_reducible refine Kd.C_drew ?_))); (case side4 => exact (Kd.R_reads' HO108.out).2.1); rintro e w29 ⟨rfl, hb⟩; have n0_ := Aside0.mk (Kd.R_below (by (with_reducible repeat (first | apply Kd.R_alloc | apply Kd.R_drewN | apply Kd.R_drew)); exact HO108.out) hb); have n1_ := Aside0.mk (Kd.C_below (by repeat (first | (with_reducible exact HR114.out) | (with_reducible refine Kd.C_alloc ?_ _) | (with_reducible refine Kd.C_drewN ?_ _) | (with_reducible refine Kd.C_drew ?_) | exact HR114.out)) hb); have n2_ := Aside0.mk (Kd.C_below (by repeat (first | (with_reducible exact HR119.out) | (with_reducible refine Kd.C_alloc ?_ _) | (with_reducible refine Kd.C_drewN ?_ _) | (with_reducible refine Kd.C_drew ?_) | exact HR119.out)) hb); have n3_ := Aside0.mk (below_step (by repeat (first | (with_reducible first | exact HB.out | apply below_alloc | apply pw_below_drewN | apply below_drew1) | exact HB.out)) hb); clear HO108; clear HR114; clear HR119; clear HB; have HO108 := n0_; have HR114 := n1_; have HR119 := n2_; have HB := n3_; clear n0_ n1_ n2_ n3_; (try clear hb); (try clear hb2); (try clear hk); (try clear hi); have q30 : ((wrap64 (t110 + (ji17))) : Int) ≤ ((y106.length : Int) : Int) := of_decide_eq_true (by first | (with_reducible assumption) | assumption); obtain ⟨i030, hi030, _, hsz30, _⟩ := info_parts info9; have hroom30 : y106.length ≤ co25 := (Kd.R_reads' HO108.out).2.1; have hC30 : Kd.C Kd.string _ Ao25 y106.length y106 := (Kd.R_reads' HO108.out).2.2; have ql30 : (t110 : Int) ≤ ((wrap64 (t110 + (ji17))) : Int) := of_decide_eq_true (by first | (with_reducible assumption) | assumption); have q030 : (0 : Int) ≤ (t110 : Int) := of_decide_eq_true (by first | (with_reducible assumption) | assumption); have hcut30 := cut_mid (P := Try.prog) 26 9 .i64 .i64 Try.underlying26 hi030 1 hsz30 Ao25 y106.length co25 t110 (wrap64 (t110 + (ji17))) q030 ql30 q30 hroom30; have hr30 := Kd.C_mid (lo := (t110 : Int).toNat) (hi := ((wrap64 (t110 + (ji17))) : Int).toNat) (c := co25) hC30 (by omega) (by omega) hroom30; obtain ⟨A30, hA30⟩ : ∃ A1, A1 = (if co25 = (t110 : Int).toNat then Ao25 else (Ao25 : Option Addr).map (·.add ((t110 : Int).toNat * 1))) := ⟨_, rfl⟩; obtain ⟨c30, hc30⟩ : ∃ c1, c1 = co25 - (t110 : Int).toNat := ⟨_, rfl⟩; have hy30 : y121.length = ((wrap64 (t110 + (ji17))) : Int).toNat - (t110 : Int).toNat := (by rw [Ny121.out, List.length_drop, List.length_take] <;> omega); rw [show ((y106).take ((wrap64 (t110 + (ji17))) : Int).toNat).drop (t110 : Int).toNat = y121 from Ny121.out.symm] at hr30; replace hr30 : Kd.C Kd.string _ A30 y121.length y121 := (by rw [hA30]; exact hr30); rw [← hy30, ← hA30, ← hc30] at hcut30; have HR124 := Aside0.mk hr30; have HC124 := Aside0.mk (show y121.length ≤ c30 from by rw [hy30, hc30]; exact Nat.sub_le_sub_right (Nat.le_trans (by omega) hroom30) _); clear hr30 hC30 hroom30 hi030 hsz30 hc30; have KY30 := Aside0.mk hy30; have KA30 := Aside0.mk hA30; clear hy30 hA30; have KL30 := Aside0.mk (show ((wrap64 (t110 + (ji17))) : Int).toNat ≤ y106.length from by omega); have KM30 := Aside0.mk (show (t110 : Int).toNat ≤ ((wrap64 (t110 + (ji17))) : Int).toNat from by omega); replace q30 := eq_true q30) | (go_at_call 23; (with_reducible refine (mark_Set.calls _ _ y121 t125 _ ?side1 ?side2 A21.out).mono ?_); (case side1 => repeat (first | exact (by repeat (first | (with_reducible exact HR124.out) | (with_reducible refine Kd.C_alloc ?_ _) | (with_reducible refine Kd.C_drewN ?_ _) | (with_reducible refine Kd.C_drew ?_) | exact HR124.out)) | (with_reducible refine Kd.C_alloc ?_ _) | (with_reducible refine Kd.C_drewN ?_ _) | (with_reducible refine Kd.C_drew ?_))); (case side2 => exact HC124.out); rintro e w31 ⟨rfl, hb⟩; have n0_ := Aside0.mk (Kd.R_below (by (with_reducible repeat (first | apply Kd.R_alloc | apply Kd.R_drewN | apply Kd.R_drew)); exact HO108.out) hb); have n1_ := Aside0.mk (Kd.C_below (by repeat (first | (with_reducible exact HR114.out) | (with_reducible refine Kd.C_alloc ?_ _) | (with_reducible refine Kd.C_drewN ?_ _) | (with_reducible refine Kd.C_drew ?_) | exact HR114.out)) hb); have n2_ := Aside0.mk (Kd.C_below (by repeat (first | (with_reducible exact HR119.out) | (with_reducible refine Kd.C_alloc ?_ _) | (with_reducible refine Kd.C_drewN ?_ _) | (with_reducible refine Kd.C_drew ?_) | exact HR119.out)) hb); have n3_ := Aside0.mk (Kd.C_below (by repeat (first | (with_reducible exact HR124.out) | (with_reducible refine Kd.C_alloc ?_ _) | (with_reducible refine Kd.C_drewN ?_ _) | (with_reducible refine Kd.C_drew ?_) | exact HR124.out)) hb); have n4_ := Aside0.mk (below_step (by repeat (first | (with_reducible first | exact HB.out | apply below_alloc | apply pw_below_drewN | apply below_drew1) | exact HB.out)) hb); clear HO108; clear HR114; clear HR119; clear HR124; clear HB; have HO108 := n0_; have HR114 := n1_; have HR119 := n2_; have HR124 := n3_; have HB := n4_; clear n0_ n1_ n2_ n3_ n4_; (try clear hb); (try clear hb2); (try clear hk); (try clear hi)))
                  go_ret
                  exact ⟨by first | rfl | (simp [errW_none, errW_some] <;> rfl) | (simp only [← hji17]; first | rfl | (simp [errW_none, errW_some] <;> rfl)) | (simp [*, errW_none, errW_some] <;> rfl), by repeat (first | (with_reducible first | exact HB.out | apply below_alloc | apply pw_below_drewN | apply below_drew1) | exact HB.out)⟩
                · rw [if_neg c20] at H
                  exact absurd H (by simp)
              · rw [if_neg c19] at H
                exact absurd H (by simp)
            · replace c16 := Bool.eq_false_iff.mpr c16
              subst c16
              have H1 : (some false) = some r := by rw [if_neg (show ¬ (false = true) by decide)] at H; exact H
              clear H
              have H := H1
              clear H1
              obtain rfl := Option.some.inj H
              exact absurd hT_.out (by simp)
          · rw [if_neg c11] at H
            have c11b0 : (t115 == (decide (t109 ≤ 4))) = false := by simpa using c11
            (try (have c11b1 : decide (t115 = (decide (t109 ≤ 4))) = false := by simpa using c11))
            (try (have c11b2 : (t115 == (decide (t109 ≤ 4))) = false := by simpa using c11))
            (try (have c11b3 : ¬ (t115 = (decide (t109 ≤ 4))) := by simpa using c11))
            clear c11
            obtain rfl := Option.some.inj H
            exact absurd hT_.out (by simp)
        · rw [if_neg c9] at H
          exact absurd H (by simp)
      · rw [if_neg c8] at H
        exact absurd H (by simp)
    · rw [if_neg c7] at H
      exact absurd H (by simp)
  · replace c4 := Bool.eq_false_iff.mpr c4
    subst c4
    have H1 : (some false) = some r := by rw [if_neg (show ¬ (false = true) by decide)] at H; exact H
    clear H
    have H := H1
    clear H1
    obtain rfl := Option.some.inj H
    exact absurd hT_.out (by simp)

/-- THE ONE PURE STATEMENT of joinerylaw2_MarkFive: yours. -/
def joinerylaw2_MarkFive.Pure : Prop := ∀ (a0 : Int) (a1 : Int), (Lit.int .i64 a0).wf = true → (Lit.int .i64 a1).wf = true → joinerylaw2_MarkFive.f a0 a1 = some true
theorem joinerylaw2_MarkFive.walk (P : joinerylaw2_MarkFive.Pure) (a0 : Int) (a1 : Int) (w : World) (w0 : (Lit.int .i64 a0).wf = true) (w1 : (Lit.int .i64 a1).wf = true) :
    Calls Try.prog 12 #[.int .i64 a0, .int .i64 a1] w fun e w' => e = .returned (.bool true) ∧ Below w.heap.size w w' := by
  have h := P a0 a1 w0 w1
  refine (joinerylaw2_MarkFive.calls a0 a1 true w ⟨rfl⟩ h).mono ?_
  rintro e w' ⟨rfl, hd⟩
  exact ⟨rfl, hd⟩

end Go.Proofs.Ytocndmgimcmfaaa.F
