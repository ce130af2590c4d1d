-- Printed by wip/tools/gprint.py (the kit's print, hand-proved contracts laid in): functions of the program as Lean functions, each with the proof that the machine's call comes to its answer.
import Derived.Test.YtocndmgimcmfaaaOx0
import Derived.Test.YtocndmgimcmfaaaOx1
namespace Go.Proofs.Ytocndmgimcmfaaa.O
open Go.RowKit Go.Proofs.Ytocndmgimcmfaaa.Base Go.Proofs.YtocndmgimcmfaaaW.PrintWords Go.Proofs.YtocndmgimcmfaaaW.PrintLast Go.Proofs.YtocndmgimcmfaaaW.PrintMore
attribute [local go_sem] max2_int min2_int max_two min_two max_three min_three max_four min_four   -- for this text's walks alone
set_option linter.unusedVariables false
set_option linter.unusedSimpArgs false

/-! ### joinerylaw2_MarkOrder: function 11 -/
def joinerylaw2_MarkOrder.l0 : Nat → List ByteArray → List ByteArray → List ByteArray → Int → Option (Bool)
  | 0, _, _, _, _ => none
  | k + 1, x5, x7, x8, x9 => if x9 > 0 then (if 0 ≤ (wrap64 (x9 - 1)) then (if (wrap64 (x9 - 1)) < (x5.length : Int) then ((some (([rdOf ByteArray.empty x5 (wrap64 (x9 - 1))] : List ByteArray) : List ByteArray)).bind fun y145 => (if x8.length + y145.length < 8796093022208 then (joinerylaw2_MarkOrder.l0 k x5 x7 (x8 ++ y145) (wrap64 (x9 - 1))) else (none))) else (none)) else (none)) else ((mark_Set.f x7).bind fun t151 => (if t151 = true then (some false) else ((mark_Set.f x8).bind fun t152 => (if (t152 == ((x5.length : Int) == 1)) = true then ((mark_All.f x8 x5).bind fun t153 => (if t153 = true then ((mark_All.f x5 x8).bind fun t154 => (if t154 = true then ((mark_All.f x7 x5).bind fun t155 => (some t155)) else (some false))) else (some false))) else (some false)))))
def joinerylaw2_MarkOrder.f (k : Nat) (a0 : Int) (a1 : Int) : Option (Bool) := (joinerylaw2_known.f).bind fun t113 => (if t113 = true then ((joinerylaw2_Set.f k a0).bind fun t114 => ((mark_Set.f t114).bind fun t117 => (if t117 = true then (if (t114.length : Int) = 0 then ((mark_Set.f ([] : List ByteArray)).bind fun t118 => (some t118)) else ((joinerylaw2_within.f a1 (t114.length : Int)).bind fun t119 => ((some (([] : List ByteArray) : List ByteArray)).bind fun y120 => (if 0 ≤ (wrap64 (t119 + 1)) then (if (wrap64 (t119 + 1)) ≤ (t114.length : Int) then ((some (t114.take ((wrap64 (t119 + 1)) : Int).toNat : List ByteArray)).bind fun y123 => (if y120.length + y123.length < 8796093022208 then ((some (y120 ++ y123 : List ByteArray)).bind fun y127 => (if 0 ≤ t119 then (if t119 < (t114.length : Int) then ((some (([rdOf ByteArray.empty t114 t119] : List ByteArray) : List ByteArray)).bind fun y131 => (if y127.length + y131.length < 8796093022208 then ((some (y127 ++ y131 : List ByteArray)).bind fun y134 => ((some (t114.drop ((wrap64 (t119 + 1)) : Int).toNat : List ByteArray)).bind fun y137 => (if y134.length + y137.length < 8796093022208 then (joinerylaw2_MarkOrder.l0 k t114 (y134 ++ y137) ([] : List ByteArray) (t114.length : Int)) else (none)))) else (none))) else (none)) else (none))) else (none))) else (none)) else (none))))) else (some false)))) else (some false))
theorem joinerylaw2_MarkOrder.mono_l : ∀ k, (∀ y0 y1 y2 y3, LeO (joinerylaw2_MarkOrder.l0 k y0 y1 y2 y3) (joinerylaw2_MarkOrder.l0 (k + 1) y0 y1 y2 y3))
  | 0 => fun _ _ _ _ r h => by simp [joinerylaw2_MarkOrder.l0] at h
  | k + 1 => by
    have ih0 := joinerylaw2_MarkOrder.mono_l k
    · intro y0 y1 y2 y3
      unfold joinerylaw2_MarkOrder.l0
      repeat' first
      | (with_reducible exact ih0 _ _ _ _)
      | (with_reducible exact joinerylaw2_Set.mono _ _)
      | (with_reducible exact LeO.refl _)
      | (with_reducible exact LeO.none _)
      | (with_reducible refine LeO.ite ?_ ?_)
      | (with_reducible refine LeO.bind ?_ (fun _ => ?_))
      | exact ih0 _ _ _ _
      | exact joinerylaw2_Set.mono _ _
      | exact LeO.none _
      | refine LeO.ite ?_ ?_
      | refine LeO.bind ?_ (fun _ => ?_)
theorem joinerylaw2_MarkOrder.mono : ∀ a0 a1 k, LeO (joinerylaw2_MarkOrder.f k a0 a1) (joinerylaw2_MarkOrder.f (k + 1) a0 a1) := by
  intro a0 a1 k
  have ih0 := joinerylaw2_MarkOrder.mono_l k
  unfold joinerylaw2_MarkOrder.f
  repeat' first
      | (with_reducible exact ih0 _ _ _ _)
      | (with_reducible exact joinerylaw2_Set.mono _ _)
      | (with_reducible exact LeO.refl _)
      | (with_reducible exact LeO.none _)
      | (with_reducible refine LeO.ite ?_ ?_)
      | (with_reducible refine LeO.bind ?_ (fun _ => ?_))
      | exact ih0 _ _ _ _
      | exact joinerylaw2_Set.mono _ _
      | exact LeO.none _
      | refine LeO.ite ?_ ?_
      | refine LeO.bind ?_ (fun _ => ?_)
def joinerylaw2_MarkOrder.T9 : Bool × List (List Nat × List Nat) := (true, [([], []), ([], []), ([], []), ([2], [2]), ([1, 3], [1, 3]), ([0, 4], [0, 4]), ([], []), ([], []), ([6, 7], [6, 7]), ([8], [8]), ([9], [9]), ([5, 10, 5], [5, 10]), ([], []), ([], []), ([13], [13]), ([12, 14], [12, 14]), ([11, 15, 11], [11, 15]), ([16, 16, 0, 1, 2, 3, 4, 5, 6, 7, 8, 9, 10, 11, 12, 13, 14, 15, 16], [16])])
def joinerylaw2_MarkOrder.B9 : List Nat := [0, 0, 0, 4, 14, 31, 0, 0, 192, 448, 960, 2047, 0, 0, 8192, 28672, 65535, 131071]
theorem joinerylaw2_MarkOrder.tab9 : rtab .any (opsOf Try.f11 9) = joinerylaw2_MarkOrder.T9 := by kernel_rfl
theorem joinerylaw2_MarkOrder.bits9 : waitsOk joinerylaw2_MarkOrder.T9.2 joinerylaw2_MarkOrder.B9 = true := by kernel_rfl
set_option maxHeartbeats 8000000 in
set_option maxRecDepth 100000 in
theorem joinerylaw2_MarkOrder.calls (k : Nat) (a0 : Int) (a1 : Int) (r : Bool) (w : World) (hT_ : Aside0 (r = true)) (h : joinerylaw2_MarkOrder.f k a0 a1 = some r) :
    Calls Try.prog 11 #[.int .i64 a0, .int .i64 a1] w fun e w' => e = .returned (.bool r) ∧ Below w.heap.size w w' := by
  have HB := Aside0.mk (Below.refl w.heap.size w)
  have H : ((joinerylaw2_known.f).bind fun t113 => (if t113 = true then ((joinerylaw2_Set.f k a0).bind fun t114 => ((mark_Set.f t114).bind fun t117 => (if t117 = true then (if (t114.length : Int) = 0 then ((mark_Set.f ([] : List ByteArray)).bind fun t118 => (some t118)) else ((joinerylaw2_within.f a1 (t114.length : Int)).bind fun t119 => ((some (([] : List ByteArray) : List ByteArray)).bind fun y120 => (if 0 ≤ (wrap64 (t119 + 1)) then (if (wrap64 (t119 + 1)) ≤ (t114.length : Int) then ((some (t114.take ((wrap64 (t119 + 1)) : Int).toNat : List ByteArray)).bind fun y123 => (if y120.length + y123.length < 8796093022208 then ((some (y120 ++ y123 : List ByteArray)).bind fun y127 => (if 0 ≤ t119 then (if t119 < (t114.length : Int) then ((some (([rdOf ByteArray.empty t114 t119] : List ByteArray) : List ByteArray)).bind fun y131 => (if y127.length + y131.length < 8796093022208 then ((some (y127 ++ y131 : List ByteArray)).bind fun y134 => ((some (t114.drop ((wrap64 (t119 + 1)) : Int).toNat : List ByteArray)).bind fun y137 => (if y134.length + y137.length < 8796093022208 then (joinerylaw2_MarkOrder.l0 k t114 (y134 ++ y137) ([] : List ByteArray) (t114.length : Int)) else (none)))) else (none))) else (none)) else (none))) else (none))) else (none)) else (none))))) else (some false)))) else (some false))) = some r := h
  clear h
  replace H := Option.bind_eq_some_iff.mp H
  obtain ⟨t113, A30, H⟩ := H
  replace H : (if t113 = true then ((joinerylaw2_Set.f k a0).bind fun t114 => ((mark_Set.f t114).bind fun t117 => (if t117 = true then (if (t114.length : Int) = 0 then ((mark_Set.f ([] : List ByteArray)).bind fun t118 => (some t118)) else ((joinerylaw2_within.f a1 (t114.length : Int)).bind fun t119 => ((some (([] : List ByteArray) : List ByteArray)).bind fun y120 => (if 0 ≤ (wrap64 (t119 + 1)) then (if (wrap64 (t119 + 1)) ≤ (t114.length : Int) then ((some (t114.take ((wrap64 (t119 + 1)) : Int).toNat : List ByteArray)).bind fun y123 => (if y120.length + y123.length < 8796093022208 then ((some (y120 ++ y123 : List ByteArray)).bind fun y127 => (if 0 ≤ t119 then (if t119 < (t114.length : Int) then ((some (([rdOf ByteArray.empty t114 t119] : List ByteArray) : List ByteArray)).bind fun y131 => (if y127.length + y131.length < 8796093022208 then ((some (y127 ++ y131 : List ByteArray)).bind fun y134 => ((some (t114.drop ((wrap64 (t119 + 1)) : Int).toNat : List ByteArray)).bind fun y137 => (if y134.length + y137.length < 8796093022208 then (joinerylaw2_MarkOrder.l0 k t114 (y134 ++ y137) ([] : List ByteArray) (t114.length : Int)) else (none)))) else (none))) else (none)) else (none))) else (none))) else (none)) else (none))))) else (some false)))) else (some false)) = some r := H
  have A3 := Aside0.mk A30
  clear A30
  by_cases c4 : t113 = true
  · subst c4
    have H1 : ((joinerylaw2_Set.f k a0).bind fun t114 => ((mark_Set.f t114).bind fun t117 => (if t117 = true then (if (t114.length : Int) = 0 then ((mark_Set.f ([] : List ByteArray)).bind fun t118 => (some t118)) else ((joinerylaw2_within.f a1 (t114.length : Int)).bind fun t119 => ((some (([] : List ByteArray) : List ByteArray)).bind fun y120 => (if 0 ≤ (wrap64 (t119 + 1)) then (if (wrap64 (t119 + 1)) ≤ (t114.length : Int) then ((some (t114.take ((wrap64 (t119 + 1)) : Int).toNat : List ByteArray)).bind fun y123 => (if y120.length + y123.length < 8796093022208 then ((some (y120 ++ y123 : List ByteArray)).bind fun y127 => (if 0 ≤ t119 then (if t119 < (t114.length : Int) then ((some (([rdOf ByteArray.empty t114 t119] : List ByteArray) : List ByteArray)).bind fun y131 => (if y127.length + y131.length < 8796093022208 then ((some (y127 ++ y131 : List ByteArray)).bind fun y134 => ((some (t114.drop ((wrap64 (t119 + 1)) : Int).toNat : List ByteArray)).bind fun y137 => (if y134.length + y137.length < 8796093022208 then (joinerylaw2_MarkOrder.l0 k t114 (y134 ++ y137) ([] : List ByteArray) (t114.length : Int)) else (none)))) else (none))) else (none)) else (none))) else (none))) else (none)) else (none))))) else (some false)))) = some r := by rw [if_pos rfl] at H; exact H
    clear H
    have H := H1
    clear H1
    replace H := Option.bind_eq_some_iff.mp H
    obtain ⟨t114, A50, H⟩ := H
    replace H : ((mark_Set.f t114).bind fun t117 => (if t117 = true then (if (t114.length : Int) = 0 then ((mark_Set.f ([] : List ByteArray)).bind fun t118 => (some t118)) else ((joinerylaw2_within.f a1 (t114.length : Int)).bind fun t119 => ((some (([] : List ByteArray) : List ByteArray)).bind fun y120 => (if 0 ≤ (wrap64 (t119 + 1)) then (if (wrap64 (t119 + 1)) ≤ (t114.length : Int) then ((some (t114.take ((wrap64 (t119 + 1)) : Int).toNat : List ByteArray)).bind fun y123 => (if y120.length + y123.length < 8796093022208 then ((some (y120 ++ y123 : List ByteArray)).bind fun y127 => (if 0 ≤ t119 then (if t119 < (t114.length : Int) then ((some (([rdOf ByteArray.empty t114 t119] : List ByteArray) : List ByteArray)).bind fun y131 => (if y127.length + y131.length < 8796093022208 then ((some (y127 ++ y131 : List ByteArray)).bind fun y134 => ((some (t114.drop ((wrap64 (t119 + 1)) : Int).toNat : List ByteArray)).bind fun y137 => (if y134.length + y137.length < 8796093022208 then (joinerylaw2_MarkOrder.l0 k t114 (y134 ++ y137) ([] : List ByteArray) (t114.length : Int)) else (none)))) else (none))) else (none)) else (none))) else (none))) else (none)) else (none))))) else (some false))) = some r := H
    have A5 := Aside0.mk A50
    clear A50
    replace H := Option.bind_eq_some_iff.mp H
    obtain ⟨t117, A60, H⟩ := H
    replace H : (if t117 = true then (if (t114.length : Int) = 0 then ((mark_Set.f ([] : List ByteArray)).bind fun t118 => (some t118)) else ((joinerylaw2_within.f a1 (t114.length : Int)).bind fun t119 => ((some (([] : List ByteArray) : List ByteArray)).bind fun y120 => (if 0 ≤ (wrap64 (t119 + 1)) then (if (wrap64 (t119 + 1)) ≤ (t114.length : Int) then ((some (t114.take ((wrap64 (t119 + 1)) : Int).toNat : List ByteArray)).bind fun y123 => (if y120.length + y123.length < 8796093022208 then ((some (y120 ++ y123 : List ByteArray)).bind fun y127 => (if 0 ≤ t119 then (if t119 < (t114.length : Int) then ((some (([rdOf ByteArray.empty t114 t119] : List ByteArray) : List ByteArray)).bind fun y131 => (if y127.length + y131.length < 8796093022208 then ((some (y127 ++ y131 : List ByteArray)).bind fun y134 => ((some (t114.drop ((wrap64 (t119 + 1)) : Int).toNat : List ByteArray)).bind fun y137 => (if y134.length + y137.length < 8796093022208 then (joinerylaw2_MarkOrder.l0 k t114 (y134 ++ y137) ([] : List ByteArray) (t114.length : Int)) else (none)))) else (none))) else (none)) else (none))) else (none))) else (none)) else (none))))) else (some false)) = some r := H
    have A6 := Aside0.mk A60
    clear A60
    by_cases c7 : t117 = true
    · subst c7
      have H1 : (if (t114.length : Int) = 0 then ((mark_Set.f ([] : List ByteArray)).bind fun t118 => (some t118)) else ((joinerylaw2_within.f a1 (t114.length : Int)).bind fun t119 => ((some (([] : List ByteArray) : List ByteArray)).bind fun y120 => (if 0 ≤ (wrap64 (t119 + 1)) then (if (wrap64 (t119 + 1)) ≤ (t114.length : Int) then ((some (t114.take ((wrap64 (t119 + 1)) : Int).toNat : List ByteArray)).bind fun y123 => (if y120.length + y123.length < 8796093022208 then ((some (y120 ++ y123 : List ByteArray)).bind fun y127 => (if 0 ≤ t119 then (if t119 < (t114.length : Int) then ((some (([rdOf ByteArray.empty t114 t119] : List ByteArray) : List ByteArray)).bind fun y131 => (if y127.length + y131.length < 8796093022208 then ((some (y127 ++ y131 : List ByteArray)).bind fun y134 => ((some (t114.drop ((wrap64 (t119 + 1)) : Int).toNat : List ByteArray)).bind fun y137 => (if y134.length + y137.length < 8796093022208 then (joinerylaw2_MarkOrder.l0 k t114 (y134 ++ y137) ([] : List ByteArray) (t114.length : Int)) else (none)))) else (none))) else (none)) else (none))) else (none))) else (none)) else (none))))) = some r := by rw [if_pos rfl] at H; exact H
      clear H
      have H := H1
      clear H1
      by_cases c8 : (t114.length : Int) = 0
      · rw [if_pos c8] at H
        have c8b0 : ((t114.length : Int) == 0) = true := beq_iff_eq.mpr c8
        have c8b1 : ((t114.length : Int) != 0) = false := bne_eq_false_iff_eq.mpr c8
        clear c8
        replace H := Option.bind_eq_some_iff.mp H
        obtain ⟨t118, A90, H⟩ := H
        replace H : (some t118) = some r := H
        have A9 := Aside0.mk A90
        clear A90
        obtain rfl := Option.some.inj H
        go_enter Try.func11, Try.ntmps11
        go_wp2_with (first | ((with_reducible refine gate_callee (f := 13) rfl ?_); refine goesL_ (some 10) rfl rfl Try.func13 (by kernel_rfl) rfl #[] rfl (by (try simp only [List.map_toArray, List.map_cons, List.map_nil]); first | done | rfl | (simp only [List.length_drop, List.length_take]; rfl)) ?_; (with_reducible refine (joinerylaw2_known.calls  true _ A3.out).mono ?_); rintro e w10 ⟨rfl, hb⟩; refine ⟨_, rfl, ?_⟩; have n0_ := Aside0.mk (below_step (by repeat (first | (with_reducible first | exact HB.out | apply below_alloc | apply pw_below_drewN | apply below_drew1) | exact HB.out)) hb); clear HB; have HB := n0_; clear n0_; (try clear hb); (try clear hb2); (try clear hk); (try clear hi)) | ((with_reducible refine gate_callee (f := 21) rfl ?_); refine goesL_ (some 13) rfl rfl Try.func21 (by kernel_rfl) rfl #[.int .i64 a0] rfl (by (try simp only [List.map_toArray, List.map_cons, List.map_nil]); first | done | rfl | (simp only [List.length_drop, List.length_take]; rfl)) ?_; (with_reducible refine (joinerylaw2_Set.calls k a0 t114 _ A5.out).mono ?_); rintro e w11 ⟨v115, rfl, ho0, hb⟩; refine ⟨_, rfl, ?_⟩; have n0_ := Aside0.mk (Kd.R_lower ho0 (below_size (by repeat (first | (with_reducible first | exact HB.out | apply below_alloc | apply pw_below_drewN | apply below_drew1) | exact HB.out)))); have n1_ := Aside0.mk (below_step (by repeat (first | (with_reducible first | exact HB.out | apply below_alloc | apply pw_below_drewN | apply below_drew1) | exact HB.out)) hb); clear HB; have HO116 := n0_; have HB := n1_; clear n0_ n1_; (try clear hb); (try clear hb2); (try clear hk); (try clear hi); (try clear ho0); obtain ⟨Ao12, co12, eo12⟩ := Kd.R_slice HO116.out; subst eo12) | ((with_reducible refine gate_callee (f := 23) rfl ?_); refine goesL_ (some 15) rfl rfl Try.func23 (by kernel_rfl) rfl #[.slice Ao12 t114.length co12] rfl (by (try simp only [List.map_toArray, List.map_cons, List.map_nil]); first | done | rfl | (simp only [List.length_drop, List.length_take]; rfl)) ?_; (with_reducible refine (mark_Set.calls _ _ t114 true _ ?side1 ?side2 A6.out).mono ?_); (case side1 => repeat (first | exact (Kd.R_reads' HO116.out).2.2 | (with_reducible refine Kd.C_alloc ?_ _) | (with_reducible refine Kd.C_drewN ?_ _) | (with_reducible refine Kd.C_drew ?_))); (case side2 => exact (Kd.R_reads' HO116.out).2.1); rintro e w13 ⟨rfl, hb⟩; refine ⟨_, rfl, ?_⟩; have n0_ := Aside0.mk (Kd.R_below (by (with_reducible repeat (first | apply Kd.R_alloc | apply Kd.R_drewN | apply Kd.R_drew)); exact HO116.out) hb); have n1_ := Aside0.mk (below_step (by repeat (first | (with_reducible first | exact HB.out | apply below_alloc | apply pw_below_drewN | apply below_drew1) | exact HB.out)) hb); clear HO116; clear HB; have HO116 := n0_; have HB := n1_; clear n0_ n1_; (try clear hb); (try clear hb2); (try clear hk); (try clear hi)) | ((with_reducible refine gate_callee (f := 23) rfl ?_); refine goesL_ (some 20) rfl rfl Try.func23 (by kernel_rfl) rfl #[.slice none 0 0] rfl (by (try simp only [List.map_toArray, List.map_cons, List.map_nil]); first | done | rfl | (simp only [List.length_drop, List.length_take]; rfl)) ?_; (refine (mark_Set.calls _ _ ([] : List ByteArray) t118 _ ?side1 ?side2 A9.out).mono ?_); (case side1 => exact Kd.C_nil _ _); (case side2 => exact Nat.le_refl _); rintro e w14 ⟨rfl, hb⟩; refine ⟨_, rfl, ?_⟩; have n0_ := Aside0.mk (Kd.R_below (by (with_reducible repeat (first | apply Kd.R_alloc | apply Kd.R_drewN | apply Kd.R_drew)); exact HO116.out) hb); have n1_ := Aside0.mk (below_step (by repeat (first | (with_reducible first | exact HB.out | apply below_alloc | apply pw_below_drewN | apply below_drew1) | exact HB.out)) hb); clear HO116; clear HB; have HO116 := n0_; have HB := n1_; clear n0_ n1_; (try clear hb); (try clear hb2); (try clear hk); (try clear hi)))
        go_ret
        exact ⟨by first | rfl | (simp [errW_none, errW_some] <;> rfl) | (simp [*, errW_none, errW_some] <;> rfl), by repeat (first | (with_reducible first | exact HB.out | apply below_alloc | apply pw_below_drewN | apply below_drew1) | exact HB.out)⟩
      · rw [if_neg c8] at H
        have c8b0 : ((t114.length : Int) == 0) = false := beq_eq_false_iff_ne.mpr c8
        have c8b1 : ((t114.length : Int) != 0) = true := bne_iff_ne.mpr c8
        have c8b2 : ¬ (t114 = []) := fun h_ => c8 (by rw [h_]; rfl)
        replace H := Option.bind_eq_some_iff.mp H
        obtain ⟨t119, A150, H⟩ := H
        replace H : ((some (([] : List ByteArray) : List ByteArray)).bind fun y120 => (if 0 ≤ (wrap64 (t119 + 1)) then (if (wrap64 (t119 + 1)) ≤ (t114.length : Int) then ((some (t114.take ((wrap64 (t119 + 1)) : Int).toNat : List ByteArray)).bind fun y123 => (if y120.length + y123.length < 8796093022208 then ((some (y120 ++ y123 : List ByteArray)).bind fun y127 => (if 0 ≤ t119 then (if t119 < (t114.length : Int) then ((some (([rdOf ByteArray.empty t114 t119] : List ByteArray) : List ByteArray)).bind fun y131 => (if y127.length + y131.length < 8796093022208 then ((some (y127 ++ y131 : List ByteArray)).bind fun y134 => ((some (t114.drop ((wrap64 (t119 + 1)) : Int).toNat : List ByteArray)).bind fun y137 => (if y134.length + y137.length < 8796093022208 then (joinerylaw2_MarkOrder.l0 k t114 (y134 ++ y137) ([] : List ByteArray) (t114.length : Int)) else (none)))) else (none))) else (none)) else (none))) else (none))) else (none)) else (none))) = some r := H
        have A15 := Aside0.mk A150
        clear A150
        obtain ⟨y120, hy120⟩ : ∃ y_ : List ByteArray, y_ = (([] : List ByteArray)) := ⟨_, rfl⟩
        replace H : (if 0 ≤ (wrap64 (t119 + 1)) then (if (wrap64 (t119 + 1)) ≤ (t114.length : Int) then ((some (t114.take ((wrap64 (t119 + 1)) : Int).toNat : List ByteArray)).bind fun y123 => (if y120.length + y123.length < 8796093022208 then ((some (y120 ++ y123 : List ByteArray)).bind fun y127 => (if 0 ≤ t119 then (if t119 < (t114.length : Int) then ((some (([rdOf ByteArray.empty t114 t119] : List ByteArray) : List ByteArray)).bind fun y131 => (if y127.length + y131.length < 8796093022208 then ((some (y127 ++ y131 : List ByteArray)).bind fun y134 => ((some (t114.drop ((wrap64 (t119 + 1)) : Int).toNat : List ByteArray)).bind fun y137 => (if y134.length + y137.length < 8796093022208 then (joinerylaw2_MarkOrder.l0 k t114 (y134 ++ y137) ([] : List ByteArray) (t114.length : Int)) else (none)))) else (none))) else (none)) else (none))) else (none))) else (none)) else (none)) = some r := by first | (rw [hy120]; with_reducible exact H) | (have H2_ := (Option.bind_some _ _).symm.trans H; rw [hy120]; with_reducible exact H2_) | (have H2_ := (Option.bind_some _ _).symm.trans H; with_reducible exact H2_) | with_reducible exact H | (rw [hy120]; exact H) | exact H
        have Ny120 := Aside0.mk hy120
        clear hy120
        obtain ⟨ji16, hji16⟩ : ∃ j_ : Int, (wrap64 (t119 + 1)) = j_ := ⟨_, rfl⟩
        replace H : (if 0 ≤ (ji16) then (if (ji16) ≤ (t114.length : Int) then ((some (t114.take ((ji16) : Int).toNat : List ByteArray)).bind fun y123 => (if y120.length + y123.length < 8796093022208 then ((some (y120 ++ y123 : List ByteArray)).bind fun y127 => (if 0 ≤ t119 then (if t119 < (t114.length : Int) then ((some (([rdOf ByteArray.empty t114 t119] : List ByteArray) : List ByteArray)).bind fun y131 => (if y127.length + y131.length < 8796093022208 then ((some (y127 ++ y131 : List ByteArray)).bind fun y134 => ((some (t114.drop ((ji16) : Int).toNat : List ByteArray)).bind fun y137 => (if y134.length + y137.length < 8796093022208 then (joinerylaw2_MarkOrder.l0 k t114 (y134 ++ y137) ([] : List ByteArray) (t114.length : Int)) else (none)))) else (none))) else (none)) else (none))) else (none))) else (none)) else (none)) = some r := by first | (rw [hji16] at H; exact H) | (simp only [hji16] at H ⊢; exact H)
        (try rw [hji16] at A3)
        (try rw [hji16] at A5)
        (try rw [hji16] at A6)
        (try rw [hji16] at A15)
        have hji16w : (IntKind.i64.wrap (t119 + 1)) = ji16 := (i64_w _).trans hji16
        by_cases c17 : 0 ≤ (ji16)
        · rw [if_pos c17] at H
          have c17b0 := eq_true c17
          have c17b1 : decide (0 ≤ (ji16)) = true := decide_eq_true c17
          clear c17
          by_cases c18 : (ji16) ≤ (t114.length : Int)
          · rw [if_pos c18] at H
            have c18b0 := eq_true c18
            have c18b1 : decide ((ji16) ≤ (t114.length : Int)) = true := decide_eq_true c18
            clear c18
            obtain ⟨y123, hy123⟩ : ∃ y_ : List ByteArray, y_ = (t114.take ((ji16) : Int).toNat) := ⟨_, rfl⟩
            replace H : (if y120.length + y123.length < 8796093022208 then ((some (y120 ++ y123 : List ByteArray)).bind fun y127 => (if 0 ≤ t119 then (if t119 < (t114.length : Int) then ((some (([rdOf ByteArray.empty t114 t119] : List ByteArray) : List ByteArray)).bind fun y131 => (if y127.length + y131.length < 8796093022208 then ((some (y127 ++ y131 : List ByteArray)).bind fun y134 => ((some (t114.drop ((ji16) : Int).toNat : List ByteArray)).bind fun y137 => (if y134.length + y137.length < 8796093022208 then (joinerylaw2_MarkOrder.l0 k t114 (y134 ++ y137) ([] : List ByteArray) (t114.length : Int)) else (none)))) else (none))) else (none)) else (none))) else (none)) = some r := by first | (rw [hy123]; with_reducible exact H) | (have H2_ := (Option.bind_some _ _).symm.trans H; rw [hy123]; with_reducible exact H2_) | (have H2_ := (Option.bind_some _ _).symm.trans H; with_reducible exact H2_) | with_reducible exact H | (rw [hy123]; exact H) | exact H
            have Ny123 := Aside0.mk hy123
            clear hy123
            by_cases c19 : y120.length + y123.length < 8796093022208
            · rw [if_pos c19] at H
              have LMc19 := Aside0.mk c19
              clear c19
              obtain ⟨y127, hy127⟩ : ∃ y_ : List ByteArray, y_ = (y120 ++ y123) := ⟨_, rfl⟩
              replace H : (if 0 ≤ t119 then (if t119 < (t114.length : Int) then ((some (([rdOf ByteArray.empty t114 t119] : List ByteArray) : List ByteArray)).bind fun y131 => (if y127.length + y131.length < 8796093022208 then ((some (y127 ++ y131 : List ByteArray)).bind fun y134 => ((some (t114.drop ((ji16) : Int).toNat : List ByteArray)).bind fun y137 => (if y134.length + y137.length < 8796093022208 then (joinerylaw2_MarkOrder.l0 k t114 (y134 ++ y137) ([] : List ByteArray) (t114.length : Int)) else (none)))) else (none))) else (none)) else (none)) = some r := by first | (rw [hy127]; with_reducible exact H) | (have H2_ := (Option.bind_some _ _).symm.trans H; rw [hy127]; with_reducible exact H2_) | (have H2_ := (Option.bind_some _ _).symm.trans H; with_reducible exact H2_) | with_reducible exact H | (rw [hy127]; exact H) | exact H
              have Ny127 := Aside0.mk hy127
              clear hy127
              by_cases c20 : 0 ≤ t119
              · rw [if_pos c20] at H
                have c20b0 : decide (0 ≤ t119) = true := decide_eq_true c20
                clear c20
                by_cases c21 : t119 < (t114.length : Int)
                · rw [if_pos c21] at H
                  have c21b0 : decide (t119 < (t114.length : Int)) = true := decide_eq_true c21
                  clear c21
                  obtain ⟨y131, hy131⟩ : ∃ y_ : List ByteArray, y_ = (([rdOf ByteArray.empty t114 t119] : List ByteArray)) := ⟨_, rfl⟩
                  replace H : (if y127.length + y131.length < 8796093022208 then ((some (y127 ++ y131 : List ByteArray)).bind fun y134 => ((some (t114.drop ((ji16) : Int).toNat : List ByteArray)).bind fun y137 => (if y134.length + y137.length < 8796093022208 then (joinerylaw2_MarkOrder.l0 k t114 (y134 ++ y137) ([] : List ByteArray) (t114.length : Int)) else (none)))) else (none)) = some r := by first | (rw [hy131]; with_reducible exact H) | (have H2_ := (Option.bind_some _ _).symm.trans H; rw [hy131]; with_reducible exact H2_) | (have H2_ := (Option.bind_some _ _).symm.trans H; with_reducible exact H2_) | with_reducible exact H | (rw [hy131]; exact H) | exact H
                  have Ny131 := Aside0.mk hy131
                  clear hy131
                  by_cases c22 : y127.length + y131.length < 8796093022208
                  · rw [if_pos c22] at H
                    have LMc22 := Aside0.mk c22
                    clear c22
                    obtain ⟨y134, hy134⟩ : ∃ y_ : List ByteArray, y_ = (y127 ++ y131) := ⟨_, rfl⟩
                    replace H : ((some (t114.drop ((ji16) : Int).toNat : List ByteArray)).bind fun y137 => (if y134.length + y137.length < 8796093022208 then (joinerylaw2_MarkOrder.l0 k t114 (y134 ++ y137) ([] : List ByteArray) (t114.length : Int)) else (none))) = some r := by first | (rw [hy134]; with_reducible exact H) | (have H2_ := (Option.bind_some _ _).symm.trans H; rw [hy134]; with_reducible exact H2_) | (have H2_ := (Option.bind_some _ _).symm.trans H; with_reducible exact H2_) | with_reducible exact H | (rw [hy134]; exact H) | exact H
                    have Ny134 := Aside0.mk hy134
                    clear hy134
                    have c23b0 := eq_true (of_decide_eq_true (by first | (with_reducible assumption) | assumption) : 0 ≤ (ji16))
                    have c24b0 := eq_true (of_decide_eq_true (by first | (with_reducible assumption) | assumption) : (ji16) ≤ (t114.length : Int))
                    obtain ⟨y137, hy137⟩ : ∃ y_ : List ByteArray, y_ = (t114.drop ((ji16) : Int).toNat) := ⟨_, rfl⟩
                    replace H : (if y134.length + y137.length < 8796093022208 then (joinerylaw2_MarkOrder.l0 k t114 (y134 ++ y137) ([] : List ByteArray) (t114.length : Int)) else (none)) = some r := by first | (rw [hy137]; with_reducible exact H) | (have H2_ := (Option.bind_some _ _).symm.trans H; rw [hy137]; with_reducible exact H2_) | (have H2_ := (Option.bind_some _ _).symm.trans H; with_reducible exact H2_) | with_reducible exact H | (rw [hy137]; exact H) | exact H
                    have Ny137 := Aside0.mk hy137
                    clear hy137
                    by_cases c25 : y134.length + y137.length < 8796093022208
                    · rw [if_pos c25] at H
                      have LMc25 := Aside0.mk c25
                      clear c25
                      obtain ⟨y141, hy141⟩ : ∃ y_ : List ByteArray, y_ = (y134 ++ y137) := ⟨_, rfl⟩
                      replace H : (joinerylaw2_MarkOrder.l0 k t114 y141 ([] : List ByteArray) (t114.length : Int)) = some r := by first | (rw [hy141]; with_reducible exact H) | (have H2_ := (Option.bind_some _ _).symm.trans H; rw [hy141]; with_reducible exact H2_) | (have H2_ := (Option.bind_some _ _).symm.trans H; with_reducible exact H2_) | with_reducible exact H | (rw [hy141]; exact H) | exact H
                      have Ny141 := Aside0.mk hy141
                      clear hy141
                      have H' := Aside0.mk H
                      clear H
                      go_enter Try.func11, Try.ntmps11
                      try go_wp2_with (first | ((with_reducible refine gate_callee (f := 13) rfl ?_); refine goesL_ (some 10) rfl rfl Try.func13 (by kernel_rfl) rfl #[] rfl (by (try simp only [List.map_toArray, List.map_cons, List.map_nil]); first | done | rfl | (simp only [List.length_drop, List.length_take]; rfl)) ?_; (with_reducible refine (joinerylaw2_known.calls  true _ A3.out).mono ?_); rintro e w26 ⟨rfl, hb⟩; refine ⟨_, rfl, ?_⟩; have n0_ := Aside0.mk (below_step (by repeat (first | (with_reducible first | exact HB.out | apply below_alloc | apply pw_below_drewN | apply below_drew1) | exact HB.out)) hb); clear HB; have HB := n0_; clear n0_; (try clear hb); (try clear hb2); (try clear hk); (try clear hi)) | ((with_reducible refine gate_callee (f := 21) rfl ?_); refine goesL_ (some 13) rfl rfl Try.func21 (by kernel_rfl) rfl #[.int .i64 a0] rfl (by (try simp only [List.map_toArray, List.map_cons, List.map_nil]); first | done | rfl | (simp only [List.length_drop, List.length_take]; rfl)) ?_; (with_reducible refine (joinerylaw2_Set.calls k a0 t114 _ A5.out).mono ?_); rintro e w27 ⟨v115, rfl, ho0, hb⟩; refine ⟨_, rfl, ?_⟩; have n0_ := Aside0.mk (Kd.R_lower ho0 (below_size (by repeat (first | (with_reducible first | exact HB.out | apply below_alloc | apply pw_below_drewN | apply below_drew1) | exact HB.out)))); have n1_ := Aside0.mk (below_step (by repeat (first | (with_reducible first | exact HB.out | apply below_alloc | apply pw_below_drewN | apply below_drew1) | exact HB.out)) hb); clear HB; have HO116 := n0_; have HB := n1_; clear n0_ n1_; (try clear hb); (try clear hb2); (try clear hk); (try clear hi); (try clear ho0); obtain ⟨Ao28, co28, eo28⟩ := Kd.R_slice HO116.out; subst eo28) | ((with_reducible refine gate_callee (f := 23) rfl ?_); refine goesL_ (some 15) rfl rfl Try.func23 (by kernel_rfl) rfl #[.slice Ao28 t114.length co28] rfl (by (try simp only [List.map_toArray, List.map_cons, List.map_nil]); first | done | rfl | (simp only [List.length_drop, List.length_take]; rfl)) ?_; (with_reducible refine (mark_Set.calls _ _ t114 true _ ?side1 ?side2 A6.out).mono ?_); (case side1 => repeat (first | exact (Kd.R_reads' HO116.out).2.2 | (with_reducible refine Kd.C_alloc ?_ _) | (with_reducible refine Kd.C_drewN ?_ _) | (with_reducible refine Kd.C_drew ?_))); (case side2 => exact (Kd.R_reads' HO116.out).2.1); rintro e w29 ⟨rfl, hb⟩; refine ⟨_, rfl, ?_⟩; have n0_ := Aside0.mk (Kd.R_below (by (with_reducible repeat (first | apply Kd.R_alloc | apply Kd.R_drewN | apply Kd.R_drew)); exact HO116.out) hb); have n1_ := Aside0.mk (below_step (by repeat (first | (with_reducible first | exact HB.out | apply below_alloc | apply pw_below_drewN | apply below_drew1) | exact HB.out)) hb); clear HO116; clear HB; have HO116 := n0_; have HB := n1_; clear n0_ n1_; (try clear hb); (try clear hb2); (try clear hk); (try clear hi)) | ((with_reducible refine gate_callee (f := 15) rfl ?_); refine goesL_ (some 24) rfl rfl Try.func15 (by kernel_rfl) rfl #[.int .i64 a1, .int .i64 (t114.length : Int)] rfl (by (try simp only [List.map_toArray, List.map_cons, List.map_nil]); first | done | rfl | (simp only [List.length_drop, List.length_take]; rfl)) ?_; (with_reducible refine (joinerylaw2_within.calls a1 (t114.length : Int) t119 _ A15.out).mono ?_); rintro e w' ⟨rfl, ⟨nd, rfl⟩⟩; refine ⟨_, rfl, ?_⟩))
                      (try (rw [drewN_self w29]; generalize hq_ : World.drewN w29 _ = w29; have n0_ : Aside0 (Kd.R Kd.string 9 w29 w.heap.size (fun _ => True) (.slice Ao28 t114.length co28) t114) := ⟨by rw [← hq_]; exact (by (with_reducible repeat (first | apply Kd.R_alloc | apply Kd.R_drewN | apply Kd.R_drew)); exact HO116.out)⟩; have n1_ : Aside0 (Below w.heap.size w w29) := ⟨by rw [← hq_]; exact (by repeat (first | (with_reducible first | exact HB.out | apply below_alloc | apply pw_below_drewN | apply below_drew1) | exact HB.out))⟩; clear HO116 HB hq_; have HO116 := n0_; have HB := n1_; clear n0_ n1_))
                      have n0_ := Aside0.mk (Kd.R_drew HO116.out)
                      have n1_ := Aside0.mk (below_drew1 HB.out)
                      clear HO116
                      clear HB
                      have HO116 := n0_
                      have HB := n1_
                      clear n0_ n1_
                      have q31 : ((ji16) : Int) ≤ ((t114.length : Int) : Int) := of_decide_eq_true (by first | (with_reducible assumption) | assumption)
                      obtain ⟨i031, hi031, _, hsz31, _⟩ := info_parts info9
                      have hroom31 : t114.length ≤ co28 := (Kd.R_reads' HO116.out).2.1
                      have hC31 : Kd.C Kd.string _ Ao28 t114.length t114 := (Kd.R_reads' HO116.out).2.2
                      have hcut31 := cut_to (P := Try.prog) 26 9 .i64 Try.underlying26 hi031 Ao28 t114.length co28 (ji16) (of_decide_eq_true (by first | (with_reducible assumption) | assumption)) q31 hroom31
                      have hr31 := Kd.C_take (m := ((ji16) : Int).toNat) hC31 (by omega)
                      have hy31 : y123.length = ((ji16) : Int).toNat := (by rw [Ny123.out, List.length_take]; omega)
                      rw [← Ny123.out] at hr31
                      rw [← hy31] at hcut31
                      have HR126 := Aside0.mk hr31
                      have HC126 := Aside0.mk (show y123.length ≤ co28 from by omega)
                      clear hr31 hC31 hroom31 hi031 hsz31
                      have KY31 := Aside0.mk hy31
                      clear hy31
                      have KL31 := Aside0.mk (show ((ji16) : Int).toNat ≤ t114.length from by omega)
                      replace q31 := eq_true q31
                      have p130 : 0 ≤ (t119 : Int) := of_decide_eq_true (by first | (with_reducible assumption) | assumption)
                      have q130 : t119 < (t114.length : Int) := of_decide_eq_true (by first | (with_reducible assumption) | assumption)
                      obtain ⟨ad130, e130, hx130_0⟩ := Kd.at_string (Kd.R_reads' HO116.out).2.2 t119 p130 q130
                      cases e130
                      replace p130 := eq_true p130
                      replace q130 := eq_true q130
                      have q32 : ((ji16) : Int) ≤ ((t114.length : Int) : Int) := of_decide_eq_true (by first | (with_reducible assumption) | assumption)
                      obtain ⟨i032, hi032, _, hsz32, _⟩ := info_parts info9
                      have hroom32 : t114.length ≤ co28 := (Kd.R_reads' HO116.out).2.1
                      have hC32 : Kd.C Kd.string _ (some ad130) t114.length t114 := (Kd.R_reads' HO116.out).2.2
                      have q032 : (0 : Int) ≤ ((ji16) : Int) := of_decide_eq_true (by first | (with_reducible assumption) | assumption)
                      have hcut32 := cut_from (P := Try.prog) 26 9 .i64 Try.underlying26 hi032 1 hsz32 (some ad130) t114.length co28 (ji16) q032 q32
                      have hr32 := Kd.C_drop (m := ((ji16) : Int).toNat) (c := co28) hC32 (by omega) hroom32
                      obtain ⟨A32, hA32⟩ : ∃ A1, A1 = (if co28 = ((ji16) : Int).toNat then (some ad130) else ((some ad130) : Option Addr).map (·.add (((ji16) : Int).toNat * 1))) := ⟨_, rfl⟩
                      obtain ⟨c32, hc32⟩ : ∃ c1, c1 = co28 - ((ji16) : Int).toNat := ⟨_, rfl⟩
                      have hy32 : y137.length = t114.length - ((ji16) : Int).toNat := (by rw [Ny137.out, List.length_drop] <;> omega)
                      rw [show (t114).drop ((ji16) : Int).toNat = y137 from Ny137.out.symm] at hr32
                      replace hr32 : Kd.C Kd.string _ A32 y137.length y137 := (by rw [hA32]; exact hr32)
                      rw [← hy32, ← hA32, ← hc32] at hcut32
                      have HR140 := Aside0.mk hr32
                      have HC140 := Aside0.mk (show y137.length ≤ c32 from by rw [hy32, hc32]; exact Nat.sub_le_sub_right hroom32 _)
                      clear hr32 hC32 hroom32 hi032 hsz32 hc32
                      have KY32 := Aside0.mk hy32
                      have KA32 := Aside0.mk hA32
                      clear hy32 hA32
                      have KL32 := Aside0.mk (show ((ji16) : Int).toNat ≤ t114.length from by omega)
                      replace q32 := eq_true q32
                      refine start_ (n := 18) (S := fun w' => w'.cell? (ad130.add (t119).toNat) = some (.string (rdOf ByteArray.empty t114 t119))) (ds := []) #[false, false, false, false, false, false, false, false, false, false, false, false, false, false, false, false, false, false] (by kernel_rfl) rfl rfl (hx130_0) (fun hHeld => ?_); refine with_tabW joinerylaw2_MarkOrder.tab9 joinerylaw2_MarkOrder.bits9 (fun HT_ HW_ => ?_)
                      generalize w29.drew = w30 at HO116 HB HR126 HR140 hx130_0 hHeld ⊢
                      refine pure_ (i := 1) (N := some 26) (v := ?_) (a' := ?_) #[false, true, false, false, false, false, false, false, false, false, false, false, false, false, false, false, false, false] rfl rfl (any_of HT_.out (by kernel_rfl)) (fun _ _ _ h => h) (Or.inl ⟨by rfl, ?_⟩) ?_ ?_
                      rotate_left
                      · intro w'
                        go_simp
                        with_reducible rfl
                      rotate_left
                      · simp only [Act.put, List.setIfInBounds_toArray, List.set_cons_zero, List.set_cons_succ, i64_w, i32_w]
                        rfl
                      refine pure_ (i := 2) (N := some 27) (v := ?_) (a' := ?_) #[false, true, true, false, false, false, false, false, false, false, false, false, false, false, false, false, false, false] rfl rfl (any_of HT_.out (by kernel_rfl)) (fun _ _ _ h => h) (Or.inl ⟨by rfl, ?_⟩) ?_ ?_
                      rotate_left
                      · intro w'
                        go_simp
                        with_reducible rfl
                      rotate_left
                      · simp only [Act.put, List.setIfInBounds_toArray, List.set_cons_zero, List.set_cons_succ, i64_w, i32_w]
                        rfl
                      refine pure_ (i := 3) (N := some 28) (v := ?_) (a' := ?_) #[false, true, true, true, false, false, false, false, false, false, false, false, false, false, false, false, false, false] rfl rfl (any_of HT_.out (by kernel_rfl)) (fun _ _ _ h => h) (Or.inl ⟨by rfl, ?_⟩) ?_ ?_
                      rotate_left
                      · intro w'
                        go_simp
                        with_reducible rfl
                      rotate_left
                      · simp only [Act.put, List.setIfInBounds_toArray, List.set_cons_zero, List.set_cons_succ, i64_w, i32_w]
                        rfl
                      refine pure_ (i := 4) (N := some 29) (v := ?_) (a' := ?_) #[false, true, true, true, true, false, false, false, false, false, false, false, false, false, false, false, false, false] rfl rfl (any_of HT_.out (by kernel_rfl)) (fun _ _ _ h => h) (Or.inl ⟨by rfl, ?_⟩) ?_ ?_
                      rotate_left
                      · intro w'
                        go_simp
                        with_reducible rfl
                      rotate_left
                      · simp only [Act.put, List.setIfInBounds_toArray, List.set_cons_zero, List.set_cons_succ, i64_w, i32_w]
                        rfl
                      refine pure_ (i := 6) (N := some 31) (v := ?_) (a' := ?_) #[false, true, true, true, true, false, true, false, false, false, false, false, false, false, false, false, false, false] rfl rfl (any_of HT_.out (by kernel_rfl)) (fun _ _ _ h => h) (Or.inl ⟨by rfl, ?_⟩) ?_ ?_
                      rotate_left
                      · intro w'
                        go_simp
                        with_reducible rfl
                      rotate_left
                      · simp only [Act.put, List.setIfInBounds_toArray, List.set_cons_zero, List.set_cons_succ, i64_w, i32_w]
                        rfl
                      refine pure_ (i := 7) (N := some 32) (v := ?_) (a' := ?_) #[false, true, true, true, true, false, true, true, false, false, false, false, false, false, false, false, false, false] rfl rfl (any_of HT_.out (by kernel_rfl)) (fun _ _ _ h => h) (Or.inl ⟨by rfl, ?_⟩) ?_ ?_
                      rotate_left
                      · intro w'
                        go_simp
                        with_reducible rfl
                      rotate_left
                      · simp only [Act.put, List.setIfInBounds_toArray, List.set_cons_zero, List.set_cons_succ, i64_w, i32_w]
                        rfl
                      refine pure_ (i := 8) (N := some 33) (v := ?_) (a' := ?_) #[false, true, true, true, true, false, true, true, true, false, false, false, false, false, false, false, false, false] rfl rfl (any_of HT_.out (by kernel_rfl)) (fun _ _ _ h => h) (Or.inl ⟨by rfl, ?_⟩) ?_ ?_
                      rotate_left
                      · intro w'
                        go_simp
                        with_reducible rfl
                      rotate_left
                      · simp only [Act.put, List.setIfInBounds_toArray, List.set_cons_zero, List.set_cons_succ, i64_w, i32_w]
                        rfl
                      refine pure_ (i := 12) (N := some 37) (v := ?_) (a' := ?_) #[false, true, true, true, true, false, true, true, true, false, false, false, true, false, false, false, false, false] rfl rfl (any_of HT_.out (by kernel_rfl)) (fun _ _ _ h => h) (Or.inl ⟨by rfl, ?_⟩) ?_ ?_
                      rotate_left
                      · intro w'
                        go_simp
                        with_reducible rfl
                      rotate_left
                      · simp only [Act.put, List.setIfInBounds_toArray, List.set_cons_zero, List.set_cons_succ, i64_w, i32_w]
                        rfl
                      refine pure_ (i := 13) (N := some 38) (v := ?_) (a' := ?_) #[false, true, true, true, true, false, true, true, true, false, false, false, true, true, false, false, false, false] rfl rfl (any_of HT_.out (by kernel_rfl)) (fun _ _ _ h => h) (Or.inl ⟨by rfl, ?_⟩) ?_ ?_
                      rotate_left
                      · intro w'
                        go_simp
                        with_reducible rfl
                      rotate_left
                      · simp only [Act.put, List.setIfInBounds_toArray, List.set_cons_zero, List.set_cons_succ, i64_w, i32_w]
                        rfl
                      refine pure_ (i := 14) (N := some 39) (v := ?_) (a' := ?_) #[false, true, true, true, true, false, true, true, true, false, false, false, true, true, true, false, false, false] rfl rfl (any_of HT_.out (by kernel_rfl)) (fun _ _ _ h => h) (Or.inl ⟨by rfl, ?_⟩) ?_ ?_
                      rotate_left
                      · intro w'
                        go_simp
                        with_reducible rfl
                      rotate_left
                      · simp only [Act.put, List.setIfInBounds_toArray, List.set_cons_zero, List.set_cons_succ, i64_w, i32_w]
                        rfl
                      refine pure_ (i := 15) (N := some 40) (v := ?_) (a' := ?_) #[false, true, true, true, true, false, true, true, true, false, false, false, true, true, true, true, false, false] rfl rfl (any_of HT_.out (by kernel_rfl)) (fun _ _ _ h => h) (Or.inl ⟨by rfl, ?_⟩) ?_ ?_
                      rotate_left
                      · intro w'
                        go_simp
                        with_reducible rfl
                      rotate_left
                      · simp only [Act.put, List.setIfInBounds_toArray, List.set_cons_zero, List.set_cons_succ, i64_w, i32_w]
                        rfl
                      refine take_ (i := 9) (N := some 34) (v := ?_) (a' := ?_) #[false, true, true, true, true, false, true, true, true, true, false, false, true, true, true, true, false, false] rfl rfl (take_ofW HT_.out HW_.out (by kernel_rfl)) (fun _ _ _ h => h) (Or.inl ⟨by rfl, ?_⟩) hHeld ?_ ?_
                      rotate_left
                      · intro w' s0
                        go_simp
                        with_reducible rfl
                      rotate_left
                      · simp only [Act.put, List.setIfInBounds_toArray, List.set_cons_zero, List.set_cons_succ, i64_w, i32_w]
                        rfl
                      refine join_ (σ := Value × Value × Value) 3 #[true, true, true, true, true, true, true, true, true, true, true, false, true, true, true, true, false, false] (fun s_ => [(25, s_.1), (30, s_.2.1), (35, s_.2.2)]) (fun s_ w' => (w'.cell? (ad130.add (t119).toNat) = some (.string (rdOf ByteArray.empty t114 t119))) ∧ (Kd.R Kd.string 9 w' w.heap.size (fun k_ => some k_ ≠ (s_.2.1 : Value).ownBlock ∧ some k_ ≠ (s_.2.2 : Value).ownBlock) (.slice (some ad130) t114.length co28) t114) ∧ (Kd.R Kd.string 9 w' w.heap.size (fun k_ => some k_ ≠ (.slice (some ad130) t114.length co28 : Value).ownBlock ∧ some k_ ≠ (s_.2.2 : Value).ownBlock) s_.2.1 y127) ∧ (Kd.R Kd.string 9 w' w.heap.size (fun k_ => some k_ ≠ (.slice (some ad130) t114.length co28 : Value).ownBlock ∧ some k_ ≠ (s_.2.1 : Value).ownBlock) s_.2.2 y131) ∧ (Below w.heap.size w w')) ?_ ?_
                      rotate_left
                      · intro hCont
                        refine two_ (i := 0) (j := 10) (Ni := some 25) (Nj := some 35) #[true, true, true, true, true, false, true, true, true, true, false, false, true, true, true, true, false, false] #[false, true, true, true, true, false, true, true, true, true, true, false, true, true, true, true, false, false] rfl rfl rfl rfl (two_of HT_.out (by kernel_rfl)) (by decide) (by decide) (fun K hK => ?_) (fun K hK => ?_)
                        · skip
                          refine Kd.R_lit_step Kd.string _ 9 ?hg (N := 25) ?hd (xs := ([] : List ByteArray)) (inner := []) (ok := fun _ => True) (okp := fun _ => True) ?hr ?hp (fun _ hk => hk) trivial (Below.refl _ _) (Nat.le_refl _) (by simp) ?_; (case hd => rfl); (case hg => rfl); (case hr => first | (go_simp; done) | (go_simp; rfl)); (case hp => exact (Reps.none _ _))
                          intro v121 w33 ho34 hb hg_ hnew_
                          have HS0_ := (hb.cell (World.block_lt_of_cell? _ _ (hHeld))).trans (hHeld)
                          clear hg_ hnew_
                          (first | rw [← Ny120.out] at ho34 | (simp only [Int.reduceToNat] at ho34; rw [← Ny120.out] at ho34))
                          have n0_ := Aside0.mk (Kd.R_elder' (by (with_reducible repeat (first | apply Kd.R_alloc | apply Kd.R_drewN | apply Kd.R_drew)); exact HO116.out) (Kd.R_base ho34) hb)
                          have n1_ := Aside0.mk (Kd.R_lower (Kd.R_new' ho34 (Kd.R_lt (by (with_reducible repeat (first | apply Kd.R_alloc | apply Kd.R_drewN | apply Kd.R_drew)); exact HO116.out))) (below_size (by repeat (first | (with_reducible first | exact HB.out | apply below_alloc | apply pw_below_drewN | apply below_drew1) | exact HB.out))))
                          have n2_ := Aside0.mk (Kd.C_below (by repeat (first | (with_reducible exact HR126.out) | (with_reducible refine Kd.C_alloc ?_ _) | (with_reducible refine Kd.C_drewN ?_ _) | (with_reducible refine Kd.C_drew ?_) | exact HR126.out)) hb)
                          have n3_ := Aside0.mk (Kd.C_below (by repeat (first | (with_reducible exact HR140.out) | (with_reducible refine Kd.C_alloc ?_ _) | (with_reducible refine Kd.C_drewN ?_ _) | (with_reducible refine Kd.C_drew ?_) | exact HR140.out)) hb)
                          have n4_ := Aside0.mk (below_step (by repeat (first | (with_reducible first | exact HB.out | apply below_alloc | apply pw_below_drewN | apply below_drew1) | exact HB.out)) hb)
                          clear HO116
                          clear HR126
                          clear HR140
                          clear HB
                          have HO116 := n0_
                          have HO122 := n1_
                          have HR126 := n2_
                          have HR140 := n3_
                          have HB := n4_
                          clear n0_ n1_ n2_ n3_ n4_
                          clear hb ho34
                          refine hK.out _ _ (HS0_) (fun hHeld => ?_)
                          clear hK K
                          refine norm_ (a' := ?_) ?_ ?_
                          rotate_left
                          · show Act.put _ (some 25) _ = _
                            simp only [Act.put, List.setIfInBounds_toArray, List.set_cons_zero, List.set_cons_succ, i64_w, i32_w]
                            rfl
                          refine two_ (i := 5) (j := 10) (Ni := some 30) (Nj := some 35) #[true, true, true, true, true, true, true, true, true, true, false, false, true, true, true, true, false, false] #[true, true, true, true, true, false, true, true, true, true, true, false, true, true, true, true, false, false] rfl rfl rfl rfl (two_of HT_.out (by kernel_rfl)) (by decide) (by decide) (fun K hK => ?_) (fun K hK => ?_)
                          · skip
                            refine Kd.R_append_rows_step Kd.string (w0 := w) w.heap.size (by rfl) (.tmp 25) (.tmp 29) 26 9 (.string ⟨#[]⟩) 16 rfl Try.underlying26 info9 rfl (by decide) (by omega) v121 y120 y123 _ _ _ (fun k_ => some k_ ≠ (.slice (some ad130) t114.length co28 : Value).ownBlock) (fun _ => False) rfl rfl ?aO ?aR (fun _ _ h => h) (fun _ h => h.elim) ?aF ?aB ?aS ?aL ?_
                            (case aR => repeat (first | exact (by repeat (first | (with_reducible exact HR126.out) | (with_reducible refine Kd.C_alloc ?_ _) | (with_reducible refine Kd.C_drewN ?_ _) | (with_reducible refine Kd.C_drew ?_) | exact HR126.out)) | (with_reducible refine Kd.C_alloc ?_ _) | (with_reducible refine Kd.C_drewN ?_ _) | (with_reducible refine Kd.C_drew ?_)))
                            (case aB => exact (by repeat (first | (with_reducible first | exact HB.out | apply below_alloc | apply pw_below_drewN | apply below_drew1) | exact HB.out)))
                            (case aF => exact (fun k_ hk => Kd.fresh' (Kd.R_lt (by (with_reducible repeat (first | apply Kd.R_alloc | apply Kd.R_drewN | apply Kd.R_drew)); exact HO116.out)) k_ hk))
                            (case aO => exact (by (with_reducible repeat (first | apply Kd.R_alloc | apply Kd.R_drewN | apply Kd.R_drew)); exact Kd.R_mono HO122.out (fun _ hk => hk.2)))
                            (case aS => exact (below_size (by repeat (first | (with_reducible first | exact HB.out | apply below_alloc | apply pw_below_drewN | apply below_drew1) | exact HB.out))))
                            (case aL => have := LMc19.out; omega)
                            intro v128 w35 ho hb hg hat
                            have HS0_ := cell_grown hg (hHeld) (by first | (rw [add_block]; first | exact (fun e_ => (HO122.out.1 _ e_.symm) rfl) | exact (fun e_ => (HO122.out.1 _ e_.symm).1 rfl) | exact (fun e_ => (HO122.out.1 _ e_.symm).2 rfl) | exact (fun e_ => (HO122.out.1 _ e_.symm).1.1 rfl) | exact (fun e_ => (HO122.out.1 _ e_.symm).1.2 rfl) | exact (fun e_ => (HO122.out.1 _ e_.symm).2.1 rfl) | exact (fun e_ => (HO122.out.1 _ e_.symm).2.2 rfl) | exact (fun e_ => (HO122.out.1 _ e_.symm).1.1.1 rfl) | exact (fun e_ => (HO122.out.1 _ e_.symm).1.1.2 rfl)) | (show some (Addr.add _ _).block ≠ _; rw [add_block]; first | exact (fun e_ => (HO122.out.1 _ e_.symm) rfl) | exact (fun e_ => (HO122.out.1 _ e_.symm).1 rfl) | exact (fun e_ => (HO122.out.1 _ e_.symm).2 rfl) | exact (fun e_ => (HO122.out.1 _ e_.symm).1.1 rfl) | exact (fun e_ => (HO122.out.1 _ e_.symm).1.2 rfl) | exact (fun e_ => (HO122.out.1 _ e_.symm).2.1 rfl) | exact (fun e_ => (HO122.out.1 _ e_.symm).2.2 rfl) | exact (fun e_ => (HO122.out.1 _ e_.symm).1.1.1 rfl) | exact (fun e_ => (HO122.out.1 _ e_.symm).1.1.2 rfl)) | exact (fun e_ => (HO122.out.1 _ e_.symm) rfl) | exact (fun e_ => (HO122.out.1 _ e_.symm).1 rfl) | exact (fun e_ => (HO122.out.1 _ e_.symm).2 rfl) | exact (fun e_ => (HO122.out.1 _ e_.symm).1.1 rfl) | exact (fun e_ => (HO122.out.1 _ e_.symm).1.2 rfl) | exact (fun e_ => (HO122.out.1 _ e_.symm).2.1 rfl) | exact (fun e_ => (HO122.out.1 _ e_.symm).2.2 rfl) | exact (fun e_ => (HO122.out.1 _ e_.symm).1.1.1 rfl) | exact (fun e_ => (HO122.out.1 _ e_.symm).1.1.2 rfl))
                            rw [← Ny127.out] at ho
                            have n0_ := Aside0.mk (Kd.R_after (ok := (fun _ => True)) (by (with_reducible repeat (first | apply Kd.R_alloc | apply Kd.R_drewN | apply Kd.R_drew)); exact HO116.out) hg hat)
                            have n1_ := Aside0.mk (hb)
                            have n2_ := Aside0.mk ((show Kd.C Kd.string w35 (some ad130) y123.length y123 from by rw [Ny123.out]; exact Kd.C_take (m := ((ji16) : Int).toNat) ((Kd.R_reads' (Kd.R_after (ok := (fun _ => True)) (by (with_reducible repeat (first | apply Kd.R_alloc | apply Kd.R_drewN | apply Kd.R_drew)); exact HO116.out) hg hat)).2.2) KL31.out))
                            have n3_ := Aside0.mk ((show Kd.C Kd.string w35 A32 y137.length y137 from by rw [Ny137.out, KA32.out]; exact Kd.C_drop (m := ((ji16) : Int).toNat) (c := co28) ((Kd.R_reads' (Kd.R_after (ok := (fun _ => True)) (by (with_reducible repeat (first | apply Kd.R_alloc | apply Kd.R_drewN | apply Kd.R_drew)); exact HO116.out) hg hat)).2.2) KL32.out ((Kd.R_reads' (Kd.R_after (ok := (fun _ => True)) (by (with_reducible repeat (first | apply Kd.R_alloc | apply Kd.R_drewN | apply Kd.R_drew)); exact HO116.out) hg hat)).2.1)))
                            have n4_ := Aside0.mk (ho)
                            clear HO116
                            clear HB
                            clear HR126
                            clear HR140
                            clear HO122
                            have HO116 := n0_
                            have HB := n1_
                            have HR126 := n2_
                            have HR140 := n3_
                            have HO129 := n4_
                            clear n0_ n1_ n2_ n3_ n4_
                            clear ho hb hg hat
                            refine hK.out _ _ (HS0_) (fun hHeld => ?_)
                            clear hK K
                            refine norm_ (a' := ?_) ?_ ?_
                            rotate_left
                            · show Act.put _ (some 30) _ = _
                              simp only [Act.put, List.setIfInBounds_toArray, List.set_cons_zero, List.set_cons_succ, i64_w, i32_w]
                              rfl
                            refine one_ (i := 10) (N := some 35) #[true, true, true, true, true, true, true, true, true, true, true, false, true, true, true, true, false, false] rfl rfl (one_of HT_.out (by kernel_rfl)) (by decide) (fun K hK => ?_)
                            refine Kd.R_lit_step Kd.string _ 9 ?hg (N := 35) ?hd (xs := ([rdOf ByteArray.empty t114 t119] : List ByteArray)) (inner := [.string (rdOf ByteArray.empty t114 t119)]) (ok := fun _ => True) (okp := fun _ => True) ?hr ?hp (fun _ hk => hk) trivial (Below.refl _ _) (Nat.le_refl _) (by simp) ?_; (case hd => rfl); (case hg => rfl); (case hr => first | (go_simp; done) | (go_simp; rfl)); (case hp => exact (Reps.one (show Kd.M Kd.string _ _ _ (rdOf ByteArray.empty t114 t119) [.string (rdOf ByteArray.empty t114 t119)] from rfl) (Reps.none _ _)))
                            intro v132 w36 ho37 hb hg_ hnew_
                            have HS0_ := (hb.cell (World.block_lt_of_cell? _ _ (hHeld))).trans (hHeld)
                            clear hg_ hnew_
                            (first | rw [← Ny131.out] at ho37 | (simp only [Int.reduceToNat] at ho37; rw [← Ny131.out] at ho37))
                            have n0_ := Aside0.mk (Kd.R_elder' (by (with_reducible repeat (first | apply Kd.R_alloc | apply Kd.R_drewN | apply Kd.R_drew)); exact HO116.out) (Kd.R_base ho37) hb)
                            have n1_ := Aside0.mk (Kd.R_elder' (by (with_reducible repeat (first | apply Kd.R_alloc | apply Kd.R_drewN | apply Kd.R_drew)); exact HO129.out) (Kd.R_base ho37) hb)
                            have n2_ := Aside0.mk (Kd.R_lower (Kd.R_new' (Kd.R_new' ho37 (Kd.R_lt (by (with_reducible repeat (first | apply Kd.R_alloc | apply Kd.R_drewN | apply Kd.R_drew)); exact HO116.out))) (Kd.R_lt (by (with_reducible repeat (first | apply Kd.R_alloc | apply Kd.R_drewN | apply Kd.R_drew)); exact HO129.out))) (below_size (by repeat (first | (with_reducible first | exact HB.out | apply below_alloc | apply pw_below_drewN | apply below_drew1) | exact HB.out))))
                            have n3_ := Aside0.mk (Kd.C_below (by repeat (first | (with_reducible exact HR126.out) | (with_reducible refine Kd.C_alloc ?_ _) | (with_reducible refine Kd.C_drewN ?_ _) | (with_reducible refine Kd.C_drew ?_) | exact HR126.out)) hb)
                            have n4_ := Aside0.mk (Kd.C_below (by repeat (first | (with_reducible exact HR140.out) | (with_reducible refine Kd.C_alloc ?_ _) | (with_reducible refine Kd.C_drewN ?_ _) | (with_reducible refine Kd.C_drew ?_) | exact HR140.out)) hb)
                            have n5_ := Aside0.mk (below_step (by repeat (first | (with_reducible first | exact HB.out | apply below_alloc | apply pw_below_drewN | apply below_drew1) | exact HB.out)) hb)
                            clear HO116
                            clear HO129
                            clear HR126
                            clear HR140
                            clear HB
                            have HO116 := n0_
                            have HO129 := n1_
                            have HO133 := n2_
                            have HR126 := n3_
                            have HR140 := n4_
                            have HB := n5_
                            clear n0_ n1_ n2_ n3_ n4_ n5_
                            clear hb ho37
                            refine hK.out _ _ (HS0_) (fun hHeld => ?_)
                            clear hK K
                            refine norm_ (a' := ?_) ?_ ?_
                            rotate_left
                            · show Act.put _ (some 35) _ = _
                              simp only [Act.put, List.setIfInBounds_toArray, List.set_cons_zero, List.set_cons_succ, i64_w, i32_w]
                              rfl
                            exact norm_ (by simp only [putAll, Act.put, List.setIfInBounds_toArray, List.set_cons_zero, List.set_cons_succ]) (hCont (v121, v128, v132) _ ⟨hHeld, (by (with_reducible repeat (first | apply Kd.R_alloc | apply Kd.R_drewN | apply Kd.R_drew)); exact Kd.R_mono HO116.out (fun _ hk => ⟨hk.1.2, hk.2⟩)), (by (with_reducible repeat (first | apply Kd.R_alloc | apply Kd.R_drewN | apply Kd.R_drew)); exact HO129.out), (by (with_reducible repeat (first | apply Kd.R_alloc | apply Kd.R_drewN | apply Kd.R_drew)); exact Kd.R_mono HO133.out (fun _ hk => ⟨hk.1.2, hk.2⟩)), (by repeat (first | (with_reducible first | exact HB.out | apply below_alloc | apply pw_below_drewN | apply below_drew1) | exact HB.out))⟩)
                          · skip
                            refine Kd.R_lit_step Kd.string _ 9 ?hg (N := 35) ?hd (xs := ([rdOf ByteArray.empty t114 t119] : List ByteArray)) (inner := [.string (rdOf ByteArray.empty t114 t119)]) (ok := fun _ => True) (okp := fun _ => True) ?hr ?hp (fun _ hk => hk) trivial (Below.refl _ _) (Nat.le_refl _) (by simp) ?_; (case hd => rfl); (case hg => rfl); (case hr => first | (go_simp; done) | (go_simp; rfl)); (case hp => exact (Reps.one (show Kd.M Kd.string _ _ _ (rdOf ByteArray.empty t114 t119) [.string (rdOf ByteArray.empty t114 t119)] from rfl) (Reps.none _ _)))
                            intro v132 w35 ho36 hb hg_ hnew_
                            have HS0_ := (hb.cell (World.block_lt_of_cell? _ _ (hHeld))).trans (hHeld)
                            clear hg_ hnew_
                            (first | rw [← Ny131.out] at ho36 | (simp only [Int.reduceToNat] at ho36; rw [← Ny131.out] at ho36))
                            have n0_ := Aside0.mk (Kd.R_elder' (by (with_reducible repeat (first | apply Kd.R_alloc | apply Kd.R_drewN | apply Kd.R_drew)); exact HO116.out) (Kd.R_base ho36) hb)
                            have n1_ := Aside0.mk (Kd.R_elder' (by (with_reducible repeat (first | apply Kd.R_alloc | apply Kd.R_drewN | apply Kd.R_drew)); exact HO122.out) (Kd.R_base ho36) hb)
                            have n2_ := Aside0.mk (Kd.R_lower (Kd.R_new' (Kd.R_new' ho36 (Kd.R_lt (by (with_reducible repeat (first | apply Kd.R_alloc | apply Kd.R_drewN | apply Kd.R_drew)); exact HO116.out))) (Kd.R_lt (by (with_reducible repeat (first | apply Kd.R_alloc | apply Kd.R_drewN | apply Kd.R_drew)); exact HO122.out))) (below_size (by repeat (first | (with_reducible first | exact HB.out | apply below_alloc | apply pw_below_drewN | apply below_drew1) | exact HB.out))))
                            have n3_ := Aside0.mk (Kd.C_below (by repeat (first | (with_reducible exact HR126.out) | (with_reducible refine Kd.C_alloc ?_ _) | (with_reducible refine Kd.C_drewN ?_ _) | (with_reducible refine Kd.C_drew ?_) | exact HR126.out)) hb)
                            have n4_ := Aside0.mk (Kd.C_below (by repeat (first | (with_reducible exact HR140.out) | (with_reducible refine Kd.C_alloc ?_ _) | (with_reducible refine Kd.C_drewN ?_ _) | (with_reducible refine Kd.C_drew ?_) | exact HR140.out)) hb)
                            have n5_ := Aside0.mk (below_step (by repeat (first | (with_reducible first | exact HB.out | apply below_alloc | apply pw_below_drewN | apply below_drew1) | exact HB.out)) hb)
                            clear HO116
                            clear HO122
                            clear HR126
                            clear HR140
                            clear HB
                            have HO116 := n0_
                            have HO122 := n1_
                            have HO133 := n2_
                            have HR126 := n3_
                            have HR140 := n4_
                            have HB := n5_
                            clear n0_ n1_ n2_ n3_ n4_ n5_
                            clear hb ho36
                            refine hK.out _ _ (HS0_) (fun hHeld => ?_)
                            clear hK K
                            refine norm_ (a' := ?_) ?_ ?_
                            rotate_left
                            · show Act.put _ (some 35) _ = _
                              simp only [Act.put, List.setIfInBounds_toArray, List.set_cons_zero, List.set_cons_succ, i64_w, i32_w]
                              rfl
                            refine one_ (i := 5) (N := some 30) #[true, true, true, true, true, true, true, true, true, true, true, false, true, true, true, true, false, false] rfl rfl (one_of HT_.out (by kernel_rfl)) (by decide) (fun K hK => ?_)
                            refine Kd.R_append_rows_step Kd.string (w0 := w) w.heap.size (by rfl) (.tmp 25) (.tmp 29) 26 9 (.string ⟨#[]⟩) 16 rfl Try.underlying26 info9 rfl (by decide) (by omega) v121 y120 y123 _ _ _ (fun k_ => some k_ ≠ (.slice (some ad130) t114.length co28 : Value).ownBlock ∧ some k_ ≠ (v132 : Value).ownBlock) (fun _ => False) rfl rfl ?aO ?aR (fun _ _ h => h) (fun _ h => h.elim) ?aF ?aB ?aS ?aL ?_
                            (case aR => repeat (first | exact (by repeat (first | (with_reducible exact HR126.out) | (with_reducible refine Kd.C_alloc ?_ _) | (with_reducible refine Kd.C_drewN ?_ _) | (with_reducible refine Kd.C_drew ?_) | exact HR126.out)) | (with_reducible refine Kd.C_alloc ?_ _) | (with_reducible refine Kd.C_drewN ?_ _) | (with_reducible refine Kd.C_drew ?_)))
                            (case aB => exact (by repeat (first | (with_reducible first | exact HB.out | apply below_alloc | apply pw_below_drewN | apply below_drew1) | exact HB.out)))
                            (case aF => exact (fun k_ hk => ⟨Kd.fresh' (Kd.R_lt (by (with_reducible repeat (first | apply Kd.R_alloc | apply Kd.R_drewN | apply Kd.R_drew)); exact HO116.out)) k_ hk, Kd.fresh' (Kd.R_lt (by (with_reducible repeat (first | apply Kd.R_alloc | apply Kd.R_drewN | apply Kd.R_drew)); exact HO133.out)) k_ hk⟩))
                            (case aO => exact (by (with_reducible repeat (first | apply Kd.R_alloc | apply Kd.R_drewN | apply Kd.R_drew)); exact Kd.R_mono HO122.out (fun _ hk => ⟨hk.1.2, hk.2⟩)))
                            (case aS => exact (below_size (by repeat (first | (with_reducible first | exact HB.out | apply below_alloc | apply pw_below_drewN | apply below_drew1) | exact HB.out))))
                            (case aL => have := LMc19.out; omega)
                            intro v128 w37 ho hb hg hat
                            have HS0_ := cell_grown hg (hHeld) (by first | (rw [add_block]; first | exact (fun e_ => (HO122.out.1 _ e_.symm) rfl) | exact (fun e_ => (HO122.out.1 _ e_.symm).1 rfl) | exact (fun e_ => (HO122.out.1 _ e_.symm).2 rfl) | exact (fun e_ => (HO122.out.1 _ e_.symm).1.1 rfl) | exact (fun e_ => (HO122.out.1 _ e_.symm).1.2 rfl) | exact (fun e_ => (HO122.out.1 _ e_.symm).2.1 rfl) | exact (fun e_ => (HO122.out.1 _ e_.symm).2.2 rfl) | exact (fun e_ => (HO122.out.1 _ e_.symm).1.1.1 rfl) | exact (fun e_ => (HO122.out.1 _ e_.symm).1.1.2 rfl)) | (show some (Addr.add _ _).block ≠ _; rw [add_block]; first | exact (fun e_ => (HO122.out.1 _ e_.symm) rfl) | exact (fun e_ => (HO122.out.1 _ e_.symm).1 rfl) | exact (fun e_ => (HO122.out.1 _ e_.symm).2 rfl) | exact (fun e_ => (HO122.out.1 _ e_.symm).1.1 rfl) | exact (fun e_ => (HO122.out.1 _ e_.symm).1.2 rfl) | exact (fun e_ => (HO122.out.1 _ e_.symm).2.1 rfl) | exact (fun e_ => (HO122.out.1 _ e_.symm).2.2 rfl) | exact (fun e_ => (HO122.out.1 _ e_.symm).1.1.1 rfl) | exact (fun e_ => (HO122.out.1 _ e_.symm).1.1.2 rfl)) | exact (fun e_ => (HO122.out.1 _ e_.symm) rfl) | exact (fun e_ => (HO122.out.1 _ e_.symm).1 rfl) | exact (fun e_ => (HO122.out.1 _ e_.symm).2 rfl) | exact (fun e_ => (HO122.out.1 _ e_.symm).1.1 rfl) | exact (fun e_ => (HO122.out.1 _ e_.symm).1.2 rfl) | exact (fun e_ => (HO122.out.1 _ e_.symm).2.1 rfl) | exact (fun e_ => (HO122.out.1 _ e_.symm).2.2 rfl) | exact (fun e_ => (HO122.out.1 _ e_.symm).1.1.1 rfl) | exact (fun e_ => (HO122.out.1 _ e_.symm).1.1.2 rfl))
                            rw [← Ny127.out] at ho
                            have n0_ := Aside0.mk (Kd.R_after (ok := (fun k_ => some k_ ≠ (v132 : Value).ownBlock)) (by (with_reducible repeat (first | apply Kd.R_alloc | apply Kd.R_drewN | apply Kd.R_drew)); exact Kd.R_mono HO116.out (fun _ hk => ⟨hk.2, hk.1.2⟩)) hg hat)
                            have n1_ := Aside0.mk (Kd.R_after (ok := (fun k_ => some k_ ≠ (.slice (some ad130) t114.length co28 : Value).ownBlock)) (by (with_reducible repeat (first | apply Kd.R_alloc | apply Kd.R_drewN | apply Kd.R_drew)); exact Kd.R_mono HO133.out (fun _ hk => ⟨hk.1.2, hk.2⟩)) hg hat)
                            have n2_ := Aside0.mk (hb)
                            have n3_ := Aside0.mk ((show Kd.C Kd.string w37 (some ad130) y123.length y123 from by rw [Ny123.out]; exact Kd.C_take (m := ((ji16) : Int).toNat) ((Kd.R_reads' (Kd.R_after (ok := (fun k_ => some k_ ≠ (v132 : Value).ownBlock)) (by (with_reducible repeat (first | apply Kd.R_alloc | apply Kd.R_drewN | apply Kd.R_drew)); exact Kd.R_mono HO116.out (fun _ hk => ⟨hk.2, hk.1.2⟩)) hg hat)).2.2) KL31.out))
                            have n4_ := Aside0.mk ((show Kd.C Kd.string w37 A32 y137.length y137 from by rw [Ny137.out, KA32.out]; exact Kd.C_drop (m := ((ji16) : Int).toNat) (c := co28) ((Kd.R_reads' (Kd.R_after (ok := (fun k_ => some k_ ≠ (v132 : Value).ownBlock)) (by (with_reducible repeat (first | apply Kd.R_alloc | apply Kd.R_drewN | apply Kd.R_drew)); exact Kd.R_mono HO116.out (fun _ hk => ⟨hk.2, hk.1.2⟩)) hg hat)).2.2) KL32.out ((Kd.R_reads' (Kd.R_after (ok := (fun k_ => some k_ ≠ (v132 : Value).ownBlock)) (by (with_reducible repeat (first | apply Kd.R_alloc | apply Kd.R_drewN | apply Kd.R_drew)); exact Kd.R_mono HO116.out (fun _ hk => ⟨hk.2, hk.1.2⟩)) hg hat)).2.1)))
                            have n5_ := Aside0.mk (ho)
                            clear HO116
                            clear HO133
                            clear HB
                            clear HR126
                            clear HR140
                            clear HO122
                            have HO116 := n0_
                            have HO133 := n1_
                            have HB := n2_
                            have HR126 := n3_
                            have HR140 := n4_
                            have HO129 := n5_
                            clear n0_ n1_ n2_ n3_ n4_ n5_
                            clear ho hb hg hat
                            refine hK.out _ _ (HS0_) (fun hHeld => ?_)
                            clear hK K
                            refine norm_ (a' := ?_) ?_ ?_
                            rotate_left
                            · show Act.put _ (some 30) _ = _
                              simp only [Act.put, List.setIfInBounds_toArray, List.set_cons_zero, List.set_cons_succ, i64_w, i32_w]
                              rfl
                            exact norm_ (by simp only [putAll, Act.put, List.setIfInBounds_toArray, List.set_cons_zero, List.set_cons_succ]) (hCont (v121, v128, v132) _ ⟨hHeld, (by (with_reducible repeat (first | apply Kd.R_alloc | apply Kd.R_drewN | apply Kd.R_drew)); exact Kd.R_mono HO116.out (fun _ hk => ⟨hk.2, hk.1⟩)), (by (with_reducible repeat (first | apply Kd.R_alloc | apply Kd.R_drewN | apply Kd.R_drew)); exact HO129.out), (by (with_reducible repeat (first | apply Kd.R_alloc | apply Kd.R_drewN | apply Kd.R_drew)); exact HO133.out), (by repeat (first | (with_reducible first | exact HB.out | apply below_alloc | apply pw_below_drewN | apply below_drew1) | exact HB.out))⟩)
                        · skip
                          refine Kd.R_lit_step Kd.string _ 9 ?hg (N := 35) ?hd (xs := ([rdOf ByteArray.empty t114 t119] : List ByteArray)) (inner := [.string (rdOf ByteArray.empty t114 t119)]) (ok := fun _ => True) (okp := fun _ => True) ?hr ?hp (fun _ hk => hk) trivial (Below.refl _ _) (Nat.le_refl _) (by simp) ?_; (case hd => rfl); (case hg => rfl); (case hr => first | (go_simp; done) | (go_simp; rfl)); (case hp => exact (Reps.one (show Kd.M Kd.string _ _ _ (rdOf ByteArray.empty t114 t119) [.string (rdOf ByteArray.empty t114 t119)] from rfl) (Reps.none _ _)))
                          intro v132 w33 ho34 hb hg_ hnew_
                          have HS0_ := (hb.cell (World.block_lt_of_cell? _ _ (hHeld))).trans (hHeld)
                          clear hg_ hnew_
                          (first | rw [← Ny131.out] at ho34 | (simp only [Int.reduceToNat] at ho34; rw [← Ny131.out] at ho34))
                          have n0_ := Aside0.mk (Kd.R_elder' (by (with_reducible repeat (first | apply Kd.R_alloc | apply Kd.R_drewN | apply Kd.R_drew)); exact HO116.out) (Kd.R_base ho34) hb)
                          have n1_ := Aside0.mk (Kd.R_lower (Kd.R_new' ho34 (Kd.R_lt (by (with_reducible repeat (first | apply Kd.R_alloc | apply Kd.R_drewN | apply Kd.R_drew)); exact HO116.out))) (below_size (by repeat (first | (with_reducible first | exact HB.out | apply below_alloc | apply pw_below_drewN | apply below_drew1) | exact HB.out))))
                          have n2_ := Aside0.mk (Kd.C_below (by repeat (first | (with_reducible exact HR126.out) | (with_reducible refine Kd.C_alloc ?_ _) | (with_reducible refine Kd.C_drewN ?_ _) | (with_reducible refine Kd.C_drew ?_) | exact HR126.out)) hb)
                          have n3_ := Aside0.mk (Kd.C_below (by repeat (first | (with_reducible exact HR140.out) | (with_reducible refine Kd.C_alloc ?_ _) | (with_reducible refine Kd.C_drewN ?_ _) | (with_reducible refine Kd.C_drew ?_) | exact HR140.out)) hb)
                          have n4_ := Aside0.mk (below_step (by repeat (first | (with_reducible first | exact HB.out | apply below_alloc | apply pw_below_drewN | apply below_drew1) | exact HB.out)) hb)
                          clear HO116
                          clear HR126
                          clear HR140
                          clear HB
                          have HO116 := n0_
                          have HO133 := n1_
                          have HR126 := n2_
                          have HR140 := n3_
                          have HB := n4_
                          clear n0_ n1_ n2_ n3_ n4_
                          clear hb ho34
                          refine hK.out _ _ (HS0_) (fun hHeld => ?_)
                          clear hK K
                          refine norm_ (a' := ?_) ?_ ?_
                          rotate_left
                          · show Act.put _ (some 35) _ = _
                            simp only [Act.put, List.setIfInBounds_toArray, List.set_cons_zero, List.set_cons_succ, i64_w, i32_w]
                            rfl
                          refine one_ (i := 0) (N := some 25) #[true, true, true, true, true, false, true, true, true, true, true, false, true, true, true, true, false, false] rfl rfl (one_of HT_.out (by kernel_rfl)) (by decide) (fun K hK => ?_)
                          refine Kd.R_lit_step Kd.string _ 9 ?hg (N := 25) ?hd (xs := ([] : List ByteArray)) (inner := []) (ok := fun _ => True) (okp := fun _ => True) ?hr ?hp (fun _ hk => hk) trivial (Below.refl _ _) (Nat.le_refl _) (by simp) ?_; (case hd => rfl); (case hg => rfl); (case hr => first | (go_simp; done) | (go_simp; rfl)); (case hp => exact (Reps.none _ _))
                          intro v121 w35 ho36 hb hg_ hnew_
                          have HS0_ := (hb.cell (World.block_lt_of_cell? _ _ (hHeld))).trans (hHeld)
                          clear hg_ hnew_
                          (first | rw [← Ny120.out] at ho36 | (simp only [Int.reduceToNat] at ho36; rw [← Ny120.out] at ho36))
                          have n0_ := Aside0.mk (Kd.R_elder' (by (with_reducible repeat (first | apply Kd.R_alloc | apply Kd.R_drewN | apply Kd.R_drew)); exact HO116.out) (Kd.R_base ho36) hb)
                          have n1_ := Aside0.mk (Kd.R_elder' (by (with_reducible repeat (first | apply Kd.R_alloc | apply Kd.R_drewN | apply Kd.R_drew)); exact HO133.out) (Kd.R_base ho36) hb)
                          have n2_ := Aside0.mk (Kd.R_lower (Kd.R_new' (Kd.R_new' ho36 (Kd.R_lt (by (with_reducible repeat (first | apply Kd.R_alloc | apply Kd.R_drewN | apply Kd.R_drew)); exact HO116.out))) (Kd.R_lt (by (with_reducible repeat (first | apply Kd.R_alloc | apply Kd.R_drewN | apply Kd.R_drew)); exact HO133.out))) (below_size (by repeat (first | (with_reducible first | exact HB.out | apply below_alloc | apply pw_below_drewN | apply below_drew1) | exact HB.out))))
                          have n3_ := Aside0.mk (Kd.C_below (by repeat (first | (with_reducible exact HR126.out) | (with_reducible refine Kd.C_alloc ?_ _) | (with_reducible refine Kd.C_drewN ?_ _) | (with_reducible refine Kd.C_drew ?_) | exact HR126.out)) hb)
                          have n4_ := Aside0.mk (Kd.C_below (by repeat (first | (with_reducible exact HR140.out) | (with_reducible refine Kd.C_alloc ?_ _) | (with_reducible refine Kd.C_drewN ?_ _) | (with_reducible refine Kd.C_drew ?_) | exact HR140.out)) hb)
                          have n5_ := Aside0.mk (below_step (by repeat (first | (with_reducible first | exact HB.out | apply below_alloc | apply pw_below_drewN | apply below_drew1) | exact HB.out)) hb)
                          clear HO116
                          clear HO133
                          clear HR126
                          clear HR140
                          clear HB
                          have HO116 := n0_
                          have HO133 := n1_
                          have HO122 := n2_
                          have HR126 := n3_
                          have HR140 := n4_
                          have HB := n5_
                          clear n0_ n1_ n2_ n3_ n4_ n5_
                          clear hb ho36
                          refine hK.out _ _ (HS0_) (fun hHeld => ?_)
                          clear hK K
                          refine norm_ (a' := ?_) ?_ ?_
                          rotate_left
                          · show Act.put _ (some 25) _ = _
                            simp only [Act.put, List.setIfInBounds_toArray, List.set_cons_zero, List.set_cons_succ, i64_w, i32_w]
                            rfl
                          refine one_ (i := 5) (N := some 30) #[true, true, true, true, true, true, true, true, true, true, true, false, true, true, true, true, false, false] rfl rfl (one_of HT_.out (by kernel_rfl)) (by decide) (fun K hK => ?_)
                          refine Kd.R_append_rows_step Kd.string (w0 := w) w.heap.size (by rfl) (.tmp 25) (.tmp 29) 26 9 (.string ⟨#[]⟩) 16 rfl Try.underlying26 info9 rfl (by decide) (by omega) v121 y120 y123 _ _ _ (fun k_ => some k_ ≠ (.slice (some ad130) t114.length co28 : Value).ownBlock ∧ some k_ ≠ (v132 : Value).ownBlock) (fun _ => False) rfl rfl ?aO ?aR (fun _ _ h => h) (fun _ h => h.elim) ?aF ?aB ?aS ?aL ?_
                          (case aR => repeat (first | exact (by repeat (first | (with_reducible exact HR126.out) | (with_reducible refine Kd.C_alloc ?_ _) | (with_reducible refine Kd.C_drewN ?_ _) | (with_reducible refine Kd.C_drew ?_) | exact HR126.out)) | (with_reducible refine Kd.C_alloc ?_ _) | (with_reducible refine Kd.C_drewN ?_ _) | (with_reducible refine Kd.C_drew ?_)))
                          (case aB => exact (by repeat (first | (with_reducible first | exact HB.out | apply below_alloc | apply pw_below_drewN | apply below_drew1) | exact HB.out)))
                          (case aF => exact (fun k_ hk => ⟨Kd.fresh' (Kd.R_lt (by (with_reducible repeat (first | apply Kd.R_alloc | apply Kd.R_drewN | apply Kd.R_drew)); exact HO116.out)) k_ hk, Kd.fresh' (Kd.R_lt (by (with_reducible repeat (first | apply Kd.R_alloc | apply Kd.R_drewN | apply Kd.R_drew)); exact HO133.out)) k_ hk⟩))
                          (case aO => exact (by (with_reducible repeat (first | apply Kd.R_alloc | apply Kd.R_drewN | apply Kd.R_drew)); exact Kd.R_mono HO122.out (fun _ hk => ⟨hk.1.2, hk.2⟩)))
                          (case aS => exact (below_size (by repeat (first | (with_reducible first | exact HB.out | apply below_alloc | apply pw_below_drewN | apply below_drew1) | exact HB.out))))
                          (case aL => have := LMc19.out; omega)
                          intro v128 w37 ho hb hg hat
                          have HS0_ := cell_grown hg (hHeld) (by first | (rw [add_block]; first | exact (fun e_ => (HO122.out.1 _ e_.symm) rfl) | exact (fun e_ => (HO122.out.1 _ e_.symm).1 rfl) | exact (fun e_ => (HO122.out.1 _ e_.symm).2 rfl) | exact (fun e_ => (HO122.out.1 _ e_.symm).1.1 rfl) | exact (fun e_ => (HO122.out.1 _ e_.symm).1.2 rfl) | exact (fun e_ => (HO122.out.1 _ e_.symm).2.1 rfl) | exact (fun e_ => (HO122.out.1 _ e_.symm).2.2 rfl) | exact (fun e_ => (HO122.out.1 _ e_.symm).1.1.1 rfl) | exact (fun e_ => (HO122.out.1 _ e_.symm).1.1.2 rfl)) | (show some (Addr.add _ _).block ≠ _; rw [add_block]; first | exact (fun e_ => (HO122.out.1 _ e_.symm) rfl) | exact (fun e_ => (HO122.out.1 _ e_.symm).1 rfl) | exact (fun e_ => (HO122.out.1 _ e_.symm).2 rfl) | exact (fun e_ => (HO122.out.1 _ e_.symm).1.1 rfl) | exact (fun e_ => (HO122.out.1 _ e_.symm).1.2 rfl) | exact (fun e_ => (HO122.out.1 _ e_.symm).2.1 rfl) | exact (fun e_ => (HO122.out.1 _ e_.symm).2.2 rfl) | exact (fun e_ => (HO122.out.1 _ e_.symm).1.1.1 rfl) | exact (fun e_ => (HO122.out.1 _ e_.symm).1.1.2 rfl)) | exact (fun e_ => (HO122.out.1 _ e_.symm) rfl) | exact (fun e_ => (HO122.out.1 _ e_.symm).1 rfl) | exact (fun e_ => (HO122.out.1 _ e_.symm).2 rfl) | exact (fun e_ => (HO122.out.1 _ e_.symm).1.1 rfl) | exact (fun e_ => (HO122.out.1 _ e_.symm).1.2 rfl) | exact (fun e_ => (HO122.out.1 _ e_.symm).2.1 rfl) | exact (fun e_ => (HO122.out.1 _ e_.symm).2.2 rfl) | exact (fun e_ => (HO122.out.1 _ e_.symm).1.1.1 rfl) | exact (fun e_ => (HO122.out.1 _ e_.symm).1.1.2 rfl))
                          rw [← Ny127.out] at ho
                          have n0_ := Aside0.mk (Kd.R_after (ok := (fun k_ => some k_ ≠ (v132 : Value).ownBlock)) (by (with_reducible repeat (first | apply Kd.R_alloc | apply Kd.R_drewN | apply Kd.R_drew)); exact Kd.R_mono HO116.out (fun _ hk => ⟨hk.1.2, hk.2⟩)) hg hat)
                          have n1_ := Aside0.mk (Kd.R_after (ok := (fun k_ => some k_ ≠ (.slice (some ad130) t114.length co28 : Value).ownBlock)) (by (with_reducible repeat (first | apply Kd.R_alloc | apply Kd.R_drewN | apply Kd.R_drew)); exact Kd.R_mono HO133.out (fun _ hk => ⟨hk.1.2, hk.2⟩)) hg hat)
                          have n2_ := Aside0.mk (hb)
                          have n3_ := Aside0.mk ((show Kd.C Kd.string w37 (some ad130) y123.length y123 from by rw [Ny123.out]; exact Kd.C_take (m := ((ji16) : Int).toNat) ((Kd.R_reads' (Kd.R_after (ok := (fun k_ => some k_ ≠ (v132 : Value).ownBlock)) (by (with_reducible repeat (first | apply Kd.R_alloc | apply Kd.R_drewN | apply Kd.R_drew)); exact Kd.R_mono HO116.out (fun _ hk => ⟨hk.1.2, hk.2⟩)) hg hat)).2.2) KL31.out))
                          have n4_ := Aside0.mk ((show Kd.C Kd.string w37 A32 y137.length y137 from by rw [Ny137.out, KA32.out]; exact Kd.C_drop (m := ((ji16) : Int).toNat) (c := co28) ((Kd.R_reads' (Kd.R_after (ok := (fun k_ => some k_ ≠ (v132 : Value).ownBlock)) (by (with_reducible repeat (first | apply Kd.R_alloc | apply Kd.R_drewN | apply Kd.R_drew)); exact Kd.R_mono HO116.out (fun _ hk => ⟨hk.1.2, hk.2⟩)) hg hat)).2.2) KL32.out ((Kd.R_reads' (Kd.R_after (ok := (fun k_ => some k_ ≠ (v132 : Value).ownBlock)) (by (with_reducible repeat (first | apply Kd.R_alloc | apply Kd.R_drewN | apply Kd.R_drew)); exact Kd.R_mono HO116.out (fun _ hk => ⟨hk.1.2, hk.2⟩)) hg hat)).2.1)))
                          have n5_ := Aside0.mk (ho)
                          clear HO116
                          clear HO133
                          clear HB
                          clear HR126
                          clear HR140
                          clear HO122
                          have HO116 := n0_
                          have HO133 := n1_
                          have HB := n2_
                          have HR126 := n3_
                          have HR140 := n4_
                          have HO129 := n5_
                          clear n0_ n1_ n2_ n3_ n4_ n5_
                          clear ho hb hg hat
                          refine hK.out _ _ (HS0_) (fun hHeld => ?_)
                          clear hK K
                          refine norm_ (a' := ?_) ?_ ?_
                          rotate_left
                          · show Act.put _ (some 30) _ = _
                            simp only [Act.put, List.setIfInBounds_toArray, List.set_cons_zero, List.set_cons_succ, i64_w, i32_w]
                            rfl
                          exact norm_ (by simp only [putAll, Act.put, List.setIfInBounds_toArray, List.set_cons_zero, List.set_cons_succ]) (hCont (v121, v128, v132) _ ⟨hHeld, (by (with_reducible repeat (first | apply Kd.R_alloc | apply Kd.R_drewN | apply Kd.R_drew)); exact Kd.R_mono HO116.out (fun _ hk => ⟨hk.2, hk.1⟩)), (by (with_reducible repeat (first | apply Kd.R_alloc | apply Kd.R_drewN | apply Kd.R_drew)); exact HO129.out), (by (with_reducible repeat (first | apply Kd.R_alloc | apply Kd.R_drewN | apply Kd.R_drew)); exact HO133.out), (by repeat (first | (with_reducible first | exact HB.out | apply below_alloc | apply pw_below_drewN | apply below_drew1) | exact HB.out))⟩)
                      rintro ⟨v121, v128, v132⟩ w38 ⟨hS_, h0_, h1_, h2_, h3_⟩
                      have n0_ : Aside0 (Kd.R Kd.string 9 w38 w.heap.size (fun k_ => some k_ ≠ (v128 : Value).ownBlock ∧ some k_ ≠ (v132 : Value).ownBlock) (.slice (some ad130) t114.length co28) t114) := ⟨h0_⟩
                      have n1_ : Aside0 (Kd.R Kd.string 9 w38 w.heap.size (fun k_ => some k_ ≠ (.slice (some ad130) t114.length co28 : Value).ownBlock ∧ some k_ ≠ (v132 : Value).ownBlock) v128 y127) := ⟨h1_⟩
                      have n2_ : Aside0 (Kd.R Kd.string 9 w38 w.heap.size (fun k_ => some k_ ≠ (.slice (some ad130) t114.length co28 : Value).ownBlock ∧ some k_ ≠ (v128 : Value).ownBlock) v132 y131) := ⟨h2_⟩
                      have n3_ : Aside0 (Below w.heap.size w w38) := ⟨h3_⟩
                      clear HO116
                      clear HB
                      clear h0_ h1_ h2_ h3_
                      have HO116 := n0_
                      have HO129 := n1_
                      have HO133 := n2_
                      have HB := n3_
                      clear n0_ n1_ n2_ n3_
                      have hHeld : w38.cell? (ad130.add (t119).toNat) = some (.string (rdOf ByteArray.empty t114 t119)) := hS_
                      have n_ := Aside0.mk (show Kd.C Kd.string w38 (some ad130) y123.length y123 from by rw [Ny123.out]; exact Kd.C_take (m := ((ji16) : Int).toNat) ((Kd.R_reads' HO116.out).2.2) KL31.out)
                      clear HR126
                      have HR126 := n_
                      clear n_
                      have n_ := Aside0.mk (show Kd.C Kd.string w38 A32 y137.length y137 from by rw [Ny137.out, KA32.out]; exact Kd.C_drop (m := ((ji16) : Int).toNat) (c := co28) ((Kd.R_reads' HO116.out).2.2) KL32.out ((Kd.R_reads' HO116.out).2.1))
                      clear HR140
                      have HR140 := n_
                      clear n_
                      obtain ⟨Ao40, co40, eo40⟩ := Kd.R_slice HO133.out
                      (first | subst eo40 | (injection eo40 with f1_ f2_ f3_; have f4_ := f1_.symm; have f5_ := f3_.symm; clear f1_ f2_ f3_; subst f4_; subst f5_))
                      refine norm_ (a' := ?_) ?_ ?_
                      rotate_left
                      · simp only [putAll, Act.put, List.setIfInBounds_toArray, List.set_cons_zero, List.set_cons_succ]
                        rfl
                      refine one_ (i := 11) (N := some 36) #[true, true, true, true, true, true, true, true, true, true, true, true, true, true, true, true, false, false] rfl rfl (one_of HT_.out (by kernel_rfl)) (by decide) (fun K hK => ?_)
                      refine Kd.R_append_rows_step Kd.string (w0 := w) w.heap.size (by rfl) (.tmp 30) (.tmp 35) 26 9 (.string ⟨#[]⟩) 16 rfl Try.underlying26 info9 rfl (by decide) (by omega) v128 y127 y131 _ _ _ (fun k_ => some k_ ≠ (.slice (some ad130) t114.length co28 : Value).ownBlock ∧ some k_ ≠ (.slice Ao40 y131.length co40 : Value).ownBlock) (fun _ => False) rfl rfl ?aO ?aR (fun _ _ h => h) (fun _ h => h.elim) ?aF ?aB ?aS ?aL ?_
                      (case aR => repeat (first | exact (Kd.R_reads' HO133.out).2.2 | (with_reducible refine Kd.C_alloc ?_ _) | (with_reducible refine Kd.C_drewN ?_ _) | (with_reducible refine Kd.C_drew ?_)))
                      (case aB => exact (by repeat (first | (with_reducible first | exact HB.out | apply below_alloc | apply pw_below_drewN | apply below_drew1) | exact HB.out)))
                      (case aF => exact (fun k_ hk => ⟨Kd.fresh' (Kd.R_lt (by (with_reducible repeat (first | apply Kd.R_alloc | apply Kd.R_drewN | apply Kd.R_drew)); exact HO116.out)) k_ hk, Kd.fresh' (Kd.R_lt (by (with_reducible repeat (first | apply Kd.R_alloc | apply Kd.R_drewN | apply Kd.R_drew)); exact HO133.out)) k_ hk⟩))
                      (case aO => exact (by (with_reducible repeat (first | apply Kd.R_alloc | apply Kd.R_drewN | apply Kd.R_drew)); exact HO129.out))
                      (case aS => exact (below_size (by repeat (first | (with_reducible first | exact HB.out | apply below_alloc | apply pw_below_drewN | apply below_drew1) | exact HB.out))))
                      (case aL => have := LMc22.out; omega)
                      intro v135 w39 ho hb hg hat
                      have HS0_ := cell_grown hg (hHeld) (by first | (rw [add_block]; first | exact (fun e_ => (HO129.out.1 _ e_.symm) rfl) | exact (fun e_ => (HO129.out.1 _ e_.symm).1 rfl) | exact (fun e_ => (HO129.out.1 _ e_.symm).2 rfl) | exact (fun e_ => (HO129.out.1 _ e_.symm).1.1 rfl) | exact (fun e_ => (HO129.out.1 _ e_.symm).1.2 rfl) | exact (fun e_ => (HO129.out.1 _ e_.symm).2.1 rfl) | exact (fun e_ => (HO129.out.1 _ e_.symm).2.2 rfl) | exact (fun e_ => (HO129.out.1 _ e_.symm).1.1.1 rfl) | exact (fun e_ => (HO129.out.1 _ e_.symm).1.1.2 rfl)) | (show some (Addr.add _ _).block ≠ _; rw [add_block]; first | exact (fun e_ => (HO129.out.1 _ e_.symm) rfl) | exact (fun e_ => (HO129.out.1 _ e_.symm).1 rfl) | exact (fun e_ => (HO129.out.1 _ e_.symm).2 rfl) | exact (fun e_ => (HO129.out.1 _ e_.symm).1.1 rfl) | exact (fun e_ => (HO129.out.1 _ e_.symm).1.2 rfl) | exact (fun e_ => (HO129.out.1 _ e_.symm).2.1 rfl) | exact (fun e_ => (HO129.out.1 _ e_.symm).2.2 rfl) | exact (fun e_ => (HO129.out.1 _ e_.symm).1.1.1 rfl) | exact (fun e_ => (HO129.out.1 _ e_.symm).1.1.2 rfl)) | exact (fun e_ => (HO129.out.1 _ e_.symm) rfl) | exact (fun e_ => (HO129.out.1 _ e_.symm).1 rfl) | exact (fun e_ => (HO129.out.1 _ e_.symm).2 rfl) | exact (fun e_ => (HO129.out.1 _ e_.symm).1.1 rfl) | exact (fun e_ => (HO129.out.1 _ e_.symm).1.2 rfl) | exact (fun e_ => (HO129.out.1 _ e_.symm).2.1 rfl) | exact (fun e_ => (HO129.out.1 _ e_.symm).2.2 rfl) | exact (fun e_ => (HO129.out.1 _ e_.symm).1.1.1 rfl) | exact (fun e_ => (HO129.out.1 _ e_.symm).1.1.2 rfl))
                      rw [← Ny134.out] at ho
                      have n0_ := Aside0.mk (Kd.R_after (ok := (fun k_ => some k_ ≠ (.slice Ao40 y131.length co40 : Value).ownBlock)) (by (with_reducible repeat (first | apply Kd.R_alloc | apply Kd.R_drewN | apply Kd.R_drew)); exact Kd.R_mono HO116.out (fun _ hk => ⟨hk.2, hk.1⟩)) hg hat)
                      have n1_ := Aside0.mk (Kd.R_after (ok := (fun k_ => some k_ ≠ (.slice (some ad130) t114.length co28 : Value).ownBlock)) (by (with_reducible repeat (first | apply Kd.R_alloc | apply Kd.R_drewN | apply Kd.R_drew)); exact HO133.out) hg hat)
                      have n2_ := Aside0.mk (hb)
                      have n3_ := Aside0.mk ((show Kd.C Kd.string w39 (some ad130) y123.length y123 from by rw [Ny123.out]; exact Kd.C_take (m := ((ji16) : Int).toNat) ((Kd.R_reads' (Kd.R_after (ok := (fun k_ => some k_ ≠ (.slice Ao40 y131.length co40 : Value).ownBlock)) (by (with_reducible repeat (first | apply Kd.R_alloc | apply Kd.R_drewN | apply Kd.R_drew)); exact Kd.R_mono HO116.out (fun _ hk => ⟨hk.2, hk.1⟩)) hg hat)).2.2) KL31.out))
                      have n4_ := Aside0.mk ((show Kd.C Kd.string w39 A32 y137.length y137 from by rw [Ny137.out, KA32.out]; exact Kd.C_drop (m := ((ji16) : Int).toNat) (c := co28) ((Kd.R_reads' (Kd.R_after (ok := (fun k_ => some k_ ≠ (.slice Ao40 y131.length co40 : Value).ownBlock)) (by (with_reducible repeat (first | apply Kd.R_alloc | apply Kd.R_drewN | apply Kd.R_drew)); exact Kd.R_mono HO116.out (fun _ hk => ⟨hk.2, hk.1⟩)) hg hat)).2.2) KL32.out ((Kd.R_reads' (Kd.R_after (ok := (fun k_ => some k_ ≠ (.slice Ao40 y131.length co40 : Value).ownBlock)) (by (with_reducible repeat (first | apply Kd.R_alloc | apply Kd.R_drewN | apply Kd.R_drew)); exact Kd.R_mono HO116.out (fun _ hk => ⟨hk.2, hk.1⟩)) hg hat)).2.1)))
                      have n5_ := Aside0.mk (ho)
                      clear HO116
                      clear HO133
                      clear HB
                      clear HR126
                      clear HR140
                      clear HO129
                      have HO116 := n0_
                      have HO133 := n1_
                      have HB := n2_
                      have HR126 := n3_
                      have HR140 := n4_
                      have HO136 := n5_
                      clear n0_ n1_ n2_ n3_ n4_ n5_
                      clear ho hb hg hat
                      refine hK.out _ _ (HS0_) (fun hHeld => ?_)
                      clear hK K
                      refine norm_ (a' := ?_) ?_ ?_
                      rotate_left
                      · show Act.put _ (some 36) _ = _
                        simp only [Act.put, List.setIfInBounds_toArray, List.set_cons_zero, List.set_cons_succ, i64_w, i32_w]
                        rfl
                      refine one_ (i := 16) (N := some 41) #[true, true, true, true, true, true, true, true, true, true, true, true, true, true, true, true, true, false] rfl rfl (one_of HT_.out (by kernel_rfl)) (by decide) (fun K hK => ?_)
                      refine Kd.R_append_rows_step Kd.string (w0 := w) w.heap.size (by rfl) (.tmp 36) (.tmp 40) 26 9 (.string ⟨#[]⟩) 16 rfl Try.underlying26 info9 rfl (by decide) (by omega) v135 y134 y137 _ _ _ (fun k_ => some k_ ≠ (.slice (some ad130) t114.length co28 : Value).ownBlock ∧ some k_ ≠ (.slice Ao40 y131.length co40 : Value).ownBlock) (fun _ => False) rfl rfl ?aO ?aR (fun _ _ h => h) (fun _ h => h.elim) ?aF ?aB ?aS ?aL ?_
                      (case aR => repeat (first | exact (by repeat (first | (with_reducible exact HR140.out) | (with_reducible refine Kd.C_alloc ?_ _) | (with_reducible refine Kd.C_drewN ?_ _) | (with_reducible refine Kd.C_drew ?_) | exact HR140.out)) | (with_reducible refine Kd.C_alloc ?_ _) | (with_reducible refine Kd.C_drewN ?_ _) | (with_reducible refine Kd.C_drew ?_)))
                      (case aB => exact (by repeat (first | (with_reducible first | exact HB.out | apply below_alloc | apply pw_below_drewN | apply below_drew1) | exact HB.out)))
                      (case aF => exact (fun k_ hk => ⟨Kd.fresh' (Kd.R_lt (by (with_reducible repeat (first | apply Kd.R_alloc | apply Kd.R_drewN | apply Kd.R_drew)); exact HO116.out)) k_ hk, Kd.fresh' (Kd.R_lt (by (with_reducible repeat (first | apply Kd.R_alloc | apply Kd.R_drewN | apply Kd.R_drew)); exact HO133.out)) k_ hk⟩))
                      (case aO => exact (by (with_reducible repeat (first | apply Kd.R_alloc | apply Kd.R_drewN | apply Kd.R_drew)); exact HO136.out))
                      (case aS => exact (below_size (by repeat (first | (with_reducible first | exact HB.out | apply below_alloc | apply pw_below_drewN | apply below_drew1) | exact HB.out))))
                      (case aL => have := LMc25.out; omega)
                      intro v142 w41 ho hb hg hat
                      have HS0_ := cell_grown hg (hHeld) (by first | (rw [add_block]; first | exact (fun e_ => (HO136.out.1 _ e_.symm) rfl) | exact (fun e_ => (HO136.out.1 _ e_.symm).1 rfl) | exact (fun e_ => (HO136.out.1 _ e_.symm).2 rfl) | exact (fun e_ => (HO136.out.1 _ e_.symm).1.1 rfl) | exact (fun e_ => (HO136.out.1 _ e_.symm).1.2 rfl) | exact (fun e_ => (HO136.out.1 _ e_.symm).2.1 rfl) | exact (fun e_ => (HO136.out.1 _ e_.symm).2.2 rfl) | exact (fun e_ => (HO136.out.1 _ e_.symm).1.1.1 rfl) | exact (fun e_ => (HO136.out.1 _ e_.symm).1.1.2 rfl)) | (show some (Addr.add _ _).block ≠ _; rw [add_block]; first | exact (fun e_ => (HO136.out.1 _ e_.symm) rfl) | exact (fun e_ => (HO136.out.1 _ e_.symm).1 rfl) | exact (fun e_ => (HO136.out.1 _ e_.symm).2 rfl) | exact (fun e_ => (HO136.out.1 _ e_.symm).1.1 rfl) | exact (fun e_ => (HO136.out.1 _ e_.symm).1.2 rfl) | exact (fun e_ => (HO136.out.1 _ e_.symm).2.1 rfl) | exact (fun e_ => (HO136.out.1 _ e_.symm).2.2 rfl) | exact (fun e_ => (HO136.out.1 _ e_.symm).1.1.1 rfl) | exact (fun e_ => (HO136.out.1 _ e_.symm).1.1.2 rfl)) | exact (fun e_ => (HO136.out.1 _ e_.symm) rfl) | exact (fun e_ => (HO136.out.1 _ e_.symm).1 rfl) | exact (fun e_ => (HO136.out.1 _ e_.symm).2 rfl) | exact (fun e_ => (HO136.out.1 _ e_.symm).1.1 rfl) | exact (fun e_ => (HO136.out.1 _ e_.symm).1.2 rfl) | exact (fun e_ => (HO136.out.1 _ e_.symm).2.1 rfl) | exact (fun e_ => (HO136.out.1 _ e_.symm).2.2 rfl) | exact (fun e_ => (HO136.out.1 _ e_.symm).1.1.1 rfl) | exact (fun e_ => (HO136.out.1 _ e_.symm).1.1.2 rfl))
                      rw [← Ny141.out] at ho
                      have n0_ := Aside0.mk (Kd.R_after (ok := (fun k_ => some k_ ≠ (.slice Ao40 y131.length co40 : Value).ownBlock)) (by (with_reducible repeat (first | apply Kd.R_alloc | apply Kd.R_drewN | apply Kd.R_drew)); exact HO116.out) hg hat)
                      have n1_ := Aside0.mk (Kd.R_after (ok := (fun k_ => some k_ ≠ (.slice (some ad130) t114.length co28 : Value).ownBlock)) (by (with_reducible repeat (first | apply Kd.R_alloc | apply Kd.R_drewN | apply Kd.R_drew)); exact HO133.out) hg hat)
                      have n2_ := Aside0.mk (hb)
                      have n3_ := Aside0.mk ((show Kd.C Kd.string w41 (some ad130) y123.length y123 from by rw [Ny123.out]; exact Kd.C_take (m := ((ji16) : Int).toNat) ((Kd.R_reads' (Kd.R_after (ok := (fun k_ => some k_ ≠ (.slice Ao40 y131.length co40 : Value).ownBlock)) (by (with_reducible repeat (first | apply Kd.R_alloc | apply Kd.R_drewN | apply Kd.R_drew)); exact HO116.out) hg hat)).2.2) KL31.out))
                      have n4_ := Aside0.mk ((show Kd.C Kd.string w41 A32 y137.length y137 from by rw [Ny137.out, KA32.out]; exact Kd.C_drop (m := ((ji16) : Int).toNat) (c := co28) ((Kd.R_reads' (Kd.R_after (ok := (fun k_ => some k_ ≠ (.slice Ao40 y131.length co40 : Value).ownBlock)) (by (with_reducible repeat (first | apply Kd.R_alloc | apply Kd.R_drewN | apply Kd.R_drew)); exact HO116.out) hg hat)).2.2) KL32.out ((Kd.R_reads' (Kd.R_after (ok := (fun k_ => some k_ ≠ (.slice Ao40 y131.length co40 : Value).ownBlock)) (by (with_reducible repeat (first | apply Kd.R_alloc | apply Kd.R_drewN | apply Kd.R_drew)); exact HO116.out) hg hat)).2.1)))
                      have n5_ := Aside0.mk (ho)
                      clear HO116
                      clear HO133
                      clear HB
                      clear HR126
                      clear HR140
                      clear HO136
                      have HO116 := n0_
                      have HO133 := n1_
                      have HB := n2_
                      have HR126 := n3_
                      have HR140 := n4_
                      have HO143 := n5_
                      clear n0_ n1_ n2_ n3_ n4_ n5_
                      clear ho hb hg hat
                      refine hK.out _ _ (HS0_) (fun hHeld => ?_)
                      clear hK K
                      refine norm_ (a' := ?_) ?_ ?_
                      rotate_left
                      · show Act.put _ (some 41) _ = _
                        simp only [Act.put, List.setIfInBounds_toArray, List.set_cons_zero, List.set_cons_succ, i64_w, i32_w]
                        rfl
                      refine pure_ (i := 17) (N := some 7) (v := ?_) (a' := ?_) #[true, true, true, true, true, true, true, true, true, true, true, true, true, true, true, true, true, true] rfl rfl (any_of HT_.out (by kernel_rfl)) (fun _ _ _ h => h) (Or.inl ⟨by rfl, ?_⟩) ?_ ?_
                      rotate_left
                      · intro w'
                        go_simp
                        with_reducible rfl
                      rotate_left
                      · simp only [Act.put, List.setIfInBounds_toArray, List.set_cons_zero, List.set_cons_succ, i64_w, i32_w]
                        rfl
                      refine done_ (done_of HT_.out (by kernel_rfl)) ?_
                      try go_wp2
                      go_loopg [8, 9] k (fun kq v8 v9 w' => ∃ (x8_1 : List ByteArray) (x9_1 : Int), v9 = .int .i64 x9_1 ∧ Aside0 (joinerylaw2_MarkOrder.l0 kq t114 y141 x8_1 x9_1 = some r) ∧ Aside0 (kq ≤ k) ∧ Aside0 (Kd.R Kd.string 9 w' w.heap.size (fun k_ => some k_ ≠ (v142 : Value).ownBlock ∧ some k_ ≠ (v8 : Value).ownBlock) (.slice (some ad130) t114.length co28) t114) ∧ Aside0 (Kd.R Kd.string 9 w' w.heap.size (fun k_ => some k_ ≠ ((.slice (some ad130) t114.length co28) : Value).ownBlock ∧ some k_ ≠ (v8 : Value).ownBlock) v142 y141) ∧ Aside0 (Kd.R Kd.string 9 w' w.heap.size (fun k_ => some k_ ≠ ((.slice (some ad130) t114.length co28) : Value).ownBlock ∧ some k_ ≠ (v142 : Value).ownBlock) v8 x8_1) ∧ Aside0 (Below w.heap.size w w'))
                      case atStart => exact ⟨(([] : List ByteArray)), ((t114.length : Int)), (by first | rfl | (simp; done) | (simp [*]; done)), H', ⟨Nat.le_refl _⟩, ⟨by (with_reducible repeat (first | apply Kd.R_alloc | apply Kd.R_drewN | apply Kd.R_drew)); exact Kd.R_mono HO116.out (fun _ hk => ⟨hk.2, (by simp [Value.ownBlock])⟩)⟩, ⟨by (with_reducible repeat (first | apply Kd.R_alloc | apply Kd.R_drewN | apply Kd.R_drew)); exact Kd.R_mono HO143.out (fun _ hk => ⟨hk.1, (by simp [Value.ownBlock])⟩)⟩, ⟨by first | exact Kd.R_nil _ _ _ _ _ | exact Kd.N_nil _ _ _ _ _ | exact Kd.V_nil _ _ _ _ _ | exact Kd.Q_nil _ _ _ _ _ | exact Kd.S_nil _ _ _ _ _⟩, ⟨by repeat (first | (with_reducible first | exact HB.out | apply below_alloc | apply pw_below_drewN | apply below_drew1) | exact HB.out)⟩⟩
                      case round =>
                        clear H'
                        try clear c1
                        try clear p1
                        try clear q1
                        try clear hx1
                        try clear c2
                        try clear p2
                        try clear c3
                        try clear q3
                        try clear c11
                        try clear c13
                        try clear p13
                        try clear q13
                        try clear hx13
                        try clear c15
                        try clear c17
                        try clear c17b0
                        try clear c17b1
                        try clear c18
                        try clear c18b0
                        try clear c18b1
                        try clear c19
                        try clear c20
                        try clear c20b0
                        try clear c21
                        try clear c21b0
                        try clear c22
                        try clear c23
                        try clear c23b0
                        try clear c24
                        try clear c24b0
                        try clear c25
                        try clear q31
                        try clear c32
                        try clear q32
                        try clear hx130_0
                        try clear p130
                        try clear q032
                        try clear q130
                        try clear q31
                        try clear q32
                        obtain ⟨x8_1, x9_1, rfl, HA, HK1, HO_5, HO_7, HO_8, HB⟩ := hrel
                        cases gk with
                        | zero => exact absurd HA.out (by simp [joinerylaw2_MarkOrder.l0])
                        | succ k1 =>
                          have H := HA.out
                          clear HA
                          simp only [joinerylaw2_MarkOrder.l0] at H
                          by_cases c42 : x9_1 > 0
                          · rw [if_pos c42] at H
                            have c42b0 : decide (0 < x9_1) = true := decide_eq_true c42
                            clear c42
                            obtain ⟨ji43, hji43⟩ : ∃ j_ : Int, (wrap64 (x9_1 - 1)) = j_ := ⟨_, rfl⟩
                            replace H : (if 0 ≤ (ji43) then (if (ji43) < (t114.length : Int) then ((some (([rdOf ByteArray.empty t114 (ji43)] : List ByteArray) : List ByteArray)).bind fun y145 => (if x8_1.length + y145.length < 8796093022208 then (joinerylaw2_MarkOrder.l0 k1 t114 y141 (x8_1 ++ y145) ji43) else (none))) else (none)) else (none)) = some r := by first | (rw [hji43] at H; exact H) | (simp only [hji43] at H ⊢; exact H)
                            have hji43w : (IntKind.i64.wrap (x9_1 - 1)) = ji43 := (i64_w _).trans hji43
                            by_cases c44 : 0 ≤ (ji43)
                            · rw [if_pos c44] at H
                              have c44b0 : decide (0 ≤ (ji43)) = true := decide_eq_true c44
                              clear c44
                              by_cases c45 : (ji43) < (t114.length : Int)
                              · rw [if_pos c45] at H
                                have c45b0 : decide ((ji43) < (t114.length : Int)) = true := decide_eq_true c45
                                clear c45
                                obtain ⟨y145, hy145⟩ : ∃ y_ : List ByteArray, y_ = (([rdOf ByteArray.empty t114 (ji43)] : List ByteArray)) := ⟨_, rfl⟩
                                replace H : (if x8_1.length + y145.length < 8796093022208 then (joinerylaw2_MarkOrder.l0 k1 t114 y141 (x8_1 ++ y145) ji43) else (none)) = some r := by first | (rw [hy145]; with_reducible exact H) | (have H2_ := (Option.bind_some _ _).symm.trans H; rw [hy145]; with_reducible exact H2_) | (have H2_ := (Option.bind_some _ _).symm.trans H; with_reducible exact H2_) | with_reducible exact H | (rw [hy145]; exact H) | exact H
                                have Ny145 := Aside0.mk hy145
                                clear hy145
                                by_cases c46 : x8_1.length + y145.length < 8796093022208
                                · rw [if_pos c46] at H
                                  have LMc46 := Aside0.mk c46
                                  clear c46
                                  obtain ⟨y148, hy148⟩ : ∃ y_ : List ByteArray, y_ = (x8_1 ++ y145) := ⟨_, rfl⟩
                                  replace H : (joinerylaw2_MarkOrder.l0 k1 t114 y141 y148 ji43) = some r := by first | (rw [hy148]; with_reducible exact H) | (have H2_ := (Option.bind_some _ _).symm.trans H; rw [hy148]; with_reducible exact H2_) | (have H2_ := (Option.bind_some _ _).symm.trans H; with_reducible exact H2_) | with_reducible exact H | (rw [hy148]; exact H) | exact H
                                  have Ny148 := Aside0.mk hy148
                                  clear hy148
                                  have H' := Aside0.mk H
                                  clear H
                                  have p144 : 0 ≤ ((ji43) : Int) := of_decide_eq_true (by first | (with_reducible assumption) | assumption)
                                  have q144 : (ji43) < (t114.length : Int) := of_decide_eq_true (by first | (with_reducible assumption) | assumption)
                                  obtain ⟨ad144, e144, hx144_0⟩ := Kd.at_string (Kd.R_reads' HO_5.out).2.2 (ji43) p144 q144
                                  obtain rfl : ad130 = ad144 := (by injection e144)
                                  replace p144 := eq_true p144
                                  replace q144 := eq_true q144
                                  go_wp2_with (first | ((with_reducible refine gate_dst (N := 54) rfl ?_); (try (refine gate_guard (by rfl) ?_; dsimp only)); refine Kd.R_lit Kd.string _ 9 ?hg (N := 54) ?hd (xs := ([rdOf ByteArray.empty t114 (ji43)] : List ByteArray)) (inner := [.string (rdOf ByteArray.empty t114 (ji43))]) (ok := fun _ => True) (okp := fun _ => True) ?hr ?hp (fun _ hk => hk) trivial (Below.refl _ _) (Nat.le_refl _) (by simp) ?_; (case hd => rfl); (case hg => rfl); (case hr => first | (go_simp; done) | (go_simp; rfl)); (case hp => exact (Reps.one (show Kd.M Kd.string _ _ _ (rdOf ByteArray.empty t114 (ji43)) [.string (rdOf ByteArray.empty t114 (ji43))] from rfl) (Reps.none _ _))); intro v146 w47 ho48 hb hg_ hnew_; clear hg_ hnew_; (first | rw [← Ny145.out] at ho48 | (simp only [Int.reduceToNat] at ho48; rw [← Ny145.out] at ho48)); have n0_ := Aside0.mk (Kd.R_elder' (by (with_reducible repeat (first | apply Kd.R_alloc | apply Kd.R_drewN | apply Kd.R_drew)); exact HO_5.out) (Kd.R_base ho48) hb); have n1_ := Aside0.mk (Kd.R_elder' (by (with_reducible repeat (first | apply Kd.R_alloc | apply Kd.R_drewN | apply Kd.R_drew)); exact HO_7.out) (Kd.R_base ho48) hb); have n2_ := Aside0.mk (Kd.R_elder' (by (with_reducible repeat (first | apply Kd.R_alloc | apply Kd.R_drewN | apply Kd.R_drew)); exact HO_8.out) (Kd.R_base ho48) hb); have n3_ := Aside0.mk (Kd.R_lower (Kd.R_new' (Kd.R_new' (Kd.R_new' ho48 (Kd.R_lt (by (with_reducible repeat (first | apply Kd.R_alloc | apply Kd.R_drewN | apply Kd.R_drew)); exact HO_5.out))) (Kd.R_lt (by (with_reducible repeat (first | apply Kd.R_alloc | apply Kd.R_drewN | apply Kd.R_drew)); exact HO_7.out))) (Kd.R_lt (by (with_reducible repeat (first | apply Kd.R_alloc | apply Kd.R_drewN | apply Kd.R_drew)); exact HO_8.out))) (below_size (by repeat (first | (with_reducible first | exact HB.out | apply below_alloc | apply pw_below_drewN | apply below_drew1) | exact HB.out)))); have n4_ := Aside0.mk (below_step (by repeat (first | (with_reducible first | exact HB.out | apply below_alloc | apply pw_below_drewN | apply below_drew1) | exact HB.out)) hb); clear HO_5; clear HO_7; clear HO_8; clear HB; have HO_5 := n0_; have HO_7 := n1_; have HO_8 := n2_; have HO147 := n3_; have HB := n4_; clear n0_ n1_ n2_ n3_ n4_; clear hb ho48; obtain ⟨Ao50, co50, eo50⟩ := Kd.R_slice HO147.out; subst eo50) | ((with_reducible refine gate_builtin (b := .append) (xs := #[.tmp 48, .tmp 54]) rfl ?_); (try (refine gate_guard (by rfl) ?_; dsimp only)); at_builtin; refine Kd.R_append_rows Kd.string (w0 := w) w.heap.size rfl (.tmp 48) (.tmp 54) 26 9 (.string ⟨#[]⟩) 16 rfl Try.underlying26 info9 rfl (by decide) (by omega) u8 x8_1 y145 _ _ _ (fun k_ => some k_ ≠ (.slice (some ad130) t114.length co28 : Value).ownBlock ∧ some k_ ≠ (v142 : Value).ownBlock ∧ some k_ ≠ (.slice Ao50 y145.length co50 : Value).ownBlock) (fun _ => False) rfl rfl ?aO ?aR (fun _ _ h => h) (fun _ h => h.elim) ?aF ?aB ?aS ?aL ?_; (case aR => repeat (first | exact (Kd.R_reads' HO147.out).2.2 | (with_reducible refine Kd.C_alloc ?_ _) | (with_reducible refine Kd.C_drewN ?_ _) | (with_reducible refine Kd.C_drew ?_))); (case aB => exact (by repeat (first | (with_reducible first | exact HB.out | apply below_alloc | apply pw_below_drewN | apply below_drew1) | exact HB.out))); (case aF => exact (fun k_ hk => ⟨Kd.fresh' (Kd.R_lt (by (with_reducible repeat (first | apply Kd.R_alloc | apply Kd.R_drewN | apply Kd.R_drew)); exact HO_5.out)) k_ hk, Kd.fresh' (Kd.R_lt (by (with_reducible repeat (first | apply Kd.R_alloc | apply Kd.R_drewN | apply Kd.R_drew)); exact HO_7.out)) k_ hk, Kd.fresh' (Kd.R_lt (by (with_reducible repeat (first | apply Kd.R_alloc | apply Kd.R_drewN | apply Kd.R_drew)); exact HO147.out)) k_ hk⟩)); (case aO => exact (by (with_reducible repeat (first | apply Kd.R_alloc | apply Kd.R_drewN | apply Kd.R_drew)); exact Kd.R_mono HO_8.out (fun _ hk => ⟨hk.1.1, ⟨hk.1.2, hk.2⟩⟩))); (case aS => exact (below_size (by repeat (first | (with_reducible first | exact HB.out | apply below_alloc | apply pw_below_drewN | apply below_drew1) | exact HB.out)))); (case aL => have := LMc46.out; omega); intro v149 w49 ho hb hg hat; rw [← Ny148.out] at ho; have n0_ := Aside0.mk (Kd.R_after (ok := (fun k_ => some k_ ≠ (v142 : Value).ownBlock ∧ some k_ ≠ (.slice Ao50 y145.length co50 : Value).ownBlock)) (by (with_reducible repeat (first | apply Kd.R_alloc | apply Kd.R_drewN | apply Kd.R_drew)); exact Kd.R_mono HO_5.out (fun _ hk => ⟨⟨hk.1.1, hk.2⟩, hk.1.2⟩)) hg hat); have n1_ := Aside0.mk (Kd.R_after (ok := (fun k_ => some k_ ≠ (.slice (some ad130) t114.length co28 : Value).ownBlock ∧ some k_ ≠ (.slice Ao50 y145.length co50 : Value).ownBlock)) (by (with_reducible repeat (first | apply Kd.R_alloc | apply Kd.R_drewN | apply Kd.R_drew)); exact Kd.R_mono HO_7.out (fun _ hk => ⟨⟨hk.1.1, hk.2⟩, hk.1.2⟩)) hg hat); have n2_ := Aside0.mk (Kd.R_after (ok := (fun k_ => some k_ ≠ (.slice (some ad130) t114.length co28 : Value).ownBlock ∧ some k_ ≠ (v142 : Value).ownBlock)) (by (with_reducible repeat (first | apply Kd.R_alloc | apply Kd.R_drewN | apply Kd.R_drew)); exact Kd.R_mono HO147.out (fun _ hk => ⟨⟨hk.1.1.2, hk.1.2⟩, hk.2⟩)) hg hat); have n3_ := Aside0.mk (hb); have n4_ := Aside0.mk (ho); clear HO_5; clear HO_7; clear HO147; clear HB; clear HO_8; have HO_5 := n0_; have HO_7 := n1_; have HO147 := n2_; have HB := n3_; have HO150 := n4_; clear n0_ n1_ n2_ n3_ n4_; clear ho hb hg hat))
                                  go_roundg k1
                                  case measure => have := HK1.out; omega
                                  case rel => exact ⟨(y148), (ji43), (by first | rfl | (simp; done) | (simp only [← hji43] <;> (first | rfl | simp)) | (simp [*]; done)), H', ⟨by have := HK1.out; omega⟩, ⟨by (with_reducible repeat (first | apply Kd.R_alloc | apply Kd.R_drewN | apply Kd.R_drew)); exact Kd.R_mono HO_5.out (fun _ hk => ⟨hk.1.1, hk.2⟩)⟩, ⟨by (with_reducible repeat (first | apply Kd.R_alloc | apply Kd.R_drewN | apply Kd.R_drew)); exact Kd.R_mono HO_7.out (fun _ hk => ⟨hk.1.1, hk.2⟩)⟩, ⟨by (with_reducible repeat (first | apply Kd.R_alloc | apply Kd.R_drewN | apply Kd.R_drew)); exact Kd.R_mono HO150.out (fun _ hk => ⟨hk.1, hk.2.1⟩)⟩, ⟨by repeat (first | (with_reducible first | exact HB.out | apply below_alloc | apply pw_below_drewN | apply below_drew1) | exact HB.out)⟩⟩
                                · rw [if_neg c46] at H
                                  exact absurd H (by simp)
                              · rw [if_neg c45] at H
                                exact absurd H (by simp)
                            · rw [if_neg c44] at H
                              exact absurd H (by simp)
                          · rw [if_neg c42] at H
                            have c42b0 : decide (0 < x9_1) = false := decide_eq_false c42
                            clear c42
                            replace H := Option.bind_eq_some_iff.mp H
                            obtain ⟨t151, A510, H⟩ := H
                            replace H : (if t151 = true then (some false) else ((mark_Set.f x8_1).bind fun t152 => (if (t152 == ((t114.length : Int) == 1)) = true then ((mark_All.f x8_1 t114).bind fun t153 => (if t153 = true then ((mark_All.f t114 x8_1).bind fun t154 => (if t154 = true then ((mark_All.f y141 t114).bind fun t155 => (some t155)) else (some false))) else (some false))) else (some false)))) = some r := H
                            have A51 := Aside0.mk A510
                            clear A510
                            by_cases c52 : t151 = true
                            · subst c52
                              have H1 : (some false) = some r := by rw [if_pos rfl] at H; exact H
                              clear H
                              have H := H1
                              clear H1
                              obtain rfl := Option.some.inj H
                              exact absurd hT_.out (by simp)
                            · replace c52 := Bool.eq_false_iff.mpr c52
                              subst c52
                              have H1 : ((mark_Set.f x8_1).bind fun t152 => (if (t152 == ((t114.length : Int) == 1)) = true then ((mark_All.f x8_1 t114).bind fun t153 => (if t153 = true then ((mark_All.f t114 x8_1).bind fun t154 => (if t154 = true then ((mark_All.f y141 t114).bind fun t155 => (some t155)) else (some false))) else (some false))) else (some false))) = some r := by rw [if_neg (show ¬ (false = true) by decide)] at H; exact H
                              clear H
                              have H := H1
                              clear H1
                              replace H := Option.bind_eq_some_iff.mp H
                              obtain ⟨t152, A530, H⟩ := H
                              replace H : (if (t152 == ((t114.length : Int) == 1)) = true then ((mark_All.f x8_1 t114).bind fun t153 => (if t153 = true then ((mark_All.f t114 x8_1).bind fun t154 => (if t154 = true then ((mark_All.f y141 t114).bind fun t155 => (some t155)) else (some false))) else (some false))) else (some false)) = some r := H
                              have A53 := Aside0.mk A530
                              clear A530
                              by_cases c54 : (t152 == ((t114.length : Int) == 1)) = true
                              · rw [if_pos c54] at H
                                have c54b0 : (t152 == ((t114.length : Int) == 1)) = true := c54
                                (try (have c54b1 : decide (t152 = ((t114.length : Int) == 1)) = true := by simpa using c54))
                                (try (have c54b2 : (t152 == ((t114.length : Int) == 1)) = true := by simpa using c54))
                                clear c54
                                replace H := Option.bind_eq_some_iff.mp H
                                obtain ⟨t153, A550, H⟩ := H
                                replace H : (if t153 = true then ((mark_All.f t114 x8_1).bind fun t154 => (if t154 = true then ((mark_All.f y141 t114).bind fun t155 => (some t155)) else (some false))) else (some false)) = some r := H
                                have A55 := Aside0.mk A550
                                clear A550
                                by_cases c56 : t153 = true
                                · subst c56
                                  have H1 : ((mark_All.f t114 x8_1).bind fun t154 => (if t154 = true then ((mark_All.f y141 t114).bind fun t155 => (some t155)) else (some false))) = some r := by rw [if_pos rfl] at H; exact H
                                  clear H
                                  have H := H1
                                  clear H1
                                  replace H := Option.bind_eq_some_iff.mp H
                                  obtain ⟨t154, A570, H⟩ := H
                                  replace H : (if t154 = true then ((mark_All.f y141 t114).bind fun t155 => (some t155)) else (some false)) = some r := H
                                  have A57 := Aside0.mk A570
                                  clear A570
                                  by_cases c58 : t154 = true
                                  · subst c58
                                    have H1 : ((mark_All.f y141 t114).bind fun t155 => (some t155)) = some r := by rw [if_pos rfl] at H; exact H
                                    clear H
                                    have H := H1
                                    clear H1
                                    replace H := Option.bind_eq_some_iff.mp H
                                    obtain ⟨t155, A590, H⟩ := H
                                    replace H : (some t155) = some r := H
                                    have A59 := Aside0.mk A590
                                    clear A590
                                    obtain rfl := Option.some.inj H
                                    obtain ⟨Ao60, co60, eo60⟩ := Kd.R_slice HO_7.out
                                    subst eo60
                                    go_wp2_with (first | ((with_reducible refine gate_callee (f := 23) rfl ?_); refine goesL_ (some 57) rfl rfl Try.func23 (by kernel_rfl) rfl #[.slice Ao60 y141.length co60] rfl (by (try simp only [List.map_toArray, List.map_cons, List.map_nil]); first | done | rfl | (simp only [List.length_drop, List.length_take]; rfl)) ?_; (with_reducible refine (mark_Set.calls _ _ y141 false _ ?side1 ?side2 A51.out).mono ?_); (case side1 => repeat (first | exact (Kd.R_reads' HO_7.out).2.2 | (with_reducible refine Kd.C_alloc ?_ _) | (with_reducible refine Kd.C_drewN ?_ _) | (with_reducible refine Kd.C_drew ?_))); (case side2 => exact (Kd.R_reads' HO_7.out).2.1); rintro e w61 ⟨rfl, hb⟩; refine ⟨_, rfl, ?_⟩; have n0_ := Aside0.mk (Kd.R_below (by (with_reducible repeat (first | apply Kd.R_alloc | apply Kd.R_drewN | apply Kd.R_drew)); exact HO_5.out) hb); have n1_ := Aside0.mk (Kd.R_below (by (with_reducible repeat (first | apply Kd.R_alloc | apply Kd.R_drewN | apply Kd.R_drew)); exact HO_7.out) hb); have n2_ := Aside0.mk (Kd.R_below (by (with_reducible repeat (first | apply Kd.R_alloc | apply Kd.R_drewN | apply Kd.R_drew)); exact HO_8.out) hb); have n3_ := Aside0.mk (below_step (by repeat (first | (with_reducible first | exact HB.out | apply below_alloc | apply pw_below_drewN | apply below_drew1) | exact HB.out)) hb); clear HO_5; clear HO_7; clear HO_8; clear HB; have HO_5 := n0_; have HO_7 := n1_; have HO_8 := n2_; have HB := n3_; clear n0_ n1_ n2_ n3_; (try clear hb); (try clear hb2); (try clear hk); (try clear hi); obtain ⟨Ao62, co62, eo62⟩ := Kd.R_slice HO_8.out; subst eo62) | (go_at_call 23; (with_reducible refine (mark_Set.calls _ _ x8_1 t152 _ ?side1 ?side2 A53.out).mono ?_); (case side1 => repeat (first | exact (Kd.R_reads' HO_8.out).2.2 | (with_reducible refine Kd.C_alloc ?_ _) | (with_reducible refine Kd.C_drewN ?_ _) | (with_reducible refine Kd.C_drew ?_))); (case side2 => exact (Kd.R_reads' HO_8.out).2.1); rintro e w63 ⟨rfl, hb⟩; have n0_ := Aside0.mk (Kd.R_below (by (with_reducible repeat (first | apply Kd.R_alloc | apply Kd.R_drewN | apply Kd.R_drew)); exact HO_5.out) hb); have n1_ := Aside0.mk (Kd.R_below (by (with_reducible repeat (first | apply Kd.R_alloc | apply Kd.R_drewN | apply Kd.R_drew)); exact HO_7.out) hb); have n2_ := Aside0.mk (Kd.R_below (by (with_reducible repeat (first | apply Kd.R_alloc | apply Kd.R_drewN | apply Kd.R_drew)); exact HO_8.out) hb); have n3_ := Aside0.mk (below_step (by repeat (first | (with_reducible first | exact HB.out | apply below_alloc | apply pw_below_drewN | apply below_drew1) | exact HB.out)) hb); clear HO_5; clear HO_7; clear HO_8; clear HB; have HO_5 := n0_; have HO_7 := n1_; have HO_8 := n2_; have HB := n3_; clear n0_ n1_ n2_ n3_; (try clear hb); (try clear hb2); (try clear hk); (try clear hi)) | (go_at_call 22; (with_reducible refine (mark_All.calls _ _ x8_1 _ _ t114 true _ ?side1 ?side2 ?side3 ?side4 A55.out).mono ?_); (case side1 => repeat (first | exact (Kd.R_reads' HO_8.out).2.2 | (with_reducible refine Kd.C_alloc ?_ _) | (with_reducible refine Kd.C_drewN ?_ _) | (with_reducible refine Kd.C_drew ?_))); (case side2 => exact (Kd.R_reads' HO_8.out).2.1); (case side3 => repeat (first | exact (Kd.R_reads' HO_5.out).2.2 | (with_reducible refine Kd.C_alloc ?_ _) | (with_reducible refine Kd.C_drewN ?_ _) | (with_reducible refine Kd.C_drew ?_))); (case side4 => exact (Kd.R_reads' HO_5.out).2.1); rintro e w64 ⟨rfl, hb⟩; have n0_ := Aside0.mk (Kd.R_below (by (with_reducible repeat (first | apply Kd.R_alloc | apply Kd.R_drewN | apply Kd.R_drew)); exact HO_5.out) hb); have n1_ := Aside0.mk (Kd.R_below (by (with_reducible repeat (first | apply Kd.R_alloc | apply Kd.R_drewN | apply Kd.R_drew)); exact HO_7.out) hb); have n2_ := Aside0.mk (Kd.R_below (by (with_reducible repeat (first | apply Kd.R_alloc | apply Kd.R_drewN | apply Kd.R_drew)); exact HO_8.out) hb); have n3_ := Aside0.mk (below_step (by repeat (first | (with_reducible first | exact HB.out | apply below_alloc | apply pw_below_drewN | apply below_drew1) | exact HB.out)) hb); clear HO_5; clear HO_7; clear HO_8; clear HB; have HO_5 := n0_; have HO_7 := n1_; have HO_8 := n2_; have HB := n3_; clear n0_ n1_ n2_ n3_; (try clear hb); (try clear hb2); (try clear hk); (try clear hi)) | (go_at_call 22; (with_reducible refine (mark_All.calls _ _ t114 _ _ x8_1 true _ ?side1 ?side2 ?side3 ?side4 A57.out).mono ?_); (case side1 => repeat (first | exact (Kd.R_reads' HO_5.out).2.2 | (with_reducible refine Kd.C_alloc ?_ _) | (with_reducible refine Kd.C_drewN ?_ _) | (with_reducible refine Kd.C_drew ?_))); (case side2 => exact (Kd.R_reads' HO_5.out).2.1); (case side3 => repeat (first | exact (Kd.R_reads' HO_8.out).2.2 | (with_reducible refine Kd.C_alloc ?_ _) | (with_reducible refine Kd.C_drewN ?_ _) | (with_reducible refine Kd.C_drew ?_))); (case side4 => exact (Kd.R_reads' HO_8.out).2.1); rintro e w65 ⟨rfl, hb⟩; have n0_ := Aside0.mk (Kd.R_below (by (with_reducible repeat (first | apply Kd.R_alloc | apply Kd.R_drewN | apply Kd.R_drew)); exact HO_5.out) hb); have n1_ := Aside0.mk (Kd.R_below (by (with_reducible repeat (first | apply Kd.R_alloc | apply Kd.R_drewN | apply Kd.R_drew)); exact HO_7.out) hb); have n2_ := Aside0.mk (Kd.R_below (by (with_reducible repeat (first | apply Kd.R_alloc | apply Kd.R_drewN | apply Kd.R_drew)); exact HO_8.out) hb); have n3_ := Aside0.mk (below_step (by repeat (first | (with_reducible first | exact HB.out | apply below_alloc | apply pw_below_drewN | apply below_drew1) | exact HB.out)) hb); clear HO_5; clear HO_7; clear HO_8; clear HB; have HO_5 := n0_; have HO_7 := n1_; have HO_8 := n2_; have HB := n3_; clear n0_ n1_ n2_ n3_; (try clear hb); (try clear hb2); (try clear hk); (try clear hi)) | (go_at_call 22; (with_reducible refine (mark_All.calls _ _ y141 _ _ t114 t155 _ ?side1 ?side2 ?side3 ?side4 A59.out).mono ?_); (case side1 => repeat (first | exact (Kd.R_reads' HO_7.out).2.2 | (with_reducible refine Kd.C_alloc ?_ _) | (with_reducible refine Kd.C_drewN ?_ _) | (with_reducible refine Kd.C_drew ?_))); (case side2 => exact (Kd.R_reads' HO_7.out).2.1); (case side3 => repeat (first | exact (Kd.R_reads' HO_5.out).2.2 | (with_reducible refine Kd.C_alloc ?_ _) | (with_reducible refine Kd.C_drewN ?_ _) | (with_reducible refine Kd.C_drew ?_))); (case side4 => exact (Kd.R_reads' HO_5.out).2.1); rintro e w66 ⟨rfl, hb⟩; have n0_ := Aside0.mk (Kd.R_below (by (with_reducible repeat (first | apply Kd.R_alloc | apply Kd.R_drewN | apply Kd.R_drew)); exact HO_5.out) hb); have n1_ := Aside0.mk (Kd.R_below (by (with_reducible repeat (first | apply Kd.R_alloc | apply Kd.R_drewN | apply Kd.R_drew)); exact HO_7.out) hb); have n2_ := Aside0.mk (Kd.R_below (by (with_reducible repeat (first | apply Kd.R_alloc | apply Kd.R_drewN | apply Kd.R_drew)); exact HO_8.out) hb); have n3_ := Aside0.mk (below_step (by repeat (first | (with_reducible first | exact HB.out | apply below_alloc | apply pw_below_drewN | apply below_drew1) | exact HB.out)) hb); clear HO_5; clear HO_7; clear HO_8; clear HB; have HO_5 := n0_; have HO_7 := n1_; have HO_8 := n2_; have HB := n3_; clear n0_ n1_ n2_ n3_; (try clear hb); (try clear hb2); (try clear hk); (try clear hi)))
                                    go_ret
                                    exact ⟨by first | rfl | (simp [errW_none, errW_some] <;> rfl) | (simp only [← hji16]; first | rfl | (simp [errW_none, errW_some] <;> rfl)) | (simp [*, errW_none, errW_some] <;> rfl), by repeat (first | (with_reducible first | exact HB.out | apply below_alloc | apply pw_below_drewN | apply below_drew1) | exact HB.out)⟩
                                  · replace c58 := Bool.eq_false_iff.mpr c58
                                    subst c58
                                    have H1 : (some false) = some r := by rw [if_neg (show ¬ (false = true) by decide)] at H; exact H
                                    clear H
                                    have H := H1
                                    clear H1
                                    obtain rfl := Option.some.inj H
                                    exact absurd hT_.out (by simp)
                                · replace c56 := Bool.eq_false_iff.mpr c56
                                  subst c56
                                  have H1 : (some false) = some r := by rw [if_neg (show ¬ (false = true) by decide)] at H; exact H
                                  clear H
                                  have H := H1
                                  clear H1
                                  obtain rfl := Option.some.inj H
                                  exact absurd hT_.out (by simp)
                              · rw [if_neg c54] at H
                                have c54b0 : (t152 == ((t114.length : Int) == 1)) = false := by simpa using c54
                                (try (have c54b1 : decide (t152 = ((t114.length : Int) == 1)) = false := by simpa using c54))
                                (try (have c54b2 : (t152 == ((t114.length : Int) == 1)) = false := by simpa using c54))
                                (try (have c54b3 : ¬ (t152 = ((t114.length : Int) == 1)) := by simpa using c54))
                                clear c54
                                obtain rfl := Option.some.inj H
                                exact absurd hT_.out (by simp)
                    · rw [if_neg c25] at H
                      exact absurd H (by simp)
                  · rw [if_neg c22] at H
                    exact absurd H (by simp)
                · rw [if_neg c21] at H
                  exact absurd H (by simp)
              · rw [if_neg c20] at H
                exact absurd H (by simp)
            · rw [if_neg c19] at H
              exact absurd H (by simp)
          · rw [if_neg c18] at H
            exact absurd H (by simp)
        · rw [if_neg c17] at H
          exact absurd H (by simp)
    · replace c7 := Bool.eq_false_iff.mpr c7
      subst c7
      have H1 : (some false) = some r := by rw [if_neg (show ¬ (false = true) by decide)] at H; exact H
      clear H
      have H := H1
      clear H1
      obtain rfl := Option.some.inj H
      exact absurd hT_.out (by simp)
  · replace c4 := Bool.eq_false_iff.mpr c4
    subst c4
    have H1 : (some false) = some r := by rw [if_neg (show ¬ (false = true) by decide)] at H; exact H
    clear H
    have H := H1
    clear H1
    obtain rfl := Option.some.inj H
    exact absurd hT_.out (by simp)

/-- THE ONE PURE STATEMENT of joinerylaw2_MarkOrder: yours. -/
def joinerylaw2_MarkOrder.Pure : Prop := ∀ (a0 : Int) (a1 : Int), (Lit.int .i64 a0).wf = true → (Lit.int .i64 a1).wf = true → ∃ k, joinerylaw2_MarkOrder.f k a0 a1 = some true
theorem joinerylaw2_MarkOrder.walk (P : joinerylaw2_MarkOrder.Pure) (a0 : Int) (a1 : Int) (w : World) (w0 : (Lit.int .i64 a0).wf = true) (w1 : (Lit.int .i64 a1).wf = true) :
    Calls Try.prog 11 #[.int .i64 a0, .int .i64 a1] w fun e w' => e = .returned (.bool true) ∧ Below w.heap.size w w' := by
  obtain ⟨k, h⟩ := P a0 a1 w0 w1
  refine (joinerylaw2_MarkOrder.calls k a0 a1 true w ⟨rfl⟩ h).mono ?_
  rintro e w' ⟨rfl, hd⟩
  exact ⟨rfl, hd⟩

end Go.Proofs.Ytocndmgimcmfaaa.O
