-- Printed by wip/tools/gprint.py (the kit's print, hand-proved contracts laid in): functions of the program as Lean functions, each with the proof that the machine's call comes to its answer.
import Derived.Test.YtoijbokiechibaaPx0
import Derived.Test.YtoijbokiechibaaPx1
namespace Go.Proofs.Ytoijbokiechibaa.P
open Go.RowKit Go.Proofs.Ytoijbokiechibaa.Base Go.Proofs.YtoijbokiechibaaW.PrintWords Go.Proofs.YtoijbokiechibaaW.PrintLast Go.Proofs.YtoijbokiechibaaW.PrintMore
attribute [local go_sem] max2_int min2_int max_two min_two max_three min_three max_four min_four   -- for this text's walks alone
set_option linter.unusedVariables false
set_option linter.unusedSimpArgs false

attribute [local go_sem high] eqA25
-- NOT PRINTED: function 22 (vec_parts)

-- NOT PRINTED: function 23 (vec_lesser)

-- function 13 (vec_Fits): its contract is proved by hand

/-! ### vec_Right: function 20 -/
def vec_Right.f (a0_0 : Int) (a0_1 : Int) : Option (Bool) := some (a0_0 == (mx a0_0 0) && (a0_1 == (mx a0_1 0)))
set_option maxHeartbeats 8000000 in
set_option maxRecDepth 100000 in
theorem vec_Right.calls (a0_0 : Int) (a0_1 : Int) (r : Bool) (w : World) (h : vec_Right.f a0_0 a0_1 = some r) :
    Calls Try.prog 20 #[.agg #[.int .i64 a0_0, .int .i64 a0_1]] w fun e w' => e = .returned (.bool r) ∧ Below w.heap.size w w' := by
  have hu25 := Try.underlying25
  have HB := Aside0.mk (Below.refl w.heap.size w)
  have H : (some (a0_0 == (mx a0_0 0) && (a0_1 == (mx a0_1 0)))) = some r := h
  clear h
  obtain ⟨ji2, hji2⟩ : ∃ j_ : Int, (mx a0_0 0) = j_ := ⟨_, rfl⟩
  replace H : (some (a0_0 == (ji2) && (a0_1 == (mx a0_1 0)))) = some r := by first | (rw [hji2] at H; exact H) | (simp only [hji2] at H ⊢; exact H)
  (try (have hji2l : 0 ≤ ji2 := by (rw [← hji2]; unfold mx; (repeat' split) <;> omega)))
  (try (have hji2m : 0 ≤ ji2 := by omega))
  have hji2_ : (if a0_0 < 0 then 0 else a0_0) = ji2 := hji2
  obtain ⟨ji3, hji3⟩ : ∃ j_ : Int, (mx a0_1 0) = j_ := ⟨_, rfl⟩
  replace H : (some (a0_0 == (ji2) && (a0_1 == (ji3)))) = some r := by first | (rw [hji3] at H; exact H) | (simp only [hji3] at H ⊢; exact H)
  (try (have hji3l : 0 ≤ ji3 := by (rw [← hji3]; unfold mx; (repeat' split) <;> omega)))
  (try (have hji3m : 0 ≤ ji3 := by omega))
  have hji3_ : (if a0_1 < 0 then 0 else a0_1) = ji3 := hji3
  obtain rfl := Option.some.inj H
  go_enter Try.func20, Try.ntmps20
  go_wp2_with (first | ((with_reducible refine gate_dst (N := 1) rfl ?_); refine box_event ?hg (N := 1) ?hd (cs := #[.int .i64 a0_0, .int .i64 a0_1]) (t := 25) ?hr ?_; (case hd => rfl); (case hg => rfl); (case hr => first | (go_simp; done) | (go_simp; rfl)); intro gb101 hg w4 hbox hb; have n0_ := Aside0.mk (below_step (by repeat (first | (with_reducible first | exact HB.out | apply below_alloc | apply pw_below_drewN | apply below_drew1) | exact HB.out)) hb); have n1_ := Aside0.mk (hbox); have n2_ := Aside0.mk ((by rw [hg]; exact (below_size (by repeat (first | (with_reducible first | exact HB.out | apply below_alloc | apply pw_below_drewN | apply below_drew1) | exact HB.out))) : w.heap.size ≤ gb101)); have n3_ := Aside0.mk ((by rw [hg]; exact (below_size (by repeat (first | (with_reducible first | exact HB.out | apply below_alloc | apply pw_below_drewN | apply below_drew1) | exact HB.out))) : w.heap.size ≤ gb101)); clear HB; have HB := n0_; have BK101 := n1_; have GW101 := n2_; have GE101 := n3_; clear n0_ n1_ n2_ n3_; clear hb hbox hg; have hcz5_0 : w4.cell? ⟨gb101, 0, none⟩ = some (.int .i64 a0_0) := (blk_cell BK101.out 0).trans rfl; have hcz5_1 : w4.cell? ⟨gb101, 1, none⟩ = some (.int .i64 a0_1) := (blk_cell BK101.out 1).trans rfl; have hfz5_0 := blk_frozen BK101.out 0; have hfz5_1 := blk_frozen BK101.out 1))
  go_ret
  exact ⟨by first | rfl | (simp [errW_none, errW_some] <;> rfl) | (simp only [← hji2, ← hji3]; first | rfl | (simp [errW_none, errW_some] <;> rfl)) | (simp [*, errW_none, errW_some] <;> rfl), by repeat (first | (with_reducible first | exact HB.out | apply below_alloc | apply pw_below_drewN | apply below_drew1 | refine below_set ?_ GE101.out) | exact HB.out)⟩

-- NOT PRINTED: function 27 (vec_whole)

-- NOT PRINTED: function 24 (vec_each)

-- function 14 (vec_Sub): its contract is proved by hand

/-! ### joinerylaw1_known: function 11 -/
def joinerylaw1_known.f  : Option (Bool) := (vec_Sub.f 3 4 3 4).bind fun bt102 => (if (bt102.1 == 0 && (bt102.2.1 == 0)) = true then (if bt102.2.2 = 0 then ((vec_Right.f bt102.1 bt102.2.1).bind fun t106 => (if t106 = true then ((vec_Right.f (-1) 0).bind fun t107 => (if t107 = true then (some false) else ((vec_Fits.f bt102.1 bt102.2.1 bt102.1 bt102.2.1).bind fun t108 => (some t108)))) else (some false))) else (some false)) else (some false))
set_option maxHeartbeats 8000000 in
set_option maxRecDepth 100000 in
theorem joinerylaw1_known.calls  (r : Bool) (w : World) (h : joinerylaw1_known.f  = some r) :
    Calls Try.prog 11 #[] w fun e w' => e = .returned (.bool r) ∧ Below w.heap.size w w' := by
  have hu25 := Try.underlying25
  have HB := Aside0.mk (Below.refl w.heap.size w)
  have H : ((vec_Sub.f 3 4 3 4).bind fun bt102 => (if (bt102.1 == 0 && (bt102.2.1 == 0)) = true then (if bt102.2.2 = 0 then ((vec_Right.f bt102.1 bt102.2.1).bind fun t106 => (if t106 = true then ((vec_Right.f (-1) 0).bind fun t107 => (if t107 = true then (some false) else ((vec_Fits.f bt102.1 bt102.2.1 bt102.1 bt102.2.1).bind fun t108 => (some t108)))) else (some false))) else (some false)) else (some false))) = some r := h
  clear h
  replace H := Option.bind_eq_some_iff.mp H
  obtain ⟨⟨t102, t103, t104⟩, A10, H⟩ := H
  replace H : (if (t102 == 0 && (t103 == 0)) = true then (if t104 = 0 then ((vec_Right.f t102 t103).bind fun t106 => (if t106 = true then ((vec_Right.f (-1) 0).bind fun t107 => (if t107 = true then (some false) else ((vec_Fits.f t102 t103 t102 t103).bind fun t108 => (some t108)))) else (some false))) else (some false)) else (some false)) = some r := H
  have A1 := Aside0.mk A10
  clear A10
  by_cases c2 : (t102 == 0 && (t103 == 0)) = true
  · rw [if_pos c2] at H
    have c2b0 : (t102 == 0 && (t103 == 0)) = true := c2
    (try (have c2b1 : decide (t102 = 0 && (t103 == 0)) = true := by simpa using c2))
    (try (have c2b2 : (t102 == 0 && (t103 == 0)) = true := by simpa using c2))
    clear c2
    by_cases c3 : t104 = 0
    · rw [if_pos c3] at H
      have c3b0 : (t104 == 0) = true := beq_iff_eq.mpr c3
      have c3b1 : (t104 != 0) = false := bne_eq_false_iff_eq.mpr c3
      clear c3
      replace H := Option.bind_eq_some_iff.mp H
      obtain ⟨t106, A40, H⟩ := H
      replace H : (if t106 = true then ((vec_Right.f (-1) 0).bind fun t107 => (if t107 = true then (some false) else ((vec_Fits.f t102 t103 t102 t103).bind fun t108 => (some t108)))) else (some false)) = some r := H
      have A4 := Aside0.mk A40
      clear A40
      by_cases c5 : t106 = true
      · subst c5
        have H1 : ((vec_Right.f (-1) 0).bind fun t107 => (if t107 = true then (some false) else ((vec_Fits.f t102 t103 t102 t103).bind fun t108 => (some t108)))) = some r := by rw [if_pos rfl] at H; exact H
        clear H
        have H := H1
        clear H1
        replace H := Option.bind_eq_some_iff.mp H
        obtain ⟨t107, A60, H⟩ := H
        replace H : (if t107 = true then (some false) else ((vec_Fits.f t102 t103 t102 t103).bind fun t108 => (some t108))) = some r := H
        have A6 := Aside0.mk A60
        clear A60
        by_cases c7 : t107 = true
        · subst c7
          have H1 : (some false) = some r := by rw [if_pos rfl] at H; exact H
          clear H
          have H := H1
          clear H1
          obtain rfl := Option.some.inj H
          go_enter Try.func11, Try.ntmps11
          go_wp2_with (first | ((with_reducible refine gate_callee (f := 14) rfl ?_); refine goesL_ (some 6) rfl rfl Try.func14 (by kernel_rfl) rfl #[.agg #[.int .i64 3, .int .i64 4], .agg #[.int .i64 3, .int .i64 4]] rfl (by (try simp only [List.map_toArray, List.map_cons, List.map_nil]); first | done | rfl | (simp only [List.length_drop, List.length_take]; rfl)) ?_; (with_reducible refine (vec_Sub.calls 3 4 3 4 t102 t103 t104 _ A1.out).mono ?_); rintro e w8 ⟨rfl, hb⟩; refine ⟨_, rfl, ?_⟩; have n0_ := Aside0.mk (below_step (by repeat (first | (with_reducible first | exact HB.out | apply below_alloc | apply pw_below_drewN | apply below_drew1) | exact HB.out)) hb); clear HB; have HB := n0_; clear n0_; (try clear hb); (try clear hb2); (try clear hk); (try clear hi)) | ((with_reducible refine gate_dst (N := 1) rfl ?_); refine box_event ?hg (N := 1) ?hd (cs := #[.int .i64 0, .int .i64 0]) (t := 25) ?hr ?_; (case hd => rfl); (case hg => rfl); (case hr => first | (go_simp; done) | (go_simp; rfl)); intro gb105 hg w9 hbox hb; have n0_ := Aside0.mk (below_step (by repeat (first | (with_reducible first | exact HB.out | apply below_alloc | apply pw_below_drewN | apply below_drew1) | exact HB.out)) hb); have n1_ := Aside0.mk (hbox); have n2_ := Aside0.mk ((by rw [hg]; exact (below_size (by repeat (first | (with_reducible first | exact HB.out | apply below_alloc | apply pw_below_drewN | apply below_drew1) | exact HB.out))) : w.heap.size ≤ gb105)); have n3_ := Aside0.mk ((by rw [hg]; exact (below_size (by repeat (first | (with_reducible first | exact HB.out | apply below_alloc | apply pw_below_drewN | apply below_drew1) | exact HB.out))) : w.heap.size ≤ gb105)); clear HB; have HB := n0_; have BK105 := n1_; have GW105 := n2_; have GE105 := n3_; clear n0_ n1_ n2_ n3_; clear hb hbox hg; have hcz10_0 : w9.cell? ⟨gb105, 0, none⟩ = some (.int .i64 0) := (blk_cell BK105.out 0).trans rfl; have hcz10_1 : w9.cell? ⟨gb105, 1, none⟩ = some (.int .i64 0) := (blk_cell BK105.out 1).trans rfl; have hfz10_0 := blk_frozen BK105.out 0; have hfz10_1 := blk_frozen BK105.out 1) | (go_at_call 20; (with_reducible refine (vec_Right.calls t102 t103 true _ A4.out).mono ?_); rintro e w11 ⟨rfl, hb⟩; have n0_ := Aside0.mk (blk_below (g := gb105) (o := .cells #[.int .i64 t102, .int .i64 t103] 25 (0, 0)) (by (with_reducible repeat (first | refine blk_drewN ?_ _ | refine blk_drew ?_ | refine blk_alloc ?_ _)); refine blk_put (cs := #[.int .i64 t102, .int .i64 0]) ?_ 1 _ rfl; (with_reducible repeat (first | refine blk_drewN ?_ _ | refine blk_drew ?_ | refine blk_alloc ?_ _)); refine blk_put (cs := #[.int .i64 0, .int .i64 0]) ?_ 0 _ rfl; (with_reducible repeat (first | refine blk_drewN ?_ _ | refine blk_drew ?_ | refine blk_alloc ?_ _)); exact BK105.out) hb); have n1_ := Aside0.mk (below_step (by repeat (first | (with_reducible first | exact HB.out | apply below_alloc | apply pw_below_drewN | apply below_drew1 | refine below_set ?_ GE105.out) | exact HB.out)) hb); clear BK105; clear HB; have BK105 := n0_; have HB := n1_; clear n0_ n1_; (try clear hb); (try clear hb2); (try clear hk); (try clear hi)) | (go_at_call 20; (with_reducible refine (vec_Right.calls (-1) 0 true _ A6.out).mono ?_); rintro e w12 ⟨rfl, hb⟩; have n0_ := Aside0.mk (blk_below (g := gb105) (o := .cells #[.int .i64 t102, .int .i64 t103] 25 (0, 0)) (by (with_reducible repeat (first | refine blk_drewN ?_ _ | refine blk_drew ?_ | refine blk_alloc ?_ _)); exact BK105.out) hb); have n1_ := Aside0.mk (below_step (by repeat (first | (with_reducible first | exact HB.out | apply below_alloc | apply pw_below_drewN | apply below_drew1 | refine below_set ?_ GE105.out) | exact HB.out)) hb); clear BK105; clear HB; have BK105 := n0_; have HB := n1_; clear n0_ n1_; (try clear hb); (try clear hb2); (try clear hk); (try clear hi)))
          go_ret
          exact ⟨by first | rfl | (simp [errW_none, errW_some] <;> rfl) | (simp [*, errW_none, errW_some] <;> rfl), by repeat (first | (with_reducible first | exact HB.out | apply below_alloc | apply pw_below_drewN | apply below_drew1 | refine below_set ?_ GE105.out) | exact HB.out)⟩
        · replace c7 := Bool.eq_false_iff.mpr c7
          subst c7
          have H1 : ((vec_Fits.f t102 t103 t102 t103).bind fun t108 => (some t108)) = some r := by rw [if_neg (show ¬ (false = true) by decide)] at H; exact H
          clear H
          have H := H1
          clear H1
          replace H := Option.bind_eq_some_iff.mp H
          obtain ⟨t108, A130, H⟩ := H
          replace H : (some t108) = some r := H
          have A13 := Aside0.mk A130
          clear A130
          obtain rfl := Option.some.inj H
          go_enter Try.func11, Try.ntmps11
          go_wp2_with (first | ((with_reducible refine gate_callee (f := 14) rfl ?_); refine goesL_ (some 6) rfl rfl Try.func14 (by kernel_rfl) rfl #[.agg #[.int .i64 3, .int .i64 4], .agg #[.int .i64 3, .int .i64 4]] rfl (by (try simp only [List.map_toArray, List.map_cons, List.map_nil]); first | done | rfl | (simp only [List.length_drop, List.length_take]; rfl)) ?_; (with_reducible refine (vec_Sub.calls 3 4 3 4 t102 t103 t104 _ A1.out).mono ?_); rintro e w14 ⟨rfl, hb⟩; refine ⟨_, rfl, ?_⟩; have n0_ := Aside0.mk (below_step (by repeat (first | (with_reducible first | exact HB.out | apply below_alloc | apply pw_below_drewN | apply below_drew1) | exact HB.out)) hb); clear HB; have HB := n0_; clear n0_; (try clear hb); (try clear hb2); (try clear hk); (try clear hi)) | ((with_reducible refine gate_dst (N := 1) rfl ?_); refine box_event ?hg (N := 1) ?hd (cs := #[.int .i64 0, .int .i64 0]) (t := 25) ?hr ?_; (case hd => rfl); (case hg => rfl); (case hr => first | (go_simp; done) | (go_simp; rfl)); intro gb105 hg w15 hbox hb; have n0_ := Aside0.mk (below_step (by repeat (first | (with_reducible first | exact HB.out | apply below_alloc | apply pw_below_drewN | apply below_drew1) | exact HB.out)) hb); have n1_ := Aside0.mk (hbox); have n2_ := Aside0.mk ((by rw [hg]; exact (below_size (by repeat (first | (with_reducible first | exact HB.out | apply below_alloc | apply pw_below_drewN | apply below_drew1) | exact HB.out))) : w.heap.size ≤ gb105)); have n3_ := Aside0.mk ((by rw [hg]; exact (below_size (by repeat (first | (with_reducible first | exact HB.out | apply below_alloc | apply pw_below_drewN | apply below_drew1) | exact HB.out))) : w.heap.size ≤ gb105)); clear HB; have HB := n0_; have BK105 := n1_; have GW105 := n2_; have GE105 := n3_; clear n0_ n1_ n2_ n3_; clear hb hbox hg; have hcz16_0 : w15.cell? ⟨gb105, 0, none⟩ = some (.int .i64 0) := (blk_cell BK105.out 0).trans rfl; have hcz16_1 : w15.cell? ⟨gb105, 1, none⟩ = some (.int .i64 0) := (blk_cell BK105.out 1).trans rfl; have hfz16_0 := blk_frozen BK105.out 0; have hfz16_1 := blk_frozen BK105.out 1) | (go_at_call 20; (with_reducible refine (vec_Right.calls t102 t103 true _ A4.out).mono ?_); rintro e w17 ⟨rfl, hb⟩; have n0_ := Aside0.mk (blk_below (g := gb105) (o := .cells #[.int .i64 t102, .int .i64 t103] 25 (0, 0)) (by (with_reducible repeat (first | refine blk_drewN ?_ _ | refine blk_drew ?_ | refine blk_alloc ?_ _)); refine blk_put (cs := #[.int .i64 t102, .int .i64 0]) ?_ 1 _ rfl; (with_reducible repeat (first | refine blk_drewN ?_ _ | refine blk_drew ?_ | refine blk_alloc ?_ _)); refine blk_put (cs := #[.int .i64 0, .int .i64 0]) ?_ 0 _ rfl; (with_reducible repeat (first | refine blk_drewN ?_ _ | refine blk_drew ?_ | refine blk_alloc ?_ _)); exact BK105.out) hb); have n1_ := Aside0.mk (below_step (by repeat (first | (with_reducible first | exact HB.out | apply below_alloc | apply pw_below_drewN | apply below_drew1 | refine below_set ?_ GE105.out) | exact HB.out)) hb); clear BK105; clear HB; have BK105 := n0_; have HB := n1_; clear n0_ n1_; (try clear hb); (try clear hb2); (try clear hk); (try clear hi)) | (go_at_call 20; (with_reducible refine (vec_Right.calls (-1) 0 false _ A6.out).mono ?_); rintro e w18 ⟨rfl, hb⟩; have n0_ := Aside0.mk (blk_below (g := gb105) (o := .cells #[.int .i64 t102, .int .i64 t103] 25 (0, 0)) (by (with_reducible repeat (first | refine blk_drewN ?_ _ | refine blk_drew ?_ | refine blk_alloc ?_ _)); exact BK105.out) hb); have n1_ := Aside0.mk (below_step (by repeat (first | (with_reducible first | exact HB.out | apply below_alloc | apply pw_below_drewN | apply below_drew1 | refine below_set ?_ GE105.out) | exact HB.out)) hb); clear BK105; clear HB; have BK105 := n0_; have HB := n1_; clear n0_ n1_; (try clear hb); (try clear hb2); (try clear hk); (try clear hi); have hcz19_0 : w18.cell? ⟨gb105, 0, none⟩ = some (.int .i64 t102) := (blk_cell BK105.out 0).trans rfl; have hcz19_1 : w18.cell? ⟨gb105, 1, none⟩ = some (.int .i64 t103) := (blk_cell BK105.out 1).trans rfl; have hfz19_0 := blk_frozen BK105.out 0; have hfz19_1 := blk_frozen BK105.out 1) | (go_at_call 13; (with_reducible refine (vec_Fits.calls t102 t103 t102 t103 t108 _ A13.out).mono ?_); rintro e w20 ⟨rfl, hb⟩; have n0_ := Aside0.mk (blk_below (g := gb105) (o := .cells #[.int .i64 t102, .int .i64 t103] 25 (0, 0)) (by (with_reducible repeat (first | refine blk_drewN ?_ _ | refine blk_drew ?_ | refine blk_alloc ?_ _)); exact BK105.out) hb); have n1_ := Aside0.mk (below_step (by repeat (first | (with_reducible first | exact HB.out | apply below_alloc | apply pw_below_drewN | apply below_drew1 | refine below_set ?_ GE105.out) | exact HB.out)) hb); clear BK105; clear HB; have BK105 := n0_; have HB := n1_; clear n0_ n1_; (try clear hb); (try clear hb2); (try clear hk); (try clear hi)))
          go_ret
          exact ⟨by first | rfl | (simp [errW_none, errW_some] <;> rfl) | (simp [*, errW_none, errW_some] <;> rfl), by repeat (first | (with_reducible first | exact HB.out | apply below_alloc | apply pw_below_drewN | apply below_drew1 | refine below_set ?_ GE105.out) | exact HB.out)⟩
      · replace c5 := Bool.eq_false_iff.mpr c5
        subst c5
        have H1 : (some false) = some r := by rw [if_neg (show ¬ (false = true) by decide)] at H; exact H
        clear H
        have H := H1
        clear H1
        obtain rfl := Option.some.inj H
        go_enter Try.func11, Try.ntmps11
        go_wp2_with (first | ((with_reducible refine gate_callee (f := 14) rfl ?_); refine goesL_ (some 6) rfl rfl Try.func14 (by kernel_rfl) rfl #[.agg #[.int .i64 3, .int .i64 4], .agg #[.int .i64 3, .int .i64 4]] rfl (by (try simp only [List.map_toArray, List.map_cons, List.map_nil]); first | done | rfl | (simp only [List.length_drop, List.length_take]; rfl)) ?_; (with_reducible refine (vec_Sub.calls 3 4 3 4 t102 t103 t104 _ A1.out).mono ?_); rintro e w21 ⟨rfl, hb⟩; refine ⟨_, rfl, ?_⟩; have n0_ := Aside0.mk (below_step (by repeat (first | (with_reducible first | exact HB.out | apply below_alloc | apply pw_below_drewN | apply below_drew1) | exact HB.out)) hb); clear HB; have HB := n0_; clear n0_; (try clear hb); (try clear hb2); (try clear hk); (try clear hi)) | ((with_reducible refine gate_dst (N := 1) rfl ?_); refine box_event ?hg (N := 1) ?hd (cs := #[.int .i64 0, .int .i64 0]) (t := 25) ?hr ?_; (case hd => rfl); (case hg => rfl); (case hr => first | (go_simp; done) | (go_simp; rfl)); intro gb105 hg w22 hbox hb; have n0_ := Aside0.mk (below_step (by repeat (first | (with_reducible first | exact HB.out | apply below_alloc | apply pw_below_drewN | apply below_drew1) | exact HB.out)) hb); have n1_ := Aside0.mk (hbox); have n2_ := Aside0.mk ((by rw [hg]; exact (below_size (by repeat (first | (with_reducible first | exact HB.out | apply below_alloc | apply pw_below_drewN | apply below_drew1) | exact HB.out))) : w.heap.size ≤ gb105)); have n3_ := Aside0.mk ((by rw [hg]; exact (below_size (by repeat (first | (with_reducible first | exact HB.out | apply below_alloc | apply pw_below_drewN | apply below_drew1) | exact HB.out))) : w.heap.size ≤ gb105)); clear HB; have HB := n0_; have BK105 := n1_; have GW105 := n2_; have GE105 := n3_; clear n0_ n1_ n2_ n3_; clear hb hbox hg; have hcz23_0 : w22.cell? ⟨gb105, 0, none⟩ = some (.int .i64 0) := (blk_cell BK105.out 0).trans rfl; have hcz23_1 : w22.cell? ⟨gb105, 1, none⟩ = some (.int .i64 0) := (blk_cell BK105.out 1).trans rfl; have hfz23_0 := blk_frozen BK105.out 0; have hfz23_1 := blk_frozen BK105.out 1) | (go_at_call 20; (with_reducible refine (vec_Right.calls t102 t103 false _ A4.out).mono ?_); rintro e w24 ⟨rfl, hb⟩; have n0_ := Aside0.mk (blk_below (g := gb105) (o := .cells #[.int .i64 t102, .int .i64 t103] 25 (0, 0)) (by (with_reducible repeat (first | refine blk_drewN ?_ _ | refine blk_drew ?_ | refine blk_alloc ?_ _)); refine blk_put (cs := #[.int .i64 t102, .int .i64 0]) ?_ 1 _ rfl; (with_reducible repeat (first | refine blk_drewN ?_ _ | refine blk_drew ?_ | refine blk_alloc ?_ _)); refine blk_put (cs := #[.int .i64 0, .int .i64 0]) ?_ 0 _ rfl; (with_reducible repeat (first | refine blk_drewN ?_ _ | refine blk_drew ?_ | refine blk_alloc ?_ _)); exact BK105.out) hb); have n1_ := Aside0.mk (below_step (by repeat (first | (with_reducible first | exact HB.out | apply below_alloc | apply pw_below_drewN | apply below_drew1 | refine below_set ?_ GE105.out) | exact HB.out)) hb); clear BK105; clear HB; have BK105 := n0_; have HB := n1_; clear n0_ n1_; (try clear hb); (try clear hb2); (try clear hk); (try clear hi)))
        go_ret
        exact ⟨by first | rfl | (simp [errW_none, errW_some] <;> rfl) | (simp [*, errW_none, errW_some] <;> rfl), by repeat (first | (with_reducible first | exact HB.out | apply below_alloc | apply pw_below_drewN | apply below_drew1 | refine below_set ?_ GE105.out) | exact HB.out)⟩
    · rw [if_neg c3] at H
      have c3b0 : (t104 == 0) = false := beq_eq_false_iff_ne.mpr c3
      have c3b1 : (t104 != 0) = true := bne_iff_ne.mpr c3
      obtain rfl := Option.some.inj H
      go_enter Try.func11, Try.ntmps11
      go_wp2_with (first | ((with_reducible refine gate_callee (f := 14) rfl ?_); refine goesL_ (some 6) rfl rfl Try.func14 (by kernel_rfl) rfl #[.agg #[.int .i64 3, .int .i64 4], .agg #[.int .i64 3, .int .i64 4]] rfl (by (try simp only [List.map_toArray, List.map_cons, List.map_nil]); first | done | rfl | (simp only [List.length_drop, List.length_take]; rfl)) ?_; (with_reducible refine (vec_Sub.calls 3 4 3 4 t102 t103 t104 _ A1.out).mono ?_); rintro e w25 ⟨rfl, hb⟩; refine ⟨_, rfl, ?_⟩; have n0_ := Aside0.mk (below_step (by repeat (first | (with_reducible first | exact HB.out | apply below_alloc | apply pw_below_drewN | apply below_drew1) | exact HB.out)) hb); clear HB; have HB := n0_; clear n0_; (try clear hb); (try clear hb2); (try clear hk); (try clear hi)) | ((with_reducible refine gate_dst (N := 1) rfl ?_); refine box_event ?hg (N := 1) ?hd (cs := #[.int .i64 0, .int .i64 0]) (t := 25) ?hr ?_; (case hd => rfl); (case hg => rfl); (case hr => first | (go_simp; done) | (go_simp; rfl)); intro gb105 hg w26 hbox hb; have n0_ := Aside0.mk (below_step (by repeat (first | (with_reducible first | exact HB.out | apply below_alloc | apply pw_below_drewN | apply below_drew1) | exact HB.out)) hb); have n1_ := Aside0.mk (hbox); have n2_ := Aside0.mk ((by rw [hg]; exact (below_size (by repeat (first | (with_reducible first | exact HB.out | apply below_alloc | apply pw_below_drewN | apply below_drew1) | exact HB.out))) : w.heap.size ≤ gb105)); have n3_ := Aside0.mk ((by rw [hg]; exact (below_size (by repeat (first | (with_reducible first | exact HB.out | apply below_alloc | apply pw_below_drewN | apply below_drew1) | exact HB.out))) : w.heap.size ≤ gb105)); clear HB; have HB := n0_; have BK105 := n1_; have GW105 := n2_; have GE105 := n3_; clear n0_ n1_ n2_ n3_; clear hb hbox hg; have hcz27_0 : w26.cell? ⟨gb105, 0, none⟩ = some (.int .i64 0) := (blk_cell BK105.out 0).trans rfl; have hcz27_1 : w26.cell? ⟨gb105, 1, none⟩ = some (.int .i64 0) := (blk_cell BK105.out 1).trans rfl; have hfz27_0 := blk_frozen BK105.out 0; have hfz27_1 := blk_frozen BK105.out 1))
      go_ret
      exact ⟨by first | rfl | (simp [errW_none, errW_some] <;> rfl) | (simp [*, errW_none, errW_some] <;> rfl), by repeat (first | (with_reducible first | exact HB.out | apply below_alloc | apply pw_below_drewN | apply below_drew1 | refine below_set ?_ GE105.out) | exact HB.out)⟩
  · rw [if_neg c2] at H
    have c2b0 : (t102 == 0 && (t103 == 0)) = false := by simpa using c2
    (try (have c2b1 : decide (t102 = 0 && (t103 == 0)) = false := by simpa using c2))
    (try (have c2b2 : (t102 == 0 && (t103 == 0)) = false := by simpa using c2))
    (try (have c2b3 : ¬ (t102 = 0 && (t103 == 0)) := by simpa using c2))
    clear c2
    obtain rfl := Option.some.inj H
    go_enter Try.func11, Try.ntmps11
    go_wp2_with (first | ((with_reducible refine gate_callee (f := 14) rfl ?_); refine goesL_ (some 6) rfl rfl Try.func14 (by kernel_rfl) rfl #[.agg #[.int .i64 3, .int .i64 4], .agg #[.int .i64 3, .int .i64 4]] rfl (by (try simp only [List.map_toArray, List.map_cons, List.map_nil]); first | done | rfl | (simp only [List.length_drop, List.length_take]; rfl)) ?_; (with_reducible refine (vec_Sub.calls 3 4 3 4 t102 t103 t104 _ A1.out).mono ?_); rintro e w28 ⟨rfl, hb⟩; refine ⟨_, rfl, ?_⟩; have n0_ := Aside0.mk (below_step (by repeat (first | (with_reducible first | exact HB.out | apply below_alloc | apply pw_below_drewN | apply below_drew1) | exact HB.out)) hb); clear HB; have HB := n0_; clear n0_; (try clear hb); (try clear hb2); (try clear hk); (try clear hi)) | ((with_reducible refine gate_dst (N := 1) rfl ?_); refine box_event ?hg (N := 1) ?hd (cs := #[.int .i64 0, .int .i64 0]) (t := 25) ?hr ?_; (case hd => rfl); (case hg => rfl); (case hr => first | (go_simp; done) | (go_simp; rfl)); intro gb105 hg w29 hbox hb; have n0_ := Aside0.mk (below_step (by repeat (first | (with_reducible first | exact HB.out | apply below_alloc | apply pw_below_drewN | apply below_drew1) | exact HB.out)) hb); have n1_ := Aside0.mk (hbox); have n2_ := Aside0.mk ((by rw [hg]; exact (below_size (by repeat (first | (with_reducible first | exact HB.out | apply below_alloc | apply pw_below_drewN | apply below_drew1) | exact HB.out))) : w.heap.size ≤ gb105)); have n3_ := Aside0.mk ((by rw [hg]; exact (below_size (by repeat (first | (with_reducible first | exact HB.out | apply below_alloc | apply pw_below_drewN | apply below_drew1) | exact HB.out))) : w.heap.size ≤ gb105)); clear HB; have HB := n0_; have BK105 := n1_; have GW105 := n2_; have GE105 := n3_; clear n0_ n1_ n2_ n3_; clear hb hbox hg; have hcz30_0 : w29.cell? ⟨gb105, 0, none⟩ = some (.int .i64 0) := (blk_cell BK105.out 0).trans rfl; have hcz30_1 : w29.cell? ⟨gb105, 1, none⟩ = some (.int .i64 0) := (blk_cell BK105.out 1).trans rfl; have hfz30_0 := blk_frozen BK105.out 0; have hfz30_1 := blk_frozen BK105.out 1))
    go_ret
    exact ⟨by first | rfl | (simp [errW_none, errW_some] <;> rfl) | (simp [*, errW_none, errW_some] <;> rfl), by repeat (first | (with_reducible first | exact HB.out | apply below_alloc | apply pw_below_drewN | apply below_drew1 | refine below_set ?_ GE105.out) | exact HB.out)⟩

/-! ### joinerylaw1_within: function 12 -/
def joinerylaw1_within.f (a0 : Int) (a1 : Int) : Option (Int) := if a1 = 0 then (none) else (if (Int.tmod a0 a1) < 0 then (some (wrap64 ((Int.tmod a0 a1) + a1))) else (some (Int.tmod a0 a1)))
set_option maxHeartbeats 8000000 in
set_option maxRecDepth 100000 in
theorem joinerylaw1_within.calls (a0 : Int) (a1 : Int) (r : Int) (w : World) (h : joinerylaw1_within.f a0 a1 = some r) :
    Calls Try.prog 12 #[.int .i64 a0, .int .i64 a1] w fun e w' => e = .returned (.int .i64 r) ∧ Drawn0 w w' := by
  have H : (if a1 = 0 then (none) else (if (Int.tmod a0 a1) < 0 then (some (wrap64 ((Int.tmod a0 a1) + a1))) else (some (Int.tmod a0 a1)))) = some r := h
  clear h
  by_cases c3 : a1 = 0
  · rw [if_pos c3] at H
    exact absurd H (by simp)
  · rw [if_neg c3] at H
    have c3b0 : (a1 == 0) = false := beq_eq_false_iff_ne.mpr c3
    have c3b1 : (a1 != 0) = true := bne_iff_ne.mpr c3
    by_cases c4 : (Int.tmod a0 a1) < 0
    · rw [if_pos c4] at H
      have c4b0 : decide ((Int.tmod a0 a1) < 0) = true := decide_eq_true c4
      clear c4
      obtain rfl := Option.some.inj H
      go_enter Try.func12, Try.ntmps12
      go_wp2
      go_ret
      exact ⟨by first | rfl | (simp; done) | (simp [*]; done), by repeat (first | exact Drawn0.refl _ | apply Drawn0.step)⟩
    · rw [if_neg c4] at H
      have c4b0 : decide ((Int.tmod a0 a1) < 0) = false := decide_eq_false c4
      clear c4
      obtain rfl := Option.some.inj H
      go_enter Try.func12, Try.ntmps12
      go_wp2
      go_ret
      exact ⟨by first | rfl | (simp; done) | (simp [*]; done), by repeat (first | exact Drawn0.refl _ | apply Drawn0.step)⟩

/-! ### joinerylaw1_VecFits: function 3 -/
def joinerylaw1_VecFits.j0 : Nat → Bool → Bool → Int → Int → Int → Int → Int → Int → Option (Bool)
  | 0, _, _, _, _, _, _, _, _ => none
  | k + 1, x16, x70, x117000, x117001, x118000, x118001, x119000, x119001 => if x70 = true then (some false) else (if x16 = true then ((vec_Fits.f x118000 x118001 x119000 x119001).bind fun t126 => (if t126 = true then ((vec_Fits.f x117000 x117001 x119000 x119001).bind fun t127 => (some t127)) else (some true))) else (some true))
def joinerylaw1_VecFits.f (k : Nat) (a0 : Int) (a1 : Int) (a2 : Int) (a3 : Int) (a4 : Int) (a5 : Int) : Option (Bool) := (joinerylaw1_known.f).bind fun t109 => (if t109 = true then ((joinerylaw1_within.f a0 9).bind fun t110 => ((joinerylaw1_within.f a1 9).bind fun t111 => ((joinerylaw1_within.f a2 9).bind fun t112 => ((joinerylaw1_within.f a3 9).bind fun t113 => ((joinerylaw1_within.f a4 9).bind fun t114 => ((joinerylaw1_within.f a5 9).bind fun t115 => ((vec_Fits.f t110 t111 t112 t113).bind fun t119 => ((vec_Sub.f t112 t113 t110 t111).bind fun bt120 => (if t110 ≤ t112 then (if (t119 != (decide (t111 ≤ t113))) = true then (joinerylaw1_VecFits.j0 k t119 true t110 t111 t112 t113 t114 t115) else (if (t119 != (bt120.2.2 == 0)) = true then (joinerylaw1_VecFits.j0 k t119 true t110 t111 t112 t113 t114 t115) else ((vec_Fits.f t110 t111 t110 t111).bind fun t124 => (joinerylaw1_VecFits.j0 k t119 (!t124) t110 t111 t112 t113 t114 t115)))) else (if (t119 != false) = true then (joinerylaw1_VecFits.j0 k t119 true t110 t111 t112 t113 t114 t115) else (if (t119 != (bt120.2.2 == 0)) = true then (joinerylaw1_VecFits.j0 k t119 true t110 t111 t112 t113 t114 t115) else ((vec_Fits.f t110 t111 t110 t111).bind fun t125 => (joinerylaw1_VecFits.j0 k t119 (!t125) t110 t111 t112 t113 t114 t115))))))))))))) else (some false))
theorem joinerylaw1_VecFits.mono_l : ∀ k, (∀ y0 y1 y2 y3 y4 y5 y6 y7, LeO (joinerylaw1_VecFits.j0 k y0 y1 y2 y3 y4 y5 y6 y7) (joinerylaw1_VecFits.j0 (k + 1) y0 y1 y2 y3 y4 y5 y6 y7))
  | 0 => fun _ _ _ _ _ _ _ _ r h => by simp [joinerylaw1_VecFits.j0] at h
  | k + 1 => by
    have ih0 := joinerylaw1_VecFits.mono_l k
    · intro y0 y1 y2 y3 y4 y5 y6 y7
      unfold joinerylaw1_VecFits.j0
      repeat' first
      | (with_reducible exact ih0 _ _ _ _ _ _ _ _)
      | (with_reducible exact LeO.refl _)
      | (with_reducible exact LeO.none _)
      | (with_reducible refine LeO.ite ?_ ?_)
      | (with_reducible refine LeO.bind ?_ (fun _ => ?_))
      | exact ih0 _ _ _ _ _ _ _ _
      | exact LeO.none _
      | refine LeO.ite ?_ ?_
      | refine LeO.bind ?_ (fun _ => ?_)
theorem joinerylaw1_VecFits.mono : ∀ a0 a1 a2 a3 a4 a5 k, LeO (joinerylaw1_VecFits.f k a0 a1 a2 a3 a4 a5) (joinerylaw1_VecFits.f (k + 1) a0 a1 a2 a3 a4 a5) := by
  intro a0 a1 a2 a3 a4 a5 k
  have ih0 := joinerylaw1_VecFits.mono_l k
  unfold joinerylaw1_VecFits.f
  repeat' first
      | (with_reducible exact ih0 _ _ _ _ _ _ _ _)
      | (with_reducible exact LeO.refl _)
      | (with_reducible exact LeO.none _)
      | (with_reducible refine LeO.ite ?_ ?_)
      | (with_reducible refine LeO.bind ?_ (fun _ => ?_))
      | exact ih0 _ _ _ _ _ _ _ _
      | exact LeO.none _
      | refine LeO.ite ?_ ?_
      | refine LeO.bind ?_ (fun _ => ?_)
set_option maxHeartbeats 8000000 in
set_option maxRecDepth 100000 in
theorem joinerylaw1_VecFits.calls (k : Nat) (a0 : Int) (a1 : Int) (a2 : Int) (a3 : Int) (a4 : Int) (a5 : Int) (r : Bool) (w : World) (hT_ : Aside0 (r = true)) (h : joinerylaw1_VecFits.f k a0 a1 a2 a3 a4 a5 = some r) :
    Calls Try.prog 3 #[.int .i64 a0, .int .i64 a1, .int .i64 a2, .int .i64 a3, .int .i64 a4, .int .i64 a5] w fun e w' => e = .returned (.bool r) ∧ Below w.heap.size w w' := by
  have hu25 := Try.underlying25
  have HB := Aside0.mk (Below.refl w.heap.size w)
  have H : ((joinerylaw1_known.f).bind fun t109 => (if t109 = true then ((joinerylaw1_within.f a0 9).bind fun t110 => ((joinerylaw1_within.f a1 9).bind fun t111 => ((joinerylaw1_within.f a2 9).bind fun t112 => ((joinerylaw1_within.f a3 9).bind fun t113 => ((joinerylaw1_within.f a4 9).bind fun t114 => ((joinerylaw1_within.f a5 9).bind fun t115 => ((vec_Fits.f t110 t111 t112 t113).bind fun t119 => ((vec_Sub.f t112 t113 t110 t111).bind fun bt120 => (if t110 ≤ t112 then (if (t119 != (decide (t111 ≤ t113))) = true then (joinerylaw1_VecFits.j0 k t119 true t110 t111 t112 t113 t114 t115) else (if (t119 != (bt120.2.2 == 0)) = true then (joinerylaw1_VecFits.j0 k t119 true t110 t111 t112 t113 t114 t115) else ((vec_Fits.f t110 t111 t110 t111).bind fun t124 => (joinerylaw1_VecFits.j0 k t119 (!t124) t110 t111 t112 t113 t114 t115)))) else (if (t119 != false) = true then (joinerylaw1_VecFits.j0 k t119 true t110 t111 t112 t113 t114 t115) else (if (t119 != (bt120.2.2 == 0)) = true then (joinerylaw1_VecFits.j0 k t119 true t110 t111 t112 t113 t114 t115) else ((vec_Fits.f t110 t111 t110 t111).bind fun t125 => (joinerylaw1_VecFits.j0 k t119 (!t125) t110 t111 t112 t113 t114 t115))))))))))))) else (some false))) = some r := h
  clear h
  replace H := Option.bind_eq_some_iff.mp H
  obtain ⟨t109, A70, H⟩ := H
  replace H : (if t109 = true then ((joinerylaw1_within.f a0 9).bind fun t110 => ((joinerylaw1_within.f a1 9).bind fun t111 => ((joinerylaw1_within.f a2 9).bind fun t112 => ((joinerylaw1_within.f a3 9).bind fun t113 => ((joinerylaw1_within.f a4 9).bind fun t114 => ((joinerylaw1_within.f a5 9).bind fun t115 => ((vec_Fits.f t110 t111 t112 t113).bind fun t119 => ((vec_Sub.f t112 t113 t110 t111).bind fun bt120 => (if t110 ≤ t112 then (if (t119 != (decide (t111 ≤ t113))) = true then (joinerylaw1_VecFits.j0 k t119 true t110 t111 t112 t113 t114 t115) else (if (t119 != (bt120.2.2 == 0)) = true then (joinerylaw1_VecFits.j0 k t119 true t110 t111 t112 t113 t114 t115) else ((vec_Fits.f t110 t111 t110 t111).bind fun t124 => (joinerylaw1_VecFits.j0 k t119 (!t124) t110 t111 t112 t113 t114 t115)))) else (if (t119 != false) = true then (joinerylaw1_VecFits.j0 k t119 true t110 t111 t112 t113 t114 t115) else (if (t119 != (bt120.2.2 == 0)) = true then (joinerylaw1_VecFits.j0 k t119 true t110 t111 t112 t113 t114 t115) else ((vec_Fits.f t110 t111 t110 t111).bind fun t125 => (joinerylaw1_VecFits.j0 k t119 (!t125) t110 t111 t112 t113 t114 t115))))))))))))) else (some false)) = some r := H
  have A7 := Aside0.mk A70
  clear A70
  by_cases c8 : t109 = true
  · subst c8
    have H1 : ((joinerylaw1_within.f a0 9).bind fun t110 => ((joinerylaw1_within.f a1 9).bind fun t111 => ((joinerylaw1_within.f a2 9).bind fun t112 => ((joinerylaw1_within.f a3 9).bind fun t113 => ((joinerylaw1_within.f a4 9).bind fun t114 => ((joinerylaw1_within.f a5 9).bind fun t115 => ((vec_Fits.f t110 t111 t112 t113).bind fun t119 => ((vec_Sub.f t112 t113 t110 t111).bind fun bt120 => (if t110 ≤ t112 then (if (t119 != (decide (t111 ≤ t113))) = true then (joinerylaw1_VecFits.j0 k t119 true t110 t111 t112 t113 t114 t115) else (if (t119 != (bt120.2.2 == 0)) = true then (joinerylaw1_VecFits.j0 k t119 true t110 t111 t112 t113 t114 t115) else ((vec_Fits.f t110 t111 t110 t111).bind fun t124 => (joinerylaw1_VecFits.j0 k t119 (!t124) t110 t111 t112 t113 t114 t115)))) else (if (t119 != false) = true then (joinerylaw1_VecFits.j0 k t119 true t110 t111 t112 t113 t114 t115) else (if (t119 != (bt120.2.2 == 0)) = true then (joinerylaw1_VecFits.j0 k t119 true t110 t111 t112 t113 t114 t115) else ((vec_Fits.f t110 t111 t110 t111).bind fun t125 => (joinerylaw1_VecFits.j0 k t119 (!t125) t110 t111 t112 t113 t114 t115))))))))))))) = some r := by rw [if_pos rfl] at H; exact H
    clear H
    have H := H1
    clear H1
    replace H := Option.bind_eq_some_iff.mp H
    obtain ⟨t110, A90, H⟩ := H
    replace H : ((joinerylaw1_within.f a1 9).bind fun t111 => ((joinerylaw1_within.f a2 9).bind fun t112 => ((joinerylaw1_within.f a3 9).bind fun t113 => ((joinerylaw1_within.f a4 9).bind fun t114 => ((joinerylaw1_within.f a5 9).bind fun t115 => ((vec_Fits.f t110 t111 t112 t113).bind fun t119 => ((vec_Sub.f t112 t113 t110 t111).bind fun bt120 => (if t110 ≤ t112 then (if (t119 != (decide (t111 ≤ t113))) = true then (joinerylaw1_VecFits.j0 k t119 true t110 t111 t112 t113 t114 t115) else (if (t119 != (bt120.2.2 == 0)) = true then (joinerylaw1_VecFits.j0 k t119 true t110 t111 t112 t113 t114 t115) else ((vec_Fits.f t110 t111 t110 t111).bind fun t124 => (joinerylaw1_VecFits.j0 k t119 (!t124) t110 t111 t112 t113 t114 t115)))) else (if (t119 != false) = true then (joinerylaw1_VecFits.j0 k t119 true t110 t111 t112 t113 t114 t115) else (if (t119 != (bt120.2.2 == 0)) = true then (joinerylaw1_VecFits.j0 k t119 true t110 t111 t112 t113 t114 t115) else ((vec_Fits.f t110 t111 t110 t111).bind fun t125 => (joinerylaw1_VecFits.j0 k t119 (!t125) t110 t111 t112 t113 t114 t115)))))))))))) = some r := H
    have A9 := Aside0.mk A90
    clear A90
    replace H := Option.bind_eq_some_iff.mp H
    obtain ⟨t111, A100, H⟩ := H
    replace H : ((joinerylaw1_within.f a2 9).bind fun t112 => ((joinerylaw1_within.f a3 9).bind fun t113 => ((joinerylaw1_within.f a4 9).bind fun t114 => ((joinerylaw1_within.f a5 9).bind fun t115 => ((vec_Fits.f t110 t111 t112 t113).bind fun t119 => ((vec_Sub.f t112 t113 t110 t111).bind fun bt120 => (if t110 ≤ t112 then (if (t119 != (decide (t111 ≤ t113))) = true then (joinerylaw1_VecFits.j0 k t119 true t110 t111 t112 t113 t114 t115) else (if (t119 != (bt120.2.2 == 0)) = true then (joinerylaw1_VecFits.j0 k t119 true t110 t111 t112 t113 t114 t115) else ((vec_Fits.f t110 t111 t110 t111).bind fun t124 => (joinerylaw1_VecFits.j0 k t119 (!t124) t110 t111 t112 t113 t114 t115)))) else (if (t119 != false) = true then (joinerylaw1_VecFits.j0 k t119 true t110 t111 t112 t113 t114 t115) else (if (t119 != (bt120.2.2 == 0)) = true then (joinerylaw1_VecFits.j0 k t119 true t110 t111 t112 t113 t114 t115) else ((vec_Fits.f t110 t111 t110 t111).bind fun t125 => (joinerylaw1_VecFits.j0 k t119 (!t125) t110 t111 t112 t113 t114 t115))))))))))) = some r := H
    have A10 := Aside0.mk A100
    clear A100
    replace H := Option.bind_eq_some_iff.mp H
    obtain ⟨t112, A110, H⟩ := H
    replace H : ((joinerylaw1_within.f a3 9).bind fun t113 => ((joinerylaw1_within.f a4 9).bind fun t114 => ((joinerylaw1_within.f a5 9).bind fun t115 => ((vec_Fits.f t110 t111 t112 t113).bind fun t119 => ((vec_Sub.f t112 t113 t110 t111).bind fun bt120 => (if t110 ≤ t112 then (if (t119 != (decide (t111 ≤ t113))) = true then (joinerylaw1_VecFits.j0 k t119 true t110 t111 t112 t113 t114 t115) else (if (t119 != (bt120.2.2 == 0)) = true then (joinerylaw1_VecFits.j0 k t119 true t110 t111 t112 t113 t114 t115) else ((vec_Fits.f t110 t111 t110 t111).bind fun t124 => (joinerylaw1_VecFits.j0 k t119 (!t124) t110 t111 t112 t113 t114 t115)))) else (if (t119 != false) = true then (joinerylaw1_VecFits.j0 k t119 true t110 t111 t112 t113 t114 t115) else (if (t119 != (bt120.2.2 == 0)) = true then (joinerylaw1_VecFits.j0 k t119 true t110 t111 t112 t113 t114 t115) else ((vec_Fits.f t110 t111 t110 t111).bind fun t125 => (joinerylaw1_VecFits.j0 k t119 (!t125) t110 t111 t112 t113 t114 t115)))))))))) = some r := H
    have A11 := Aside0.mk A110
    clear A110
    replace H := Option.bind_eq_some_iff.mp H
    obtain ⟨t113, A120, H⟩ := H
    replace H : ((joinerylaw1_within.f a4 9).bind fun t114 => ((joinerylaw1_within.f a5 9).bind fun t115 => ((vec_Fits.f t110 t111 t112 t113).bind fun t119 => ((vec_Sub.f t112 t113 t110 t111).bind fun bt120 => (if t110 ≤ t112 then (if (t119 != (decide (t111 ≤ t113))) = true then (joinerylaw1_VecFits.j0 k t119 true t110 t111 t112 t113 t114 t115) else (if (t119 != (bt120.2.2 == 0)) = true then (joinerylaw1_VecFits.j0 k t119 true t110 t111 t112 t113 t114 t115) else ((vec_Fits.f t110 t111 t110 t111).bind fun t124 => (joinerylaw1_VecFits.j0 k t119 (!t124) t110 t111 t112 t113 t114 t115)))) else (if (t119 != false) = true then (joinerylaw1_VecFits.j0 k t119 true t110 t111 t112 t113 t114 t115) else (if (t119 != (bt120.2.2 == 0)) = true then (joinerylaw1_VecFits.j0 k t119 true t110 t111 t112 t113 t114 t115) else ((vec_Fits.f t110 t111 t110 t111).bind fun t125 => (joinerylaw1_VecFits.j0 k t119 (!t125) t110 t111 t112 t113 t114 t115))))))))) = some r := H
    have A12 := Aside0.mk A120
    clear A120
    replace H := Option.bind_eq_some_iff.mp H
    obtain ⟨t114, A130, H⟩ := H
    replace H : ((joinerylaw1_within.f a5 9).bind fun t115 => ((vec_Fits.f t110 t111 t112 t113).bind fun t119 => ((vec_Sub.f t112 t113 t110 t111).bind fun bt120 => (if t110 ≤ t112 then (if (t119 != (decide (t111 ≤ t113))) = true then (joinerylaw1_VecFits.j0 k t119 true t110 t111 t112 t113 t114 t115) else (if (t119 != (bt120.2.2 == 0)) = true then (joinerylaw1_VecFits.j0 k t119 true t110 t111 t112 t113 t114 t115) else ((vec_Fits.f t110 t111 t110 t111).bind fun t124 => (joinerylaw1_VecFits.j0 k t119 (!t124) t110 t111 t112 t113 t114 t115)))) else (if (t119 != false) = true then (joinerylaw1_VecFits.j0 k t119 true t110 t111 t112 t113 t114 t115) else (if (t119 != (bt120.2.2 == 0)) = true then (joinerylaw1_VecFits.j0 k t119 true t110 t111 t112 t113 t114 t115) else ((vec_Fits.f t110 t111 t110 t111).bind fun t125 => (joinerylaw1_VecFits.j0 k t119 (!t125) t110 t111 t112 t113 t114 t115)))))))) = some r := H
    have A13 := Aside0.mk A130
    clear A130
    replace H := Option.bind_eq_some_iff.mp H
    obtain ⟨t115, A140, H⟩ := H
    replace H : ((vec_Fits.f t110 t111 t112 t113).bind fun t119 => ((vec_Sub.f t112 t113 t110 t111).bind fun bt120 => (if t110 ≤ t112 then (if (t119 != (decide (t111 ≤ t113))) = true then (joinerylaw1_VecFits.j0 k t119 true t110 t111 t112 t113 t114 t115) else (if (t119 != (bt120.2.2 == 0)) = true then (joinerylaw1_VecFits.j0 k t119 true t110 t111 t112 t113 t114 t115) else ((vec_Fits.f t110 t111 t110 t111).bind fun t124 => (joinerylaw1_VecFits.j0 k t119 (!t124) t110 t111 t112 t113 t114 t115)))) else (if (t119 != false) = true then (joinerylaw1_VecFits.j0 k t119 true t110 t111 t112 t113 t114 t115) else (if (t119 != (bt120.2.2 == 0)) = true then (joinerylaw1_VecFits.j0 k t119 true t110 t111 t112 t113 t114 t115) else ((vec_Fits.f t110 t111 t110 t111).bind fun t125 => (joinerylaw1_VecFits.j0 k t119 (!t125) t110 t111 t112 t113 t114 t115))))))) = some r := H
    have A14 := Aside0.mk A140
    clear A140
    replace H := Option.bind_eq_some_iff.mp H
    obtain ⟨t119, A150, H⟩ := H
    replace H : ((vec_Sub.f t112 t113 t110 t111).bind fun bt120 => (if t110 ≤ t112 then (if (t119 != (decide (t111 ≤ t113))) = true then (joinerylaw1_VecFits.j0 k t119 true t110 t111 t112 t113 t114 t115) else (if (t119 != (bt120.2.2 == 0)) = true then (joinerylaw1_VecFits.j0 k t119 true t110 t111 t112 t113 t114 t115) else ((vec_Fits.f t110 t111 t110 t111).bind fun t124 => (joinerylaw1_VecFits.j0 k t119 (!t124) t110 t111 t112 t113 t114 t115)))) else (if (t119 != false) = true then (joinerylaw1_VecFits.j0 k t119 true t110 t111 t112 t113 t114 t115) else (if (t119 != (bt120.2.2 == 0)) = true then (joinerylaw1_VecFits.j0 k t119 true t110 t111 t112 t113 t114 t115) else ((vec_Fits.f t110 t111 t110 t111).bind fun t125 => (joinerylaw1_VecFits.j0 k t119 (!t125) t110 t111 t112 t113 t114 t115)))))) = some r := H
    have A15 := Aside0.mk A150
    clear A150
    replace H := Option.bind_eq_some_iff.mp H
    obtain ⟨⟨t120, t121, t122⟩, A160, H⟩ := H
    replace H : (if t110 ≤ t112 then (if (t119 != (decide (t111 ≤ t113))) = true then (joinerylaw1_VecFits.j0 k t119 true t110 t111 t112 t113 t114 t115) else (if (t119 != (t122 == 0)) = true then (joinerylaw1_VecFits.j0 k t119 true t110 t111 t112 t113 t114 t115) else ((vec_Fits.f t110 t111 t110 t111).bind fun t124 => (joinerylaw1_VecFits.j0 k t119 (!t124) t110 t111 t112 t113 t114 t115)))) else (if (t119 != false) = true then (joinerylaw1_VecFits.j0 k t119 true t110 t111 t112 t113 t114 t115) else (if (t119 != (t122 == 0)) = true then (joinerylaw1_VecFits.j0 k t119 true t110 t111 t112 t113 t114 t115) else ((vec_Fits.f t110 t111 t110 t111).bind fun t125 => (joinerylaw1_VecFits.j0 k t119 (!t125) t110 t111 t112 t113 t114 t115))))) = some r := H
    have A16 := Aside0.mk A160
    clear A160
    have HC17 := Aside0.mk H
    clear H
    go_enter Try.func3, Try.ntmps3
    go_upto_region 6 with (first | ((with_reducible refine gate_callee (f := 11) rfl ?_); refine goesL_ (some 19) rfl rfl Try.func11 (by kernel_rfl) rfl #[] rfl (by (try simp only [List.map_toArray, List.map_cons, List.map_nil]); first | done | rfl | (simp only [List.length_drop, List.length_take]; rfl)) ?_; (with_reducible refine (joinerylaw1_known.calls  true _ A7.out).mono ?_); rintro e w18 ⟨rfl, hb⟩; refine ⟨_, rfl, ?_⟩; have n0_ := Aside0.mk (below_step (by repeat (first | (with_reducible first | exact HB.out | apply below_alloc | apply pw_below_drewN | apply below_drew1) | exact HB.out)) hb); clear HB; have HB := n0_; clear n0_; (try clear hb); (try clear hb2); (try clear hk); (try clear hi)) | ((with_reducible refine gate_callee (f := 12) rfl ?_); refine goesL_ (some 22) rfl rfl Try.func12 (by kernel_rfl) rfl #[.int .i64 a0, .int .i64 9] rfl (by (try simp only [List.map_toArray, List.map_cons, List.map_nil]); first | done | rfl | (simp only [List.length_drop, List.length_take]; rfl)) ?_; (with_reducible refine (joinerylaw1_within.calls a0 9 t110 _ A9.out).mono ?_); rintro e w' ⟨rfl, ⟨nd, rfl⟩⟩; refine ⟨_, rfl, ?_⟩; (try (rw [drewN_self w18]; generalize hq_ : World.drewN w18 _ = w18; have n0_ : Aside0 (Below w.heap.size w w18) := ⟨by rw [← hq_]; exact (by repeat (first | (with_reducible first | exact HB.out | apply below_alloc | apply pw_below_drewN | apply below_drew1) | exact HB.out))⟩; clear HB hq_; have HB := n0_; clear n0_))) | ((with_reducible refine gate_callee (f := 12) rfl ?_); refine goesL_ (some 24) rfl rfl Try.func12 (by kernel_rfl) rfl #[.int .i64 a1, .int .i64 9] rfl (by (try simp only [List.map_toArray, List.map_cons, List.map_nil]); first | done | rfl | (simp only [List.length_drop, List.length_take]; rfl)) ?_; (with_reducible refine (joinerylaw1_within.calls a1 9 t111 _ A10.out).mono ?_); rintro e w' ⟨rfl, ⟨nd, rfl⟩⟩; refine ⟨_, rfl, ?_⟩; (try (rw [drewN_self w18]; generalize hq_ : World.drewN w18 _ = w18; have n0_ : Aside0 (Below w.heap.size w w18) := ⟨by rw [← hq_]; exact (by repeat (first | (with_reducible first | exact HB.out | apply below_alloc | apply pw_below_drewN | apply below_drew1) | exact HB.out))⟩; clear HB hq_; have HB := n0_; clear n0_))) | ((with_reducible refine gate_callee (f := 12) rfl ?_); refine goesL_ (some 27) rfl rfl Try.func12 (by kernel_rfl) rfl #[.int .i64 a2, .int .i64 9] rfl (by (try simp only [List.map_toArray, List.map_cons, List.map_nil]); first | done | rfl | (simp only [List.length_drop, List.length_take]; rfl)) ?_; (with_reducible refine (joinerylaw1_within.calls a2 9 t112 _ A11.out).mono ?_); rintro e w' ⟨rfl, ⟨nd, rfl⟩⟩; refine ⟨_, rfl, ?_⟩; (try (rw [drewN_self w18]; generalize hq_ : World.drewN w18 _ = w18; have n0_ : Aside0 (Below w.heap.size w w18) := ⟨by rw [← hq_]; exact (by repeat (first | (with_reducible first | exact HB.out | apply below_alloc | apply pw_below_drewN | apply below_drew1) | exact HB.out))⟩; clear HB hq_; have HB := n0_; clear n0_))) | ((with_reducible refine gate_callee (f := 12) rfl ?_); refine goesL_ (some 29) rfl rfl Try.func12 (by kernel_rfl) rfl #[.int .i64 a3, .int .i64 9] rfl (by (try simp only [List.map_toArray, List.map_cons, List.map_nil]); first | done | rfl | (simp only [List.length_drop, List.length_take]; rfl)) ?_; (with_reducible refine (joinerylaw1_within.calls a3 9 t113 _ A12.out).mono ?_); rintro e w' ⟨rfl, ⟨nd, rfl⟩⟩; refine ⟨_, rfl, ?_⟩; (try (rw [drewN_self w18]; generalize hq_ : World.drewN w18 _ = w18; have n0_ : Aside0 (Below w.heap.size w w18) := ⟨by rw [← hq_]; exact (by repeat (first | (with_reducible first | exact HB.out | apply below_alloc | apply pw_below_drewN | apply below_drew1) | exact HB.out))⟩; clear HB hq_; have HB := n0_; clear n0_))) | ((with_reducible refine gate_callee (f := 12) rfl ?_); refine goesL_ (some 32) rfl rfl Try.func12 (by kernel_rfl) rfl #[.int .i64 a4, .int .i64 9] rfl (by (try simp only [List.map_toArray, List.map_cons, List.map_nil]); first | done | rfl | (simp only [List.length_drop, List.length_take]; rfl)) ?_; (with_reducible refine (joinerylaw1_within.calls a4 9 t114 _ A13.out).mono ?_); rintro e w' ⟨rfl, ⟨nd, rfl⟩⟩; refine ⟨_, rfl, ?_⟩; (try (rw [drewN_self w18]; generalize hq_ : World.drewN w18 _ = w18; have n0_ : Aside0 (Below w.heap.size w w18) := ⟨by rw [← hq_]; exact (by repeat (first | (with_reducible first | exact HB.out | apply below_alloc | apply pw_below_drewN | apply below_drew1) | exact HB.out))⟩; clear HB hq_; have HB := n0_; clear n0_))) | ((with_reducible refine gate_callee (f := 12) rfl ?_); refine goesL_ (some 34) rfl rfl Try.func12 (by kernel_rfl) rfl #[.int .i64 a5, .int .i64 9] rfl (by (try simp only [List.map_toArray, List.map_cons, List.map_nil]); first | done | rfl | (simp only [List.length_drop, List.length_take]; rfl)) ?_; (with_reducible refine (joinerylaw1_within.calls a5 9 t115 _ A14.out).mono ?_); rintro e w' ⟨rfl, ⟨nd, rfl⟩⟩; refine ⟨_, rfl, ?_⟩; (try (rw [drewN_self w18]; generalize hq_ : World.drewN w18 _ = w18; have n0_ : Aside0 (Below w.heap.size w w18) := ⟨by rw [← hq_]; exact (by repeat (first | (with_reducible first | exact HB.out | apply below_alloc | apply pw_below_drewN | apply below_drew1) | exact HB.out))⟩; clear HB hq_; have HB := n0_; clear n0_))) | ((with_reducible refine gate_dst (N := 13) rfl ?_); refine box_event ?hg (N := 13) ?hd (cs := #[.int .i64 0, .int .i64 0]) (t := 25) ?hr ?_; (case hd => rfl); (case hg => rfl); (case hr => first | (go_simp; done) | (go_simp; rfl)); intro gb116 hg w19 hbox hb; have n0_ := Aside0.mk (below_step (by repeat (first | (with_reducible first | exact HB.out | apply below_alloc | apply pw_below_drewN | apply below_drew1) | exact HB.out)) hb); have n1_ := Aside0.mk (hbox); have n2_ := Aside0.mk ((by rw [hg]; exact (below_size (by repeat (first | (with_reducible first | exact HB.out | apply below_alloc | apply pw_below_drewN | apply below_drew1) | exact HB.out))) : w.heap.size ≤ gb116)); have n3_ := Aside0.mk ((by rw [hg]; exact (below_size (by repeat (first | (with_reducible first | exact HB.out | apply below_alloc | apply pw_below_drewN | apply below_drew1) | exact HB.out))) : w.heap.size ≤ gb116)); clear HB; have HB := n0_; have BK116 := n1_; have GW116 := n2_; have GE116 := n3_; clear n0_ n1_ n2_ n3_; clear hb hbox hg) | ((with_reducible refine gate_dst (N := 14) rfl ?_); refine box_event ?hg (N := 14) ?hd (cs := #[.int .i64 0, .int .i64 0]) (t := 25) ?hr ?_; (case hd => rfl); (case hg => rfl); (case hr => first | (go_simp; done) | (go_simp; rfl)); intro gb117 hg w20 hbox hb; have n0_ := Aside0.mk (blk_below (g := gb116) (o := .cells #[.int .i64 0, .int .i64 0] 25 (0, 0)) (by (with_reducible repeat (first | refine blk_drewN ?_ _ | refine blk_drew ?_ | refine blk_alloc ?_ _)); exact BK116.out) hb); have n1_ := Aside0.mk (below_step (by repeat (first | (with_reducible first | exact HB.out | apply below_alloc | apply pw_below_drewN | apply below_drew1 | refine below_set ?_ GE116.out) | exact HB.out)) hb); have n2_ := Aside0.mk (hbox); have n3_ := Aside0.mk ((by rw [hg]; exact (below_size (by repeat (first | (with_reducible first | exact HB.out | apply below_alloc | apply pw_below_drewN | apply below_drew1 | refine below_set ?_ GE116.out) | exact HB.out))) : w.heap.size ≤ gb117)); have n4_ := Aside0.mk ((by rw [hg]; exact (below_size (by repeat (first | (with_reducible first | exact HB.out | apply below_alloc | apply pw_below_drewN | apply below_drew1 | refine below_set ?_ GE116.out) | exact HB.out))) : w.heap.size ≤ gb117)); have n5_ := Aside0.mk ((by rw [hg]; exact Nat.ne_of_lt (blk_lt (g := gb116) (o := .cells #[.int .i64 0, .int .i64 0] 25 (0, 0)) (by (with_reducible repeat (first | refine blk_drewN ?_ _ | refine blk_drew ?_ | refine blk_alloc ?_ _)); exact BK116.out)) : gb116 ≠ gb117)); have n6_ := Aside0.mk ((by rw [hg]; exact Nat.ne_of_gt (blk_lt (g := gb116) (o := .cells #[.int .i64 0, .int .i64 0] 25 (0, 0)) (by (with_reducible repeat (first | refine blk_drewN ?_ _ | refine blk_drew ?_ | refine blk_alloc ?_ _)); exact BK116.out)) : gb117 ≠ gb116)); clear BK116; clear HB; have BK116 := n0_; have HB := n1_; have BK117 := n2_; have GW117 := n3_; have GE117 := n4_; have NB116_117 := n5_; have NB117_116 := n6_; clear n0_ n1_ n2_ n3_ n4_ n5_ n6_; clear hb hbox hg) | ((with_reducible refine gate_dst (N := 15) rfl ?_); refine box_event ?hg (N := 15) ?hd (cs := #[.int .i64 0, .int .i64 0]) (t := 25) ?hr ?_; (case hd => rfl); (case hg => rfl); (case hr => first | (go_simp; done) | (go_simp; rfl)); intro gb118 hg w21 hbox hb; have n0_ := Aside0.mk (blk_below (g := gb116) (o := .cells #[.int .i64 0, .int .i64 0] 25 (0, 0)) (by (with_reducible repeat (first | refine blk_drewN ?_ _ | refine blk_drew ?_ | refine blk_alloc ?_ _)); exact BK116.out) hb); have n1_ := Aside0.mk (blk_below (g := gb117) (o := .cells #[.int .i64 0, .int .i64 0] 25 (0, 0)) (by (with_reducible repeat (first | refine blk_drewN ?_ _ | refine blk_drew ?_ | refine blk_alloc ?_ _)); exact BK117.out) hb); have n2_ := Aside0.mk (below_step (by repeat (first | (with_reducible first | exact HB.out | apply below_alloc | apply pw_below_drewN | apply below_drew1 | refine below_set ?_ GE116.out | refine below_set ?_ GE117.out) | exact HB.out)) hb); have n3_ := Aside0.mk (hbox); have n4_ := Aside0.mk ((by rw [hg]; exact (below_size (by repeat (first | (with_reducible first | exact HB.out | apply below_alloc | apply pw_below_drewN | apply below_drew1 | refine below_set ?_ GE116.out | refine below_set ?_ GE117.out) | exact HB.out))) : w.heap.size ≤ gb118)); have n5_ := Aside0.mk ((by rw [hg]; exact (below_size (by repeat (first | (with_reducible first | exact HB.out | apply below_alloc | apply pw_below_drewN | apply below_drew1 | refine below_set ?_ GE116.out | refine below_set ?_ GE117.out) | exact HB.out))) : w.heap.size ≤ gb118)); have n6_ := Aside0.mk ((by rw [hg]; exact Nat.ne_of_lt (blk_lt (g := gb116) (o := .cells #[.int .i64 0, .int .i64 0] 25 (0, 0)) (by (with_reducible repeat (first | refine blk_drewN ?_ _ | refine blk_drew ?_ | refine blk_alloc ?_ _)); exact BK116.out)) : gb116 ≠ gb118)); have n7_ := Aside0.mk ((by rw [hg]; exact Nat.ne_of_gt (blk_lt (g := gb116) (o := .cells #[.int .i64 0, .int .i64 0] 25 (0, 0)) (by (with_reducible repeat (first | refine blk_drewN ?_ _ | refine blk_drew ?_ | refine blk_alloc ?_ _)); exact BK116.out)) : gb118 ≠ gb116)); have n8_ := Aside0.mk ((by rw [hg]; exact Nat.ne_of_lt (blk_lt (g := gb117) (o := .cells #[.int .i64 0, .int .i64 0] 25 (0, 0)) (by (with_reducible repeat (first | refine blk_drewN ?_ _ | refine blk_drew ?_ | refine blk_alloc ?_ _)); exact BK117.out)) : gb117 ≠ gb118)); have n9_ := Aside0.mk ((by rw [hg]; exact Nat.ne_of_gt (blk_lt (g := gb117) (o := .cells #[.int .i64 0, .int .i64 0] 25 (0, 0)) (by (with_reducible repeat (first | refine blk_drewN ?_ _ | refine blk_drew ?_ | refine blk_alloc ?_ _)); exact BK117.out)) : gb118 ≠ gb117)); clear BK116; clear BK117; clear HB; have BK116 := n0_; have BK117 := n1_; have HB := n2_; have BK118 := n3_; have GW118 := n4_; have GE118 := n5_; have NB116_118 := n6_; have NB118_116 := n7_; have NB117_118 := n8_; have NB118_117 := n9_; clear n0_ n1_ n2_ n3_ n4_ n5_ n6_ n7_ n8_ n9_; clear hb hbox hg; have hnb22 := NB116_117.out; have hnc22 := NB117_116.out; have hnb23 := NB116_118.out; have hnc23 := NB118_116.out; have hcz24_0 : w21.cell? ⟨gb116, 0, none⟩ = some (.int .i64 0) := (blk_cell BK116.out 0).trans rfl; have hcz24_1 : w21.cell? ⟨gb116, 1, none⟩ = some (.int .i64 0) := (blk_cell BK116.out 1).trans rfl; have hfz24_0 := blk_frozen BK116.out 0; have hfz24_1 := blk_frozen BK116.out 1; have hnb25 := NB117_118.out; have hnc25 := NB118_117.out; have hcz26_0 : w21.cell? ⟨gb117, 0, none⟩ = some (.int .i64 0) := (blk_cell BK117.out 0).trans rfl; have hcz26_1 : w21.cell? ⟨gb117, 1, none⟩ = some (.int .i64 0) := (blk_cell BK117.out 1).trans rfl; have hfz26_0 := blk_frozen BK117.out 0; have hfz26_1 := blk_frozen BK117.out 1; have hcz27_0 : w21.cell? ⟨gb118, 0, none⟩ = some (.int .i64 0) := (blk_cell BK118.out 0).trans rfl; have hcz27_1 : w21.cell? ⟨gb118, 1, none⟩ = some (.int .i64 0) := (blk_cell BK118.out 1).trans rfl; have hfz27_0 := blk_frozen BK118.out 0; have hfz27_1 := blk_frozen BK118.out 1) | ((with_reducible refine gate_callee (f := 13) rfl ?_); refine goesL_ (some 38) rfl rfl Try.func13 (by kernel_rfl) rfl #[.agg #[.int .i64 t110, .int .i64 t111], .agg #[.int .i64 t112, .int .i64 t113]] rfl (by (try simp only [List.map_toArray, List.map_cons, List.map_nil]); first | done | rfl | (simp only [List.length_drop, List.length_take]; rfl)) ?_; (with_reducible refine (vec_Fits.calls t110 t111 t112 t113 t119 _ A15.out).mono ?_); rintro e w28 ⟨rfl, hb⟩; refine ⟨_, rfl, ?_⟩; have n0_ := Aside0.mk (blk_below (g := gb116) (o := .cells #[.int .i64 t110, .int .i64 t111] 25 (0, 0)) (by (with_reducible repeat (first | refine blk_drewN ?_ _ | refine blk_drew ?_ | refine blk_alloc ?_ _)); refine blk_far ?_ NB116_118.out _; (with_reducible repeat (first | refine blk_drewN ?_ _ | refine blk_drew ?_ | refine blk_alloc ?_ _)); refine blk_far ?_ NB116_118.out _; (with_reducible repeat (first | refine blk_drewN ?_ _ | refine blk_drew ?_ | refine blk_alloc ?_ _)); refine blk_far ?_ NB116_117.out _; (with_reducible repeat (first | refine blk_drewN ?_ _ | refine blk_drew ?_ | refine blk_alloc ?_ _)); refine blk_far ?_ NB116_117.out _; (with_reducible repeat (first | refine blk_drewN ?_ _ | refine blk_drew ?_ | refine blk_alloc ?_ _)); refine blk_put (cs := #[.int .i64 t110, .int .i64 0]) ?_ 1 _ rfl; (with_reducible repeat (first | refine blk_drewN ?_ _ | refine blk_drew ?_ | refine blk_alloc ?_ _)); refine blk_put (cs := #[.int .i64 0, .int .i64 0]) ?_ 0 _ rfl; (with_reducible repeat (first | refine blk_drewN ?_ _ | refine blk_drew ?_ | refine blk_alloc ?_ _)); exact BK116.out) hb); have n1_ := Aside0.mk (blk_below (g := gb117) (o := .cells #[.int .i64 t112, .int .i64 t113] 25 (0, 0)) (by (with_reducible repeat (first | refine blk_drewN ?_ _ | refine blk_drew ?_ | refine blk_alloc ?_ _)); refine blk_far ?_ NB117_118.out _; (with_reducible repeat (first | refine blk_drewN ?_ _ | refine blk_drew ?_ | refine blk_alloc ?_ _)); refine blk_far ?_ NB117_118.out _; (with_reducible repeat (first | refine blk_drewN ?_ _ | refine blk_drew ?_ | refine blk_alloc ?_ _)); refine blk_put (cs := #[.int .i64 t112, .int .i64 0]) ?_ 1 _ rfl; (with_reducible repeat (first | refine blk_drewN ?_ _ | refine blk_drew ?_ | refine blk_alloc ?_ _)); refine blk_put (cs := #[.int .i64 0, .int .i64 0]) ?_ 0 _ rfl; (with_reducible repeat (first | refine blk_drewN ?_ _ | refine blk_drew ?_ | refine blk_alloc ?_ _)); refine blk_far ?_ NB117_116.out _; (with_reducible repeat (first | refine blk_drewN ?_ _ | refine blk_drew ?_ | refine blk_alloc ?_ _)); refine blk_far ?_ NB117_116.out _; (with_reducible repeat (first | refine blk_drewN ?_ _ | refine blk_drew ?_ | refine blk_alloc ?_ _)); exact BK117.out) hb); have n2_ := Aside0.mk (blk_below (g := gb118) (o := .cells #[.int .i64 t114, .int .i64 t115] 25 (0, 0)) (by (with_reducible repeat (first | refine blk_drewN ?_ _ | refine blk_drew ?_ | refine blk_alloc ?_ _)); refine blk_put (cs := #[.int .i64 t114, .int .i64 0]) ?_ 1 _ rfl; (with_reducible repeat (first | refine blk_drewN ?_ _ | refine blk_drew ?_ | refine blk_alloc ?_ _)); refine blk_put (cs := #[.int .i64 0, .int .i64 0]) ?_ 0 _ rfl; (with_reducible repeat (first | refine blk_drewN ?_ _ | refine blk_drew ?_ | refine blk_alloc ?_ _)); refine blk_far ?_ NB118_117.out _; (with_reducible repeat (first | refine blk_drewN ?_ _ | refine blk_drew ?_ | refine blk_alloc ?_ _)); refine blk_far ?_ NB118_117.out _; (with_reducible repeat (first | refine blk_drewN ?_ _ | refine blk_drew ?_ | refine blk_alloc ?_ _)); refine blk_far ?_ NB118_116.out _; (with_reducible repeat (first | refine blk_drewN ?_ _ | refine blk_drew ?_ | refine blk_alloc ?_ _)); refine blk_far ?_ NB118_116.out _; (with_reducible repeat (first | refine blk_drewN ?_ _ | refine blk_drew ?_ | refine blk_alloc ?_ _)); exact BK118.out) hb); have n3_ := Aside0.mk (below_step (by repeat (first | (with_reducible first | exact HB.out | apply below_alloc | apply pw_below_drewN | apply below_drew1 | refine below_set ?_ GE116.out | refine below_set ?_ GE117.out | refine below_set ?_ GE118.out) | exact HB.out)) hb); clear BK116; clear BK117; clear BK118; clear HB; have BK116 := n0_; have BK117 := n1_; have BK118 := n2_; have HB := n3_; clear n0_ n1_ n2_ n3_; (try clear hb); (try clear hb2); (try clear hk); (try clear hi); have hcz29_0 : w28.cell? ⟨gb117, 0, none⟩ = some (.int .i64 t112) := (blk_cell BK117.out 0).trans rfl; have hcz29_1 : w28.cell? ⟨gb117, 1, none⟩ = some (.int .i64 t113) := (blk_cell BK117.out 1).trans rfl; have hfz29_0 := blk_frozen BK117.out 0; have hfz29_1 := blk_frozen BK117.out 1; have hcz30_0 : w28.cell? ⟨gb116, 0, none⟩ = some (.int .i64 t110) := (blk_cell BK116.out 0).trans rfl; have hcz30_1 : w28.cell? ⟨gb116, 1, none⟩ = some (.int .i64 t111) := (blk_cell BK116.out 1).trans rfl; have hfz30_0 := blk_frozen BK116.out 0; have hfz30_1 := blk_frozen BK116.out 1) | ((with_reducible refine gate_callee (f := 14) rfl ?_); refine goesL_ (some 42) rfl rfl Try.func14 (by kernel_rfl) rfl #[.agg #[.int .i64 t112, .int .i64 t113], .agg #[.int .i64 t110, .int .i64 t111]] rfl (by (try simp only [List.map_toArray, List.map_cons, List.map_nil]); first | done | rfl | (simp only [List.length_drop, List.length_take]; rfl)) ?_; (with_reducible refine (vec_Sub.calls t112 t113 t110 t111 t120 t121 t122 _ A16.out).mono ?_); rintro e w31 ⟨rfl, hb⟩; refine ⟨_, rfl, ?_⟩; have n0_ := Aside0.mk (blk_below (g := gb116) (o := .cells #[.int .i64 t110, .int .i64 t111] 25 (0, 0)) (by (with_reducible repeat (first | refine blk_drewN ?_ _ | refine blk_drew ?_ | refine blk_alloc ?_ _)); exact BK116.out) hb); have n1_ := Aside0.mk (blk_below (g := gb117) (o := .cells #[.int .i64 t112, .int .i64 t113] 25 (0, 0)) (by (with_reducible repeat (first | refine blk_drewN ?_ _ | refine blk_drew ?_ | refine blk_alloc ?_ _)); exact BK117.out) hb); have n2_ := Aside0.mk (blk_below (g := gb118) (o := .cells #[.int .i64 t114, .int .i64 t115] 25 (0, 0)) (by (with_reducible repeat (first | refine blk_drewN ?_ _ | refine blk_drew ?_ | refine blk_alloc ?_ _)); exact BK118.out) hb); have n3_ := Aside0.mk (below_step (by repeat (first | (with_reducible first | exact HB.out | apply below_alloc | apply pw_below_drewN | apply below_drew1 | refine below_set ?_ GE116.out | refine below_set ?_ GE117.out | refine below_set ?_ GE118.out) | exact HB.out)) hb); clear BK116; clear BK117; clear BK118; clear HB; have BK116 := n0_; have BK117 := n1_; have BK118 := n2_; have HB := n3_; clear n0_ n1_ n2_ n3_; (try clear hb); (try clear hb2); (try clear hk); (try clear hi)) | ((with_reducible refine gate_dst (N := 17) rfl ?_); refine box_event ?hg (N := 17) ?hd (cs := #[.int .i64 0, .int .i64 0]) (t := 25) ?hr ?_; (case hd => rfl); (case hg => rfl); (case hr => first | (go_simp; done) | (go_simp; rfl)); intro gb123 hg w32 hbox hb; have n0_ := Aside0.mk (blk_below (g := gb116) (o := .cells #[.int .i64 t110, .int .i64 t111] 25 (0, 0)) (by (with_reducible repeat (first | refine blk_drewN ?_ _ | refine blk_drew ?_ | refine blk_alloc ?_ _)); exact BK116.out) hb); have n1_ := Aside0.mk (blk_below (g := gb117) (o := .cells #[.int .i64 t112, .int .i64 t113] 25 (0, 0)) (by (with_reducible repeat (first | refine blk_drewN ?_ _ | refine blk_drew ?_ | refine blk_alloc ?_ _)); exact BK117.out) hb); have n2_ := Aside0.mk (blk_below (g := gb118) (o := .cells #[.int .i64 t114, .int .i64 t115] 25 (0, 0)) (by (with_reducible repeat (first | refine blk_drewN ?_ _ | refine blk_drew ?_ | refine blk_alloc ?_ _)); exact BK118.out) hb); have n3_ := Aside0.mk (below_step (by repeat (first | (with_reducible first | exact HB.out | apply below_alloc | apply pw_below_drewN | apply below_drew1 | refine below_set ?_ GE116.out | refine below_set ?_ GE117.out | refine below_set ?_ GE118.out) | exact HB.out)) hb); have n4_ := Aside0.mk (hbox); have n5_ := Aside0.mk ((by rw [hg]; exact (below_size (by repeat (first | (with_reducible first | exact HB.out | apply below_alloc | apply pw_below_drewN | apply below_drew1 | refine below_set ?_ GE116.out | refine below_set ?_ GE117.out | refine below_set ?_ GE118.out) | exact HB.out))) : w.heap.size ≤ gb123)); have n6_ := Aside0.mk ((by rw [hg]; exact (below_size (by repeat (first | (with_reducible first | exact HB.out | apply below_alloc | apply pw_below_drewN | apply below_drew1 | refine below_set ?_ GE116.out | refine below_set ?_ GE117.out | refine below_set ?_ GE118.out) | exact HB.out))) : w.heap.size ≤ gb123)); have n7_ := Aside0.mk ((by rw [hg]; exact Nat.ne_of_lt (blk_lt (g := gb116) (o := .cells #[.int .i64 t110, .int .i64 t111] 25 (0, 0)) (by (with_reducible repeat (first | refine blk_drewN ?_ _ | refine blk_drew ?_ | refine blk_alloc ?_ _)); exact BK116.out)) : gb116 ≠ gb123)); have n8_ := Aside0.mk ((by rw [hg]; exact Nat.ne_of_gt (blk_lt (g := gb116) (o := .cells #[.int .i64 t110, .int .i64 t111] 25 (0, 0)) (by (with_reducible repeat (first | refine blk_drewN ?_ _ | refine blk_drew ?_ | refine blk_alloc ?_ _)); exact BK116.out)) : gb123 ≠ gb116)); have n9_ := Aside0.mk ((by rw [hg]; exact Nat.ne_of_lt (blk_lt (g := gb117) (o := .cells #[.int .i64 t112, .int .i64 t113] 25 (0, 0)) (by (with_reducible repeat (first | refine blk_drewN ?_ _ | refine blk_drew ?_ | refine blk_alloc ?_ _)); exact BK117.out)) : gb117 ≠ gb123)); have n10_ := Aside0.mk ((by rw [hg]; exact Nat.ne_of_gt (blk_lt (g := gb117) (o := .cells #[.int .i64 t112, .int .i64 t113] 25 (0, 0)) (by (with_reducible repeat (first | refine blk_drewN ?_ _ | refine blk_drew ?_ | refine blk_alloc ?_ _)); exact BK117.out)) : gb123 ≠ gb117)); have n11_ := Aside0.mk ((by rw [hg]; exact Nat.ne_of_lt (blk_lt (g := gb118) (o := .cells #[.int .i64 t114, .int .i64 t115] 25 (0, 0)) (by (with_reducible repeat (first | refine blk_drewN ?_ _ | refine blk_drew ?_ | refine blk_alloc ?_ _)); exact BK118.out)) : gb118 ≠ gb123)); have n12_ := Aside0.mk ((by rw [hg]; exact Nat.ne_of_gt (blk_lt (g := gb118) (o := .cells #[.int .i64 t114, .int .i64 t115] 25 (0, 0)) (by (with_reducible repeat (first | refine blk_drewN ?_ _ | refine blk_drew ?_ | refine blk_alloc ?_ _)); exact BK118.out)) : gb123 ≠ gb118)); clear BK116; clear BK117; clear BK118; clear HB; have BK116 := n0_; have BK117 := n1_; have BK118 := n2_; have HB := n3_; have BK123 := n4_; have GW123 := n5_; have GE123 := n6_; have NB116_123 := n7_; have NB123_116 := n8_; have NB117_123 := n9_; have NB123_117 := n10_; have NB118_123 := n11_; have NB123_118 := n12_; clear n0_ n1_ n2_ n3_ n4_ n5_ n6_ n7_ n8_ n9_ n10_ n11_ n12_; clear hb hbox hg; have hnb33 := NB123_116.out; have hnc33 := NB116_123.out; have hnb34 := NB123_117.out; have hnc34 := NB117_123.out; have hnb35 := NB123_118.out; have hnc35 := NB118_123.out; have hcz36_0 : w32.cell? ⟨gb123, 0, none⟩ = some (.int .i64 0) := (blk_cell BK123.out 0).trans rfl; have hcz36_1 : w32.cell? ⟨gb123, 1, none⟩ = some (.int .i64 0) := (blk_cell BK123.out 1).trans rfl; have hfz36_0 := blk_frozen BK123.out 0; have hfz36_1 := blk_frozen BK123.out 1))
    (try simp only [Act.put, List.setIfInBounds_toArray, List.set_cons_zero, List.set_cons_succ])
    go_cut [70] (fun v70 wc => ∃ (kq : Nat) (x70_16 : Bool), v70 = .bool x70_16 ∧ Aside0 (joinerylaw1_VecFits.j0 kq t119 x70_16 t110 t111 t112 t113 t114 t115 = some r) ∧ Aside0 (kq ≤ k) ∧ Aside0 (wc.heap[gb116]? = some (.cells #[.int .i64 t110, .int .i64 t111] 25 (0, 0))) ∧ Aside0 (wc.heap[gb117]? = some (.cells #[.int .i64 t112, .int .i64 t113] 25 (0, 0))) ∧ Aside0 (wc.heap[gb118]? = some (.cells #[.int .i64 t114, .int .i64 t115] 25 (0, 0))) ∧ Aside0 (wc.heap[gb123]? = some (.cells #[.int .i64 t120, .int .i64 t121] 25 (0, 0))) ∧ Aside0 (Below w.heap.size w wc))
    case first =>
      have H := HC17.out
      clear HC17
      by_cases c37 : t110 ≤ t112
      · rw [if_pos c37] at H
        have c37b0 : decide (t110 ≤ t112) = true := decide_eq_true c37
        clear c37
        (first | rw [c37b0] | (simp only [i64_w, i32_w]; rw [c37b0]) | skip)
        by_cases c38 : (t119 != (decide (t111 ≤ t113))) = true
        · rw [if_pos c38] at H
          have c38b0 : (t119 != (decide (t111 ≤ t113))) = true := c38
          (try (have c38b1 : decide (t119 = (decide (t111 ≤ t113))) = false := by simpa using c38))
          (try (have c38b2 : (t119 == (decide (t111 ≤ t113))) = false := by simpa using c38))
          (try (have c38b3 : ¬ (t119 = (decide (t111 ≤ t113))) := by simpa using c38))
          clear c38
          have H' := Aside0.mk H
          clear H
          have hnb39 := NB116_117.out
          have hnc39 := NB117_116.out
          have hnb40 := NB116_118.out
          have hnc40 := NB118_116.out
          have hnb41 := NB116_123.out
          have hnc41 := NB123_116.out
          have hcz42_0 : w32.cell? ⟨gb116, 0, none⟩ = some (.int .i64 t110) := (blk_cell BK116.out 0).trans rfl
          have hcz42_1 : w32.cell? ⟨gb116, 1, none⟩ = some (.int .i64 t111) := (blk_cell BK116.out 1).trans rfl
          have hfz42_0 := blk_frozen BK116.out 0
          have hfz42_1 := blk_frozen BK116.out 1
          have hnb43 := NB117_118.out
          have hnc43 := NB118_117.out
          have hnb44 := NB117_123.out
          have hnc44 := NB123_117.out
          have hcz45_0 : w32.cell? ⟨gb117, 0, none⟩ = some (.int .i64 t112) := (blk_cell BK117.out 0).trans rfl
          have hcz45_1 : w32.cell? ⟨gb117, 1, none⟩ = some (.int .i64 t113) := (blk_cell BK117.out 1).trans rfl
          have hfz45_0 := blk_frozen BK117.out 0
          have hfz45_1 := blk_frozen BK117.out 1
          go_wp2
          go_meet
          case rel => exact ⟨_, (true), (by first | rfl | (simp; done) | (simp [*]; done)), H', ⟨by first | omega | exact Nat.le_refl _⟩, ⟨by (with_reducible repeat (first | refine blk_drewN ?_ _ | refine blk_drew ?_ | refine blk_alloc ?_ _)); refine blk_far ?_ NB116_123.out _; (with_reducible repeat (first | refine blk_drewN ?_ _ | refine blk_drew ?_ | refine blk_alloc ?_ _)); refine blk_far ?_ NB116_123.out _; (with_reducible repeat (first | refine blk_drewN ?_ _ | refine blk_drew ?_ | refine blk_alloc ?_ _)); exact BK116.out⟩, ⟨by (with_reducible repeat (first | refine blk_drewN ?_ _ | refine blk_drew ?_ | refine blk_alloc ?_ _)); refine blk_far ?_ NB117_123.out _; (with_reducible repeat (first | refine blk_drewN ?_ _ | refine blk_drew ?_ | refine blk_alloc ?_ _)); refine blk_far ?_ NB117_123.out _; (with_reducible repeat (first | refine blk_drewN ?_ _ | refine blk_drew ?_ | refine blk_alloc ?_ _)); exact BK117.out⟩, ⟨by (with_reducible repeat (first | refine blk_drewN ?_ _ | refine blk_drew ?_ | refine blk_alloc ?_ _)); refine blk_far ?_ NB118_123.out _; (with_reducible repeat (first | refine blk_drewN ?_ _ | refine blk_drew ?_ | refine blk_alloc ?_ _)); refine blk_far ?_ NB118_123.out _; (with_reducible repeat (first | refine blk_drewN ?_ _ | refine blk_drew ?_ | refine blk_alloc ?_ _)); exact BK118.out⟩, ⟨by (with_reducible repeat (first | refine blk_drewN ?_ _ | refine blk_drew ?_ | refine blk_alloc ?_ _)); refine blk_put (cs := #[.int .i64 t120, .int .i64 0]) ?_ 1 _ rfl; (with_reducible repeat (first | refine blk_drewN ?_ _ | refine blk_drew ?_ | refine blk_alloc ?_ _)); refine blk_put (cs := #[.int .i64 0, .int .i64 0]) ?_ 0 _ rfl; (with_reducible repeat (first | refine blk_drewN ?_ _ | refine blk_drew ?_ | refine blk_alloc ?_ _)); exact BK123.out⟩, ⟨by repeat (first | (with_reducible first | exact HB.out | apply below_alloc | apply pw_below_drewN | apply below_drew1 | refine below_set ?_ GE116.out | refine below_set ?_ GE117.out | refine below_set ?_ GE118.out | refine below_set ?_ GE123.out) | exact HB.out)⟩⟩
        · rw [if_neg c38] at H
          have c38b0 : (t119 != (decide (t111 ≤ t113))) = false := by simpa using c38
          (try (have c38b1 : decide (t119 = (decide (t111 ≤ t113))) = true := by simpa using c38))
          (try (have c38b2 : (t119 == (decide (t111 ≤ t113))) = true := by simpa using c38))
          clear c38
          by_cases c46 : (t119 != (t122 == 0)) = true
          · rw [if_pos c46] at H
            have c46b0 : (t119 != (t122 == 0)) = true := c46
            (try (have c46b1 : decide (t119 = (t122 == 0)) = false := by simpa using c46))
            (try (have c46b2 : (t119 == (t122 == 0)) = false := by simpa using c46))
            (try (have c46b3 : ¬ (t119 = (t122 == 0)) := by simpa using c46))
            clear c46
            have H' := Aside0.mk H
            clear H
            have hnb47 := NB116_117.out
            have hnc47 := NB117_116.out
            have hnb48 := NB116_118.out
            have hnc48 := NB118_116.out
            have hnb49 := NB116_123.out
            have hnc49 := NB123_116.out
            have hcz50_0 : w32.cell? ⟨gb116, 0, none⟩ = some (.int .i64 t110) := (blk_cell BK116.out 0).trans rfl
            have hcz50_1 : w32.cell? ⟨gb116, 1, none⟩ = some (.int .i64 t111) := (blk_cell BK116.out 1).trans rfl
            have hfz50_0 := blk_frozen BK116.out 0
            have hfz50_1 := blk_frozen BK116.out 1
            have hnb51 := NB117_118.out
            have hnc51 := NB118_117.out
            have hnb52 := NB117_123.out
            have hnc52 := NB123_117.out
            have hcz53_0 : w32.cell? ⟨gb117, 0, none⟩ = some (.int .i64 t112) := (blk_cell BK117.out 0).trans rfl
            have hcz53_1 : w32.cell? ⟨gb117, 1, none⟩ = some (.int .i64 t113) := (blk_cell BK117.out 1).trans rfl
            have hfz53_0 := blk_frozen BK117.out 0
            have hfz53_1 := blk_frozen BK117.out 1
            go_wp2
            go_meet
            case rel => exact ⟨_, (true), (by first | rfl | (simp; done) | (simp [*]; done)), H', ⟨by first | omega | exact Nat.le_refl _⟩, ⟨by (with_reducible repeat (first | refine blk_drewN ?_ _ | refine blk_drew ?_ | refine blk_alloc ?_ _)); refine blk_far ?_ NB116_123.out _; (with_reducible repeat (first | refine blk_drewN ?_ _ | refine blk_drew ?_ | refine blk_alloc ?_ _)); refine blk_far ?_ NB116_123.out _; (with_reducible repeat (first | refine blk_drewN ?_ _ | refine blk_drew ?_ | refine blk_alloc ?_ _)); exact BK116.out⟩, ⟨by (with_reducible repeat (first | refine blk_drewN ?_ _ | refine blk_drew ?_ | refine blk_alloc ?_ _)); refine blk_far ?_ NB117_123.out _; (with_reducible repeat (first | refine blk_drewN ?_ _ | refine blk_drew ?_ | refine blk_alloc ?_ _)); refine blk_far ?_ NB117_123.out _; (with_reducible repeat (first | refine blk_drewN ?_ _ | refine blk_drew ?_ | refine blk_alloc ?_ _)); exact BK117.out⟩, ⟨by (with_reducible repeat (first | refine blk_drewN ?_ _ | refine blk_drew ?_ | refine blk_alloc ?_ _)); refine blk_far ?_ NB118_123.out _; (with_reducible repeat (first | refine blk_drewN ?_ _ | refine blk_drew ?_ | refine blk_alloc ?_ _)); refine blk_far ?_ NB118_123.out _; (with_reducible repeat (first | refine blk_drewN ?_ _ | refine blk_drew ?_ | refine blk_alloc ?_ _)); exact BK118.out⟩, ⟨by (with_reducible repeat (first | refine blk_drewN ?_ _ | refine blk_drew ?_ | refine blk_alloc ?_ _)); refine blk_put (cs := #[.int .i64 t120, .int .i64 0]) ?_ 1 _ rfl; (with_reducible repeat (first | refine blk_drewN ?_ _ | refine blk_drew ?_ | refine blk_alloc ?_ _)); refine blk_put (cs := #[.int .i64 0, .int .i64 0]) ?_ 0 _ rfl; (with_reducible repeat (first | refine blk_drewN ?_ _ | refine blk_drew ?_ | refine blk_alloc ?_ _)); exact BK123.out⟩, ⟨by repeat (first | (with_reducible first | exact HB.out | apply below_alloc | apply pw_below_drewN | apply below_drew1 | refine below_set ?_ GE116.out | refine below_set ?_ GE117.out | refine below_set ?_ GE118.out | refine below_set ?_ GE123.out) | exact HB.out)⟩⟩
          · rw [if_neg c46] at H
            have c46b0 : (t119 != (t122 == 0)) = false := by simpa using c46
            (try (have c46b1 : decide (t119 = (t122 == 0)) = true := by simpa using c46))
            (try (have c46b2 : (t119 == (t122 == 0)) = true := by simpa using c46))
            clear c46
            replace H := Option.bind_eq_some_iff.mp H
            obtain ⟨t124, A540, H⟩ := H
            replace H : (joinerylaw1_VecFits.j0 k t119 (!t124) t110 t111 t112 t113 t114 t115) = some r := H
            have A54 := Aside0.mk A540
            clear A540
            have H' := Aside0.mk H
            clear H
            have hnb55 := NB116_117.out
            have hnc55 := NB117_116.out
            have hnb56 := NB116_118.out
            have hnc56 := NB118_116.out
            have hnb57 := NB116_123.out
            have hnc57 := NB123_116.out
            have hcz58_0 : w32.cell? ⟨gb116, 0, none⟩ = some (.int .i64 t110) := (blk_cell BK116.out 0).trans rfl
            have hcz58_1 : w32.cell? ⟨gb116, 1, none⟩ = some (.int .i64 t111) := (blk_cell BK116.out 1).trans rfl
            have hfz58_0 := blk_frozen BK116.out 0
            have hfz58_1 := blk_frozen BK116.out 1
            have hnb59 := NB117_118.out
            have hnc59 := NB118_117.out
            have hnb60 := NB117_123.out
            have hnc60 := NB123_117.out
            have hcz61_0 : w32.cell? ⟨gb117, 0, none⟩ = some (.int .i64 t112) := (blk_cell BK117.out 0).trans rfl
            have hcz61_1 : w32.cell? ⟨gb117, 1, none⟩ = some (.int .i64 t113) := (blk_cell BK117.out 1).trans rfl
            have hfz61_0 := blk_frozen BK117.out 0
            have hfz61_1 := blk_frozen BK117.out 1
            go_wp2_with (first | (go_at_call 13; (with_reducible refine (vec_Fits.calls t110 t111 t110 t111 t124 _ A54.out).mono ?_); rintro e w62 ⟨rfl, hb⟩; have n0_ := Aside0.mk (blk_below (g := gb116) (o := .cells #[.int .i64 t110, .int .i64 t111] 25 (0, 0)) (by (with_reducible repeat (first | refine blk_drewN ?_ _ | refine blk_drew ?_ | refine blk_alloc ?_ _)); refine blk_far ?_ NB116_123.out _; (with_reducible repeat (first | refine blk_drewN ?_ _ | refine blk_drew ?_ | refine blk_alloc ?_ _)); refine blk_far ?_ NB116_123.out _; (with_reducible repeat (first | refine blk_drewN ?_ _ | refine blk_drew ?_ | refine blk_alloc ?_ _)); exact BK116.out) hb); have n1_ := Aside0.mk (blk_below (g := gb117) (o := .cells #[.int .i64 t112, .int .i64 t113] 25 (0, 0)) (by (with_reducible repeat (first | refine blk_drewN ?_ _ | refine blk_drew ?_ | refine blk_alloc ?_ _)); refine blk_far ?_ NB117_123.out _; (with_reducible repeat (first | refine blk_drewN ?_ _ | refine blk_drew ?_ | refine blk_alloc ?_ _)); refine blk_far ?_ NB117_123.out _; (with_reducible repeat (first | refine blk_drewN ?_ _ | refine blk_drew ?_ | refine blk_alloc ?_ _)); exact BK117.out) hb); have n2_ := Aside0.mk (blk_below (g := gb118) (o := .cells #[.int .i64 t114, .int .i64 t115] 25 (0, 0)) (by (with_reducible repeat (first | refine blk_drewN ?_ _ | refine blk_drew ?_ | refine blk_alloc ?_ _)); refine blk_far ?_ NB118_123.out _; (with_reducible repeat (first | refine blk_drewN ?_ _ | refine blk_drew ?_ | refine blk_alloc ?_ _)); refine blk_far ?_ NB118_123.out _; (with_reducible repeat (first | refine blk_drewN ?_ _ | refine blk_drew ?_ | refine blk_alloc ?_ _)); exact BK118.out) hb); have n3_ := Aside0.mk (blk_below (g := gb123) (o := .cells #[.int .i64 t120, .int .i64 t121] 25 (0, 0)) (by (with_reducible repeat (first | refine blk_drewN ?_ _ | refine blk_drew ?_ | refine blk_alloc ?_ _)); refine blk_put (cs := #[.int .i64 t120, .int .i64 0]) ?_ 1 _ rfl; (with_reducible repeat (first | refine blk_drewN ?_ _ | refine blk_drew ?_ | refine blk_alloc ?_ _)); refine blk_put (cs := #[.int .i64 0, .int .i64 0]) ?_ 0 _ rfl; (with_reducible repeat (first | refine blk_drewN ?_ _ | refine blk_drew ?_ | refine blk_alloc ?_ _)); exact BK123.out) hb); have n4_ := Aside0.mk (below_step (by repeat (first | (with_reducible first | exact HB.out | apply below_alloc | apply pw_below_drewN | apply below_drew1 | refine below_set ?_ GE116.out | refine below_set ?_ GE117.out | refine below_set ?_ GE118.out | refine below_set ?_ GE123.out) | exact HB.out)) hb); clear BK116; clear BK117; clear BK118; clear BK123; clear HB; have BK116 := n0_; have BK117 := n1_; have BK118 := n2_; have BK123 := n3_; have HB := n4_; clear n0_ n1_ n2_ n3_ n4_; (try clear hb); (try clear hb2); (try clear hk); (try clear hi)))
            go_meet
            case rel => exact ⟨_, (!t124), (by first | rfl | (simp; done) | (simp [*]; done)), H', ⟨by first | omega | exact Nat.le_refl _⟩, ⟨by (with_reducible repeat (first | refine blk_drewN ?_ _ | refine blk_drew ?_ | refine blk_alloc ?_ _)); exact BK116.out⟩, ⟨by (with_reducible repeat (first | refine blk_drewN ?_ _ | refine blk_drew ?_ | refine blk_alloc ?_ _)); exact BK117.out⟩, ⟨by (with_reducible repeat (first | refine blk_drewN ?_ _ | refine blk_drew ?_ | refine blk_alloc ?_ _)); exact BK118.out⟩, ⟨by (with_reducible repeat (first | refine blk_drewN ?_ _ | refine blk_drew ?_ | refine blk_alloc ?_ _)); exact BK123.out⟩, ⟨by repeat (first | (with_reducible first | exact HB.out | apply below_alloc | apply pw_below_drewN | apply below_drew1 | refine below_set ?_ GE116.out | refine below_set ?_ GE117.out | refine below_set ?_ GE118.out | refine below_set ?_ GE123.out) | exact HB.out)⟩⟩
      · rw [if_neg c37] at H
        have c37b0 : decide (t110 ≤ t112) = false := decide_eq_false c37
        clear c37
        (first | rw [c37b0] | (simp only [i64_w, i32_w]; rw [c37b0]) | skip)
        by_cases c63 : (t119 != false) = true
        · rw [if_pos c63] at H
          have c63b0 : (t119 != false) = true := c63
          (try (have c63b1 : decide (t119 = false) = false := by simpa using c63))
          (try (have c63b2 : (t119 == false) = false := by simpa using c63))
          (try (have c63b3 : ¬ (t119 = false) := by simpa using c63))
          clear c63
          have H' := Aside0.mk H
          clear H
          have hnb64 := NB116_117.out
          have hnc64 := NB117_116.out
          have hnb65 := NB116_118.out
          have hnc65 := NB118_116.out
          have hnb66 := NB116_123.out
          have hnc66 := NB123_116.out
          have hcz67_0 : w32.cell? ⟨gb116, 0, none⟩ = some (.int .i64 t110) := (blk_cell BK116.out 0).trans rfl
          have hcz67_1 : w32.cell? ⟨gb116, 1, none⟩ = some (.int .i64 t111) := (blk_cell BK116.out 1).trans rfl
          have hfz67_0 := blk_frozen BK116.out 0
          have hfz67_1 := blk_frozen BK116.out 1
          have hnb68 := NB117_118.out
          have hnc68 := NB118_117.out
          have hnb69 := NB117_123.out
          have hnc69 := NB123_117.out
          have hcz70_0 : w32.cell? ⟨gb117, 0, none⟩ = some (.int .i64 t112) := (blk_cell BK117.out 0).trans rfl
          have hcz70_1 : w32.cell? ⟨gb117, 1, none⟩ = some (.int .i64 t113) := (blk_cell BK117.out 1).trans rfl
          have hfz70_0 := blk_frozen BK117.out 0
          have hfz70_1 := blk_frozen BK117.out 1
          go_wp2
          go_meet
          case rel => exact ⟨_, (true), (by first | rfl | (simp; done) | (simp [*]; done)), H', ⟨by first | omega | exact Nat.le_refl _⟩, ⟨by (with_reducible repeat (first | refine blk_drewN ?_ _ | refine blk_drew ?_ | refine blk_alloc ?_ _)); refine blk_far ?_ NB116_123.out _; (with_reducible repeat (first | refine blk_drewN ?_ _ | refine blk_drew ?_ | refine blk_alloc ?_ _)); refine blk_far ?_ NB116_123.out _; (with_reducible repeat (first | refine blk_drewN ?_ _ | refine blk_drew ?_ | refine blk_alloc ?_ _)); exact BK116.out⟩, ⟨by (with_reducible repeat (first | refine blk_drewN ?_ _ | refine blk_drew ?_ | refine blk_alloc ?_ _)); refine blk_far ?_ NB117_123.out _; (with_reducible repeat (first | refine blk_drewN ?_ _ | refine blk_drew ?_ | refine blk_alloc ?_ _)); refine blk_far ?_ NB117_123.out _; (with_reducible repeat (first | refine blk_drewN ?_ _ | refine blk_drew ?_ | refine blk_alloc ?_ _)); exact BK117.out⟩, ⟨by (with_reducible repeat (first | refine blk_drewN ?_ _ | refine blk_drew ?_ | refine blk_alloc ?_ _)); refine blk_far ?_ NB118_123.out _; (with_reducible repeat (first | refine blk_drewN ?_ _ | refine blk_drew ?_ | refine blk_alloc ?_ _)); refine blk_far ?_ NB118_123.out _; (with_reducible repeat (first | refine blk_drewN ?_ _ | refine blk_drew ?_ | refine blk_alloc ?_ _)); exact BK118.out⟩, ⟨by (with_reducible repeat (first | refine blk_drewN ?_ _ | refine blk_drew ?_ | refine blk_alloc ?_ _)); refine blk_put (cs := #[.int .i64 t120, .int .i64 0]) ?_ 1 _ rfl; (with_reducible repeat (first | refine blk_drewN ?_ _ | refine blk_drew ?_ | refine blk_alloc ?_ _)); refine blk_put (cs := #[.int .i64 0, .int .i64 0]) ?_ 0 _ rfl; (with_reducible repeat (first | refine blk_drewN ?_ _ | refine blk_drew ?_ | refine blk_alloc ?_ _)); exact BK123.out⟩, ⟨by repeat (first | (with_reducible first | exact HB.out | apply below_alloc | apply pw_below_drewN | apply below_drew1 | refine below_set ?_ GE116.out | refine below_set ?_ GE117.out | refine below_set ?_ GE118.out | refine below_set ?_ GE123.out) | exact HB.out)⟩⟩
        · rw [if_neg c63] at H
          have c63b0 : (t119 != false) = false := by simpa using c63
          (try (have c63b1 : decide (t119 = false) = true := by simpa using c63))
          (try (have c63b2 : (t119 == false) = true := by simpa using c63))
          clear c63
          by_cases c71 : (t119 != (t122 == 0)) = true
          · rw [if_pos c71] at H
            have c71b0 : (t119 != (t122 == 0)) = true := c71
            (try (have c71b1 : decide (t119 = (t122 == 0)) = false := by simpa using c71))
            (try (have c71b2 : (t119 == (t122 == 0)) = false := by simpa using c71))
            (try (have c71b3 : ¬ (t119 = (t122 == 0)) := by simpa using c71))
            clear c71
            have H' := Aside0.mk H
            clear H
            have hnb72 := NB116_117.out
            have hnc72 := NB117_116.out
            have hnb73 := NB116_118.out
            have hnc73 := NB118_116.out
            have hnb74 := NB116_123.out
            have hnc74 := NB123_116.out
            have hcz75_0 : w32.cell? ⟨gb116, 0, none⟩ = some (.int .i64 t110) := (blk_cell BK116.out 0).trans rfl
            have hcz75_1 : w32.cell? ⟨gb116, 1, none⟩ = some (.int .i64 t111) := (blk_cell BK116.out 1).trans rfl
            have hfz75_0 := blk_frozen BK116.out 0
            have hfz75_1 := blk_frozen BK116.out 1
            have hnb76 := NB117_118.out
            have hnc76 := NB118_117.out
            have hnb77 := NB117_123.out
            have hnc77 := NB123_117.out
            have hcz78_0 : w32.cell? ⟨gb117, 0, none⟩ = some (.int .i64 t112) := (blk_cell BK117.out 0).trans rfl
            have hcz78_1 : w32.cell? ⟨gb117, 1, none⟩ = some (.int .i64 t113) := (blk_cell BK117.out 1).trans rfl
            have hfz78_0 := blk_frozen BK117.out 0
            have hfz78_1 := blk_frozen BK117.out 1
            go_wp2
            go_meet
            case rel => exact ⟨_, (true), (by first | rfl | (simp; done) | (simp [*]; done)), H', ⟨by first | omega | exact Nat.le_refl _⟩, ⟨by (with_reducible repeat (first | refine blk_drewN ?_ _ | refine blk_drew ?_ | refine blk_alloc ?_ _)); refine blk_far ?_ NB116_123.out _; (with_reducible repeat (first | refine blk_drewN ?_ _ | refine blk_drew ?_ | refine blk_alloc ?_ _)); refine blk_far ?_ NB116_123.out _; (with_reducible repeat (first | refine blk_drewN ?_ _ | refine blk_drew ?_ | refine blk_alloc ?_ _)); exact BK116.out⟩, ⟨by (with_reducible repeat (first | refine blk_drewN ?_ _ | refine blk_drew ?_ | refine blk_alloc ?_ _)); refine blk_far ?_ NB117_123.out _; (with_reducible repeat (first | refine blk_drewN ?_ _ | refine blk_drew ?_ | refine blk_alloc ?_ _)); refine blk_far ?_ NB117_123.out _; (with_reducible repeat (first | refine blk_drewN ?_ _ | refine blk_drew ?_ | refine blk_alloc ?_ _)); exact BK117.out⟩, ⟨by (with_reducible repeat (first | refine blk_drewN ?_ _ | refine blk_drew ?_ | refine blk_alloc ?_ _)); refine blk_far ?_ NB118_123.out _; (with_reducible repeat (first | refine blk_drewN ?_ _ | refine blk_drew ?_ | refine blk_alloc ?_ _)); refine blk_far ?_ NB118_123.out _; (with_reducible repeat (first | refine blk_drewN ?_ _ | refine blk_drew ?_ | refine blk_alloc ?_ _)); exact BK118.out⟩, ⟨by (with_reducible repeat (first | refine blk_drewN ?_ _ | refine blk_drew ?_ | refine blk_alloc ?_ _)); refine blk_put (cs := #[.int .i64 t120, .int .i64 0]) ?_ 1 _ rfl; (with_reducible repeat (first | refine blk_drewN ?_ _ | refine blk_drew ?_ | refine blk_alloc ?_ _)); refine blk_put (cs := #[.int .i64 0, .int .i64 0]) ?_ 0 _ rfl; (with_reducible repeat (first | refine blk_drewN ?_ _ | refine blk_drew ?_ | refine blk_alloc ?_ _)); exact BK123.out⟩, ⟨by repeat (first | (with_reducible first | exact HB.out | apply below_alloc | apply pw_below_drewN | apply below_drew1 | refine below_set ?_ GE116.out | refine below_set ?_ GE117.out | refine below_set ?_ GE118.out | refine below_set ?_ GE123.out) | exact HB.out)⟩⟩
          · rw [if_neg c71] at H
            have c71b0 : (t119 != (t122 == 0)) = false := by simpa using c71
            (try (have c71b1 : decide (t119 = (t122 == 0)) = true := by simpa using c71))
            (try (have c71b2 : (t119 == (t122 == 0)) = true := by simpa using c71))
            clear c71
            replace H := Option.bind_eq_some_iff.mp H
            obtain ⟨t125, A790, H⟩ := H
            replace H : (joinerylaw1_VecFits.j0 k t119 (!t125) t110 t111 t112 t113 t114 t115) = some r := H
            have A79 := Aside0.mk A790
            clear A790
            have H' := Aside0.mk H
            clear H
            have hnb80 := NB116_117.out
            have hnc80 := NB117_116.out
            have hnb81 := NB116_118.out
            have hnc81 := NB118_116.out
            have hnb82 := NB116_123.out
            have hnc82 := NB123_116.out
            have hcz83_0 : w32.cell? ⟨gb116, 0, none⟩ = some (.int .i64 t110) := (blk_cell BK116.out 0).trans rfl
            have hcz83_1 : w32.cell? ⟨gb116, 1, none⟩ = some (.int .i64 t111) := (blk_cell BK116.out 1).trans rfl
            have hfz83_0 := blk_frozen BK116.out 0
            have hfz83_1 := blk_frozen BK116.out 1
            have hnb84 := NB117_118.out
            have hnc84 := NB118_117.out
            have hnb85 := NB117_123.out
            have hnc85 := NB123_117.out
            have hcz86_0 : w32.cell? ⟨gb117, 0, none⟩ = some (.int .i64 t112) := (blk_cell BK117.out 0).trans rfl
            have hcz86_1 : w32.cell? ⟨gb117, 1, none⟩ = some (.int .i64 t113) := (blk_cell BK117.out 1).trans rfl
            have hfz86_0 := blk_frozen BK117.out 0
            have hfz86_1 := blk_frozen BK117.out 1
            go_wp2_with (first | (go_at_call 13; (with_reducible refine (vec_Fits.calls t110 t111 t110 t111 t125 _ A79.out).mono ?_); rintro e w87 ⟨rfl, hb⟩; have n0_ := Aside0.mk (blk_below (g := gb116) (o := .cells #[.int .i64 t110, .int .i64 t111] 25 (0, 0)) (by (with_reducible repeat (first | refine blk_drewN ?_ _ | refine blk_drew ?_ | refine blk_alloc ?_ _)); refine blk_far ?_ NB116_123.out _; (with_reducible repeat (first | refine blk_drewN ?_ _ | refine blk_drew ?_ | refine blk_alloc ?_ _)); refine blk_far ?_ NB116_123.out _; (with_reducible repeat (first | refine blk_drewN ?_ _ | refine blk_drew ?_ | refine blk_alloc ?_ _)); exact BK116.out) hb); have n1_ := Aside0.mk (blk_below (g := gb117) (o := .cells #[.int .i64 t112, .int .i64 t113] 25 (0, 0)) (by (with_reducible repeat (first | refine blk_drewN ?_ _ | refine blk_drew ?_ | refine blk_alloc ?_ _)); refine blk_far ?_ NB117_123.out _; (with_reducible repeat (first | refine blk_drewN ?_ _ | refine blk_drew ?_ | refine blk_alloc ?_ _)); refine blk_far ?_ NB117_123.out _; (with_reducible repeat (first | refine blk_drewN ?_ _ | refine blk_drew ?_ | refine blk_alloc ?_ _)); exact BK117.out) hb); have n2_ := Aside0.mk (blk_below (g := gb118) (o := .cells #[.int .i64 t114, .int .i64 t115] 25 (0, 0)) (by (with_reducible repeat (first | refine blk_drewN ?_ _ | refine blk_drew ?_ | refine blk_alloc ?_ _)); refine blk_far ?_ NB118_123.out _; (with_reducible repeat (first | refine blk_drewN ?_ _ | refine blk_drew ?_ | refine blk_alloc ?_ _)); refine blk_far ?_ NB118_123.out _; (with_reducible repeat (first | refine blk_drewN ?_ _ | refine blk_drew ?_ | refine blk_alloc ?_ _)); exact BK118.out) hb); have n3_ := Aside0.mk (blk_below (g := gb123) (o := .cells #[.int .i64 t120, .int .i64 t121] 25 (0, 0)) (by (with_reducible repeat (first | refine blk_drewN ?_ _ | refine blk_drew ?_ | refine blk_alloc ?_ _)); refine blk_put (cs := #[.int .i64 t120, .int .i64 0]) ?_ 1 _ rfl; (with_reducible repeat (first | refine blk_drewN ?_ _ | refine blk_drew ?_ | refine blk_alloc ?_ _)); refine blk_put (cs := #[.int .i64 0, .int .i64 0]) ?_ 0 _ rfl; (with_reducible repeat (first | refine blk_drewN ?_ _ | refine blk_drew ?_ | refine blk_alloc ?_ _)); exact BK123.out) hb); have n4_ := Aside0.mk (below_step (by repeat (first | (with_reducible first | exact HB.out | apply below_alloc | apply pw_below_drewN | apply below_drew1 | refine below_set ?_ GE116.out | refine below_set ?_ GE117.out | refine below_set ?_ GE118.out | refine below_set ?_ GE123.out) | exact HB.out)) hb); clear BK116; clear BK117; clear BK118; clear BK123; clear HB; have BK116 := n0_; have BK117 := n1_; have BK118 := n2_; have BK123 := n3_; have HB := n4_; clear n0_ n1_ n2_ n3_ n4_; (try clear hb); (try clear hb2); (try clear hk); (try clear hi)))
            go_meet
            case rel => exact ⟨_, (!t125), (by first | rfl | (simp; done) | (simp [*]; done)), H', ⟨by first | omega | exact Nat.le_refl _⟩, ⟨by (with_reducible repeat (first | refine blk_drewN ?_ _ | refine blk_drew ?_ | refine blk_alloc ?_ _)); exact BK116.out⟩, ⟨by (with_reducible repeat (first | refine blk_drewN ?_ _ | refine blk_drew ?_ | refine blk_alloc ?_ _)); exact BK117.out⟩, ⟨by (with_reducible repeat (first | refine blk_drewN ?_ _ | refine blk_drew ?_ | refine blk_alloc ?_ _)); exact BK118.out⟩, ⟨by (with_reducible repeat (first | refine blk_drewN ?_ _ | refine blk_drew ?_ | refine blk_alloc ?_ _)); exact BK123.out⟩, ⟨by repeat (first | (with_reducible first | exact HB.out | apply below_alloc | apply pw_below_drewN | apply below_drew1 | refine below_set ?_ GE116.out | refine below_set ?_ GE117.out | refine below_set ?_ GE118.out | refine below_set ?_ GE123.out) | exact HB.out)⟩⟩
    case rest =>
      clear HC17
      try clear c1
      try clear c2
      try clear p2
      try clear c3
      try clear c4
      try clear c5
      try clear c6
      try clear c7
      try clear c8
      try clear c11
      try clear c12
      try clear c13
      try clear c14
      try clear c22
      try clear c23
      try clear c25
      try clear c33
      try clear c34
      try clear c35
      try clear c37
      try clear c37b0
      try clear c38
      try clear c38b0
      try clear c38b1
      try clear c38b2
      try clear c39
      try clear c40
      try clear c41
      try clear c43
      try clear c44
      try clear c46
      try clear c46b0
      try clear c46b1
      try clear c46b2
      try clear c47
      try clear c48
      try clear c49
      try clear c51
      try clear c52
      try clear c55
      try clear c56
      try clear c57
      try clear c59
      try clear c60
      try clear c63
      try clear c63b0
      try clear c63b1
      try clear c63b2
      try clear c64
      try clear c65
      try clear c66
      try clear c68
      try clear c69
      try clear c71
      try clear c71b0
      try clear c71b1
      try clear c71b2
      try clear c72
      try clear c73
      try clear c74
      try clear c76
      try clear c77
      try clear c80
      try clear c81
      try clear c82
      try clear c84
      try clear c85
      try clear hcz24_0
      try clear hcz24_1
      try clear hcz26_0
      try clear hcz26_1
      try clear hcz27_0
      try clear hcz27_1
      try clear hcz29_0
      try clear hcz29_1
      try clear hcz30_0
      try clear hcz30_1
      try clear hcz36_0
      try clear hcz36_1
      try clear hcz42_0
      try clear hcz42_1
      try clear hcz45_0
      try clear hcz45_1
      try clear hcz50_0
      try clear hcz50_1
      try clear hcz53_0
      try clear hcz53_1
      try clear hcz58_0
      try clear hcz58_1
      try clear hcz61_0
      try clear hcz61_1
      try clear hcz67_0
      try clear hcz67_1
      try clear hcz70_0
      try clear hcz70_1
      try clear hcz75_0
      try clear hcz75_1
      try clear hcz78_0
      try clear hcz78_1
      try clear hcz83_0
      try clear hcz83_1
      try clear hcz86_0
      try clear hcz86_1
      try clear hfz24_0
      try clear hfz24_1
      try clear hfz26_0
      try clear hfz26_1
      try clear hfz27_0
      try clear hfz27_1
      try clear hfz29_0
      try clear hfz29_1
      try clear hfz30_0
      try clear hfz30_1
      try clear hfz36_0
      try clear hfz36_1
      try clear hfz42_0
      try clear hfz42_1
      try clear hfz45_0
      try clear hfz45_1
      try clear hfz50_0
      try clear hfz50_1
      try clear hfz53_0
      try clear hfz53_1
      try clear hfz58_0
      try clear hfz58_1
      try clear hfz61_0
      try clear hfz61_1
      try clear hfz67_0
      try clear hfz67_1
      try clear hfz70_0
      try clear hfz70_1
      try clear hfz75_0
      try clear hfz75_1
      try clear hfz78_0
      try clear hfz78_1
      try clear hfz83_0
      try clear hfz83_1
      try clear hfz86_0
      try clear hfz86_1
      obtain ⟨kq, x70_16, rfl, HA, HJ16, BK116, BK117, BK118, BK123, HB⟩ := hcut
      cases kq with
      | zero => exact absurd HA.out (by simp [joinerylaw1_VecFits.j0])
      | succ kj16 =>
        have H := HA.out
        clear HA
        simp only [joinerylaw1_VecFits.j0] at H
        by_cases c88 : x70_16 = true
        · subst c88
          have H1 : (some false) = some r := by rw [if_pos rfl] at H; exact H
          clear H
          have H := H1
          clear H1
          obtain rfl := Option.some.inj H
          exact absurd hT_.out (by simp)
        · replace c88 := Bool.eq_false_iff.mpr c88
          subst c88
          have H1 : (if t119 = true then ((vec_Fits.f t112 t113 t114 t115).bind fun t126 => (if t126 = true then ((vec_Fits.f t110 t111 t114 t115).bind fun t127 => (some t127)) else (some true))) else (some true)) = some r := by rw [if_neg (show ¬ (false = true) by decide)] at H; exact H
          clear H
          have H := H1
          clear H1
          by_cases c89 : t119 = true
          · subst c89
            have H1 : ((vec_Fits.f t112 t113 t114 t115).bind fun t126 => (if t126 = true then ((vec_Fits.f t110 t111 t114 t115).bind fun t127 => (some t127)) else (some true))) = some r := by rw [if_pos rfl] at H; exact H
            clear H
            have H := H1
            clear H1
            replace H := Option.bind_eq_some_iff.mp H
            obtain ⟨t126, A900, H⟩ := H
            replace H : (if t126 = true then ((vec_Fits.f t110 t111 t114 t115).bind fun t127 => (some t127)) else (some true)) = some r := H
            have A90 := Aside0.mk A900
            clear A900
            by_cases c91 : t126 = true
            · subst c91
              have H1 : ((vec_Fits.f t110 t111 t114 t115).bind fun t127 => (some t127)) = some r := by rw [if_pos rfl] at H; exact H
              clear H
              have H := H1
              clear H1
              replace H := Option.bind_eq_some_iff.mp H
              obtain ⟨t127, A920, H⟩ := H
              replace H : (some t127) = some r := H
              have A92 := Aside0.mk A920
              clear A920
              obtain rfl := Option.some.inj H
              have hnb93 := NB117_116.out
              have hnc93 := NB116_117.out
              have hnb94 := NB117_118.out
              have hnc94 := NB118_117.out
              have hnb95 := NB117_123.out
              have hnc95 := NB123_117.out
              have hcz96_0 : wc.cell? ⟨gb117, 0, none⟩ = some (.int .i64 t112) := (blk_cell BK117.out 0).trans rfl
              have hcz96_1 : wc.cell? ⟨gb117, 1, none⟩ = some (.int .i64 t113) := (blk_cell BK117.out 1).trans rfl
              have hfz96_0 := blk_frozen BK117.out 0
              have hfz96_1 := blk_frozen BK117.out 1
              have hnb97 := NB118_116.out
              have hnc97 := NB116_118.out
              have hnb98 := NB118_123.out
              have hnc98 := NB123_118.out
              have hcz99_0 : wc.cell? ⟨gb118, 0, none⟩ = some (.int .i64 t114) := (blk_cell BK118.out 0).trans rfl
              have hcz99_1 : wc.cell? ⟨gb118, 1, none⟩ = some (.int .i64 t115) := (blk_cell BK118.out 1).trans rfl
              have hfz99_0 := blk_frozen BK118.out 0
              have hfz99_1 := blk_frozen BK118.out 1
              go_wp2_with (first | (go_at_call 13; (with_reducible refine (vec_Fits.calls t112 t113 t114 t115 true _ A90.out).mono ?_); rintro e w100 ⟨rfl, hb⟩; have n0_ := Aside0.mk (blk_below (g := gb116) (o := .cells #[.int .i64 t110, .int .i64 t111] 25 (0, 0)) (by (with_reducible repeat (first | refine blk_drewN ?_ _ | refine blk_drew ?_ | refine blk_alloc ?_ _)); exact BK116.out) hb); have n1_ := Aside0.mk (blk_below (g := gb117) (o := .cells #[.int .i64 t112, .int .i64 t113] 25 (0, 0)) (by (with_reducible repeat (first | refine blk_drewN ?_ _ | refine blk_drew ?_ | refine blk_alloc ?_ _)); exact BK117.out) hb); have n2_ := Aside0.mk (blk_below (g := gb118) (o := .cells #[.int .i64 t114, .int .i64 t115] 25 (0, 0)) (by (with_reducible repeat (first | refine blk_drewN ?_ _ | refine blk_drew ?_ | refine blk_alloc ?_ _)); exact BK118.out) hb); have n3_ := Aside0.mk (blk_below (g := gb123) (o := .cells #[.int .i64 t120, .int .i64 t121] 25 (0, 0)) (by (with_reducible repeat (first | refine blk_drewN ?_ _ | refine blk_drew ?_ | refine blk_alloc ?_ _)); exact BK123.out) hb); have n4_ := Aside0.mk (below_step (by repeat (first | (with_reducible first | exact HB.out | apply below_alloc | apply pw_below_drewN | apply below_drew1 | refine below_set ?_ GE116.out | refine below_set ?_ GE117.out | refine below_set ?_ GE118.out | refine below_set ?_ GE123.out) | exact HB.out)) hb); clear BK116; clear BK117; clear BK118; clear BK123; clear HB; have BK116 := n0_; have BK117 := n1_; have BK118 := n2_; have BK123 := n3_; have HB := n4_; clear n0_ n1_ n2_ n3_ n4_; (try clear hb); (try clear hb2); (try clear hk); (try clear hi); have hnb101 := NB116_123.out; have hnc101 := NB123_116.out; have hcz102_0 : w100.cell? ⟨gb116, 0, none⟩ = some (.int .i64 t110) := (blk_cell BK116.out 0).trans rfl; have hcz102_1 : w100.cell? ⟨gb116, 1, none⟩ = some (.int .i64 t111) := (blk_cell BK116.out 1).trans rfl; have hfz102_0 := blk_frozen BK116.out 0; have hfz102_1 := blk_frozen BK116.out 1; have hcz103_0 : w100.cell? ⟨gb118, 0, none⟩ = some (.int .i64 t114) := (blk_cell BK118.out 0).trans rfl; have hcz103_1 : w100.cell? ⟨gb118, 1, none⟩ = some (.int .i64 t115) := (blk_cell BK118.out 1).trans rfl; have hfz103_0 := blk_frozen BK118.out 0; have hfz103_1 := blk_frozen BK118.out 1) | (go_at_call 13; (with_reducible refine (vec_Fits.calls t110 t111 t114 t115 t127 _ A92.out).mono ?_); rintro e w104 ⟨rfl, hb⟩; have n0_ := Aside0.mk (blk_below (g := gb116) (o := .cells #[.int .i64 t110, .int .i64 t111] 25 (0, 0)) (by (with_reducible repeat (first | refine blk_drewN ?_ _ | refine blk_drew ?_ | refine blk_alloc ?_ _)); exact BK116.out) hb); have n1_ := Aside0.mk (blk_below (g := gb117) (o := .cells #[.int .i64 t112, .int .i64 t113] 25 (0, 0)) (by (with_reducible repeat (first | refine blk_drewN ?_ _ | refine blk_drew ?_ | refine blk_alloc ?_ _)); exact BK117.out) hb); have n2_ := Aside0.mk (blk_below (g := gb118) (o := .cells #[.int .i64 t114, .int .i64 t115] 25 (0, 0)) (by (with_reducible repeat (first | refine blk_drewN ?_ _ | refine blk_drew ?_ | refine blk_alloc ?_ _)); exact BK118.out) hb); have n3_ := Aside0.mk (blk_below (g := gb123) (o := .cells #[.int .i64 t120, .int .i64 t121] 25 (0, 0)) (by (with_reducible repeat (first | refine blk_drewN ?_ _ | refine blk_drew ?_ | refine blk_alloc ?_ _)); exact BK123.out) hb); have n4_ := Aside0.mk (below_step (by repeat (first | (with_reducible first | exact HB.out | apply below_alloc | apply pw_below_drewN | apply below_drew1 | refine below_set ?_ GE116.out | refine below_set ?_ GE117.out | refine below_set ?_ GE118.out | refine below_set ?_ GE123.out) | exact HB.out)) hb); clear BK116; clear BK117; clear BK118; clear BK123; clear HB; have BK116 := n0_; have BK117 := n1_; have BK118 := n2_; have BK123 := n3_; have HB := n4_; clear n0_ n1_ n2_ n3_ n4_; (try clear hb); (try clear hb2); (try clear hk); (try clear hi)))
              go_ret
              exact ⟨by first | rfl | (simp [errW_none, errW_some] <;> rfl) | (simp [*, errW_none, errW_some] <;> rfl), by repeat (first | (with_reducible first | exact HB.out | apply below_alloc | apply pw_below_drewN | apply below_drew1 | refine below_set ?_ GE116.out | refine below_set ?_ GE117.out | refine below_set ?_ GE118.out | refine below_set ?_ GE123.out) | exact HB.out)⟩
            · replace c91 := Bool.eq_false_iff.mpr c91
              subst c91
              have H1 : (some true) = some r := by rw [if_neg (show ¬ (false = true) by decide)] at H; exact H
              clear H
              have H := H1
              clear H1
              obtain rfl := Option.some.inj H
              have hnb105 := NB117_116.out
              have hnc105 := NB116_117.out
              have hnb106 := NB117_118.out
              have hnc106 := NB118_117.out
              have hnb107 := NB117_123.out
              have hnc107 := NB123_117.out
              have hcz108_0 : wc.cell? ⟨gb117, 0, none⟩ = some (.int .i64 t112) := (blk_cell BK117.out 0).trans rfl
              have hcz108_1 : wc.cell? ⟨gb117, 1, none⟩ = some (.int .i64 t113) := (blk_cell BK117.out 1).trans rfl
              have hfz108_0 := blk_frozen BK117.out 0
              have hfz108_1 := blk_frozen BK117.out 1
              have hnb109 := NB118_116.out
              have hnc109 := NB116_118.out
              have hnb110 := NB118_123.out
              have hnc110 := NB123_118.out
              have hcz111_0 : wc.cell? ⟨gb118, 0, none⟩ = some (.int .i64 t114) := (blk_cell BK118.out 0).trans rfl
              have hcz111_1 : wc.cell? ⟨gb118, 1, none⟩ = some (.int .i64 t115) := (blk_cell BK118.out 1).trans rfl
              have hfz111_0 := blk_frozen BK118.out 0
              have hfz111_1 := blk_frozen BK118.out 1
              go_wp2_with (first | (go_at_call 13; (with_reducible refine (vec_Fits.calls t112 t113 t114 t115 false _ A90.out).mono ?_); rintro e w112 ⟨rfl, hb⟩; have n0_ := Aside0.mk (blk_below (g := gb116) (o := .cells #[.int .i64 t110, .int .i64 t111] 25 (0, 0)) (by (with_reducible repeat (first | refine blk_drewN ?_ _ | refine blk_drew ?_ | refine blk_alloc ?_ _)); exact BK116.out) hb); have n1_ := Aside0.mk (blk_below (g := gb117) (o := .cells #[.int .i64 t112, .int .i64 t113] 25 (0, 0)) (by (with_reducible repeat (first | refine blk_drewN ?_ _ | refine blk_drew ?_ | refine blk_alloc ?_ _)); exact BK117.out) hb); have n2_ := Aside0.mk (blk_below (g := gb118) (o := .cells #[.int .i64 t114, .int .i64 t115] 25 (0, 0)) (by (with_reducible repeat (first | refine blk_drewN ?_ _ | refine blk_drew ?_ | refine blk_alloc ?_ _)); exact BK118.out) hb); have n3_ := Aside0.mk (blk_below (g := gb123) (o := .cells #[.int .i64 t120, .int .i64 t121] 25 (0, 0)) (by (with_reducible repeat (first | refine blk_drewN ?_ _ | refine blk_drew ?_ | refine blk_alloc ?_ _)); exact BK123.out) hb); have n4_ := Aside0.mk (below_step (by repeat (first | (with_reducible first | exact HB.out | apply below_alloc | apply pw_below_drewN | apply below_drew1 | refine below_set ?_ GE116.out | refine below_set ?_ GE117.out | refine below_set ?_ GE118.out | refine below_set ?_ GE123.out) | exact HB.out)) hb); clear BK116; clear BK117; clear BK118; clear BK123; clear HB; have BK116 := n0_; have BK117 := n1_; have BK118 := n2_; have BK123 := n3_; have HB := n4_; clear n0_ n1_ n2_ n3_ n4_; (try clear hb); (try clear hb2); (try clear hk); (try clear hi)))
              go_ret
              exact ⟨by first | rfl | (simp [errW_none, errW_some] <;> rfl) | (simp [*, errW_none, errW_some] <;> rfl), by repeat (first | (with_reducible first | exact HB.out | apply below_alloc | apply pw_below_drewN | apply below_drew1 | refine below_set ?_ GE116.out | refine below_set ?_ GE117.out | refine below_set ?_ GE118.out | refine below_set ?_ GE123.out) | exact HB.out)⟩
          · replace c89 := Bool.eq_false_iff.mpr c89
            subst c89
            have H1 : (some true) = some r := by rw [if_neg (show ¬ (false = true) by decide)] at H; exact H
            clear H
            have H := H1
            clear H1
            obtain rfl := Option.some.inj H
            go_wp2
            go_ret
            exact ⟨by first | rfl | (simp [errW_none, errW_some] <;> rfl) | (simp [*, errW_none, errW_some] <;> rfl), by repeat (first | (with_reducible first | exact HB.out | apply below_alloc | apply pw_below_drewN | apply below_drew1 | refine below_set ?_ GE116.out | refine below_set ?_ GE117.out | refine below_set ?_ GE118.out | refine below_set ?_ GE123.out) | exact HB.out)⟩
  · replace c8 := Bool.eq_false_iff.mpr c8
    subst c8
    have H1 : (some false) = some r := by rw [if_neg (show ¬ (false = true) by decide)] at H; exact H
    clear H
    have H := H1
    clear H1
    obtain rfl := Option.some.inj H
    exact absurd hT_.out (by simp)

/-- THE ONE PURE STATEMENT of joinerylaw1_VecFits: yours. -/
def joinerylaw1_VecFits.Pure : Prop := ∀ (a0 : Int) (a1 : Int) (a2 : Int) (a3 : Int) (a4 : Int) (a5 : Int), (Lit.int .i64 a0).wf = true → (Lit.int .i64 a1).wf = true → (Lit.int .i64 a2).wf = true → (Lit.int .i64 a3).wf = true → (Lit.int .i64 a4).wf = true → (Lit.int .i64 a5).wf = true → ∃ k, joinerylaw1_VecFits.f k a0 a1 a2 a3 a4 a5 = some true
theorem joinerylaw1_VecFits.walk (P : joinerylaw1_VecFits.Pure) (a0 : Int) (a1 : Int) (a2 : Int) (a3 : Int) (a4 : Int) (a5 : Int) (w : World) (w0 : (Lit.int .i64 a0).wf = true) (w1 : (Lit.int .i64 a1).wf = true) (w2 : (Lit.int .i64 a2).wf = true) (w3 : (Lit.int .i64 a3).wf = true) (w4 : (Lit.int .i64 a4).wf = true) (w5 : (Lit.int .i64 a5).wf = true) :
    Calls Try.prog 3 #[.int .i64 a0, .int .i64 a1, .int .i64 a2, .int .i64 a3, .int .i64 a4, .int .i64 a5] w fun e w' => e = .returned (.bool true) ∧ Below w.heap.size w w' := by
  obtain ⟨k, h⟩ := P a0 a1 a2 a3 a4 a5 w0 w1 w2 w3 w4 w5
  refine (joinerylaw1_VecFits.calls k a0 a1 a2 a3 a4 a5 true w ⟨rfl⟩ h).mono ?_
  rintro e w' ⟨rfl, hd⟩
  exact ⟨rfl, hd⟩

/-! ### joinerylaw1_Edge: function 15 -/
def joinerylaw1_Edge.f (a0 : Int) : Option (Int) := (joinerylaw1_within.f (wrap64 (Int.tdiv a0 8)) 1000).bind fun t128 => ((some (([t128, t128, wrap64 (9223372036854775807 - t128), wrap64 (4611686018427387903 + t128), wrap64 (4611686018427387903 - t128), wrap64 (-t128), wrap64 (1099511627776 - t128), wrap64 ((-9223372036854775808) + t128)] : List Int) : List Int)).bind fun y129 => ((joinerylaw1_within.f a0 8).bind fun t132 => (if 0 ≤ t132 then (if t132 < (y129.length : Int) then (some (rd y129 t132)) else (none)) else (none))))
set_option maxHeartbeats 8000000 in
set_option maxRecDepth 100000 in
theorem joinerylaw1_Edge.calls (a0 : Int) (r : Int) (w : World) (h : joinerylaw1_Edge.f a0 = some r) :
    Calls Try.prog 15 #[.int .i64 a0] w fun e w' => e = .returned (.int .i64 r) ∧ Below w.heap.size w w' := by
  have HB := Aside0.mk (Below.refl w.heap.size w)
  have H : ((joinerylaw1_within.f (wrap64 (Int.tdiv a0 8)) 1000).bind fun t128 => ((some (([t128, t128, wrap64 (9223372036854775807 - t128), wrap64 (4611686018427387903 + t128), wrap64 (4611686018427387903 - t128), wrap64 (-t128), wrap64 (1099511627776 - t128), wrap64 ((-9223372036854775808) + t128)] : List Int) : List Int)).bind fun y129 => ((joinerylaw1_within.f a0 8).bind fun t132 => (if 0 ≤ t132 then (if t132 < (y129.length : Int) then (some (rd y129 t132)) else (none)) else (none))))) = some r := h
  clear h
  replace H := Option.bind_eq_some_iff.mp H
  obtain ⟨t128, A20, H⟩ := H
  replace H : ((some (([t128, t128, wrap64 (9223372036854775807 - t128), wrap64 (4611686018427387903 + t128), wrap64 (4611686018427387903 - t128), wrap64 (-t128), wrap64 (1099511627776 - t128), wrap64 ((-9223372036854775808) + t128)] : List Int) : List Int)).bind fun y129 => ((joinerylaw1_within.f a0 8).bind fun t132 => (if 0 ≤ t132 then (if t132 < (y129.length : Int) then (some (rd y129 t132)) else (none)) else (none)))) = some r := H
  have A2 := Aside0.mk A20
  clear A20
  obtain ⟨y129, hy129⟩ : ∃ y_ : List Int, y_ = (([t128, t128, wrap64 (9223372036854775807 - t128), wrap64 (4611686018427387903 + t128), wrap64 (4611686018427387903 - t128), wrap64 (-t128), wrap64 (1099511627776 - t128), wrap64 ((-9223372036854775808) + t128)] : List Int)) := ⟨_, rfl⟩
  replace H : ((joinerylaw1_within.f a0 8).bind fun t132 => (if 0 ≤ t132 then (if t132 < (y129.length : Int) then (some (rd y129 t132)) else (none)) else (none))) = some r := by first | (rw [hy129]; with_reducible exact H) | (have H2_ := (Option.bind_some _ _).symm.trans H; rw [hy129]; with_reducible exact H2_) | (have H2_ := (Option.bind_some _ _).symm.trans H; with_reducible exact H2_) | with_reducible exact H | (rw [hy129]; exact H) | exact H
  have Ny129 := Aside0.mk hy129
  clear hy129
  replace H := Option.bind_eq_some_iff.mp H
  obtain ⟨t132, A30, H⟩ := H
  replace H : (if 0 ≤ t132 then (if t132 < (y129.length : Int) then (some (rd y129 t132)) else (none)) else (none)) = some r := H
  have A3 := Aside0.mk A30
  clear A30
  by_cases c4 : 0 ≤ t132
  · rw [if_pos c4] at H
    have c4b0 : decide (0 ≤ t132) = true := decide_eq_true c4
    clear c4
    by_cases c5 : t132 < (y129.length : Int)
    · rw [if_pos c5] at H
      have c5b0 : decide (t132 < (y129.length : Int)) = true := decide_eq_true c5
      clear c5
      obtain rfl := Option.some.inj H
      go_enter Try.func15, Try.ntmps15
      go_wp2_with (first | ((with_reducible refine gate_callee (f := 12) rfl ?_); refine goesL_ (some 6) rfl rfl Try.func12 (by kernel_rfl) rfl #[.int .i64 (wrap64 (Int.tdiv a0 8)), .int .i64 1000] rfl (by (try simp only [List.map_toArray, List.map_cons, List.map_nil]); first | done | rfl | (simp only [List.length_drop, List.length_take]; rfl)) ?_; (with_reducible refine (joinerylaw1_within.calls (wrap64 (Int.tdiv a0 8)) 1000 t128 _ A2.out).mono ?_); rintro e w' ⟨rfl, ⟨nd, rfl⟩⟩; refine ⟨_, rfl, ?_⟩) | ((with_reducible refine gate_dst (N := 21) rfl ?_); refine Kd.R_lit (Kd.int .i64) _ 3 ?hg (N := 21) ?hd (xs := ([t128, t128, wrap64 (9223372036854775807 - t128), wrap64 (4611686018427387903 + t128), wrap64 (4611686018427387903 - t128), wrap64 (-t128), wrap64 (1099511627776 - t128), wrap64 ((-9223372036854775808) + t128)] : List Int)) (inner := [.int .i64 t128, .int .i64 t128, .int .i64 (wrap64 (9223372036854775807 - t128)), .int .i64 (wrap64 (4611686018427387903 + t128)), .int .i64 (wrap64 (4611686018427387903 - t128)), .int .i64 (wrap64 (-t128)), .int .i64 (wrap64 (1099511627776 - t128)), .int .i64 (wrap64 ((-9223372036854775808) + t128))]) (ok := fun _ => True) (okp := fun _ => True) ?hr ?hp (fun _ hk => hk) trivial (Below.refl _ _) (Nat.le_refl _) (by simp) ?_; (case hd => rfl); (case hg => rfl); (case hr => first | (go_simp; done) | (go_simp; rfl)); (case hp => exact (Reps.one (show Kd.M (Kd.int .i64) _ _ _ t128 [.int .i64 t128] from rfl) (Reps.one (show Kd.M (Kd.int .i64) _ _ _ t128 [.int .i64 t128] from rfl) (Reps.one (show Kd.M (Kd.int .i64) _ _ _ (wrap64 (9223372036854775807 - t128)) [.int .i64 (wrap64 (9223372036854775807 - t128))] from rfl) (Reps.one (show Kd.M (Kd.int .i64) _ _ _ (wrap64 (4611686018427387903 + t128)) [.int .i64 (wrap64 (4611686018427387903 + t128))] from rfl) (Reps.one (show Kd.M (Kd.int .i64) _ _ _ (wrap64 (4611686018427387903 - t128)) [.int .i64 (wrap64 (4611686018427387903 - t128))] from rfl) (Reps.one (show Kd.M (Kd.int .i64) _ _ _ (wrap64 (-t128)) [.int .i64 (wrap64 (-t128))] from rfl) (Reps.one (show Kd.M (Kd.int .i64) _ _ _ (wrap64 (1099511627776 - t128)) [.int .i64 (wrap64 (1099511627776 - t128))] from rfl) (Reps.one (show Kd.M (Kd.int .i64) _ _ _ (wrap64 ((-9223372036854775808) + t128)) [.int .i64 (wrap64 ((-9223372036854775808) + t128))] from rfl) (Reps.none _ _)))))))))); intro v130 w6 ho7 hb hg_ hnew_; clear hg_ hnew_; (first | rw [← Ny129.out] at ho7 | (simp only [Int.reduceToNat] at ho7; rw [← Ny129.out] at ho7)); have n0_ := Aside0.mk (Kd.R_lower ho7 (below_size (by repeat (first | (with_reducible first | exact HB.out | apply below_alloc | apply pw_below_drewN | apply below_drew1) | exact HB.out)))); have n1_ := Aside0.mk (below_step (by repeat (first | (with_reducible first | exact HB.out | apply below_alloc | apply pw_below_drewN | apply below_drew1) | exact HB.out)) hb); clear HB; have HO131 := n0_; have HB := n1_; clear n0_ n1_; clear hb ho7) | ((with_reducible refine gate_callee (f := 12) rfl ?_); refine goesL_ (some 23) rfl rfl Try.func12 (by kernel_rfl) rfl #[.int .i64 a0, .int .i64 8] rfl (by (try simp only [List.map_toArray, List.map_cons, List.map_nil]); first | done | rfl | (simp only [List.length_drop, List.length_take]; rfl)) ?_; (with_reducible refine (joinerylaw1_within.calls a0 8 t132 _ A3.out).mono ?_); rintro e w' ⟨rfl, ⟨nd, rfl⟩⟩; refine ⟨_, rfl, ?_⟩; obtain ⟨Ao8, co8, eo8⟩ := Kd.R_slice HO131.out; subst eo8; have p133 : 0 ≤ (t132 : Int) := of_decide_eq_true (by first | (with_reducible assumption) | assumption); have q133 : t132 < (y129.length : Int) := of_decide_eq_true (by first | (with_reducible assumption) | assumption); obtain ⟨ad133, e133, hx133_0⟩ := Kd.at_int (Kd.R_reads' HO131.out).2.2 t132 p133 q133; cases e133; replace p133 := eq_true p133; replace q133 := eq_true q133))
      go_ret
      exact ⟨by first | rfl | (simp [errW_none, errW_some] <;> rfl) | (simp [*, errW_none, errW_some] <;> rfl), by repeat (first | (with_reducible first | exact HB.out | apply below_alloc | apply pw_below_drewN | apply below_drew1) | exact HB.out)⟩
    · rw [if_neg c5] at H
      exact absurd H (by simp)
  · rw [if_neg c4] at H
    exact absurd H (by simp)

-- function 16 (vec_Add): its contract is proved by hand

/-! ### joineryref1_Right: function 21 -/
def joineryref1_Right.f (a0_0 : Int) (a0_1 : Int) : Option (Bool) := if a0_0 ≥ 0 then (some (decide (a0_1 ≥ 0))) else (some false)
set_option maxHeartbeats 8000000 in
set_option maxRecDepth 100000 in
theorem joineryref1_Right.calls (a0_0 : Int) (a0_1 : Int) (r : Bool) (w : World) (h : joineryref1_Right.f a0_0 a0_1 = some r) :
    Calls Try.prog 21 #[.agg #[.int .i64 a0_0, .int .i64 a0_1]] w fun e w' => e = .returned (.bool r) ∧ Below w.heap.size w w' := by
  have hu25 := Try.underlying25
  have HB := Aside0.mk (Below.refl w.heap.size w)
  have H : (if a0_0 ≥ 0 then (some (decide (a0_1 ≥ 0))) else (some false)) = some r := h
  clear h
  by_cases c2 : a0_0 ≥ 0
  · rw [if_pos c2] at H
    have c2b0 : decide (0 ≤ a0_0) = true := decide_eq_true c2
    clear c2
    obtain rfl := Option.some.inj H
    go_enter Try.func21, Try.ntmps21
    go_wp2_with (first | ((with_reducible refine gate_dst (N := 1) rfl ?_); refine box_event ?hg (N := 1) ?hd (cs := #[.int .i64 a0_0, .int .i64 a0_1]) (t := 25) ?hr ?_; (case hd => rfl); (case hg => rfl); (case hr => first | (go_simp; done) | (go_simp; rfl)); intro gb134 hg w3 hbox hb; have n0_ := Aside0.mk (below_step (by repeat (first | (with_reducible first | exact HB.out | apply below_alloc | apply pw_below_drewN | apply below_drew1) | exact HB.out)) hb); have n1_ := Aside0.mk (hbox); have n2_ := Aside0.mk ((by rw [hg]; exact (below_size (by repeat (first | (with_reducible first | exact HB.out | apply below_alloc | apply pw_below_drewN | apply below_drew1) | exact HB.out))) : w.heap.size ≤ gb134)); have n3_ := Aside0.mk ((by rw [hg]; exact (below_size (by repeat (first | (with_reducible first | exact HB.out | apply below_alloc | apply pw_below_drewN | apply below_drew1) | exact HB.out))) : w.heap.size ≤ gb134)); clear HB; have HB := n0_; have BK134 := n1_; have GW134 := n2_; have GE134 := n3_; clear n0_ n1_ n2_ n3_; clear hb hbox hg; have hcz4_0 : w3.cell? ⟨gb134, 0, none⟩ = some (.int .i64 a0_0) := (blk_cell BK134.out 0).trans rfl; have hcz4_1 : w3.cell? ⟨gb134, 1, none⟩ = some (.int .i64 a0_1) := (blk_cell BK134.out 1).trans rfl; have hfz4_0 := blk_frozen BK134.out 0; have hfz4_1 := blk_frozen BK134.out 1))
    go_ret
    exact ⟨by first | rfl | (simp [errW_none, errW_some] <;> rfl) | (simp [*, errW_none, errW_some] <;> rfl), by repeat (first | (with_reducible first | exact HB.out | apply below_alloc | apply pw_below_drewN | apply below_drew1 | refine below_set ?_ GE134.out) | exact HB.out)⟩
  · rw [if_neg c2] at H
    have c2b0 : decide (0 ≤ a0_0) = false := decide_eq_false c2
    clear c2
    obtain rfl := Option.some.inj H
    go_enter Try.func21, Try.ntmps21
    go_wp2_with (first | ((with_reducible refine gate_dst (N := 1) rfl ?_); refine box_event ?hg (N := 1) ?hd (cs := #[.int .i64 a0_0, .int .i64 a0_1]) (t := 25) ?hr ?_; (case hd => rfl); (case hg => rfl); (case hr => first | (go_simp; done) | (go_simp; rfl)); intro gb134 hg w5 hbox hb; have n0_ := Aside0.mk (below_step (by repeat (first | (with_reducible first | exact HB.out | apply below_alloc | apply pw_below_drewN | apply below_drew1) | exact HB.out)) hb); have n1_ := Aside0.mk (hbox); have n2_ := Aside0.mk ((by rw [hg]; exact (below_size (by repeat (first | (with_reducible first | exact HB.out | apply below_alloc | apply pw_below_drewN | apply below_drew1) | exact HB.out))) : w.heap.size ≤ gb134)); have n3_ := Aside0.mk ((by rw [hg]; exact (below_size (by repeat (first | (with_reducible first | exact HB.out | apply below_alloc | apply pw_below_drewN | apply below_drew1) | exact HB.out))) : w.heap.size ≤ gb134)); clear HB; have HB := n0_; have BK134 := n1_; have GW134 := n2_; have GE134 := n3_; clear n0_ n1_ n2_ n3_; clear hb hbox hg; have hcz6_0 : w5.cell? ⟨gb134, 0, none⟩ = some (.int .i64 a0_0) := (blk_cell BK134.out 0).trans rfl; have hcz6_1 : w5.cell? ⟨gb134, 1, none⟩ = some (.int .i64 a0_1) := (blk_cell BK134.out 1).trans rfl; have hfz6_0 := blk_frozen BK134.out 0; have hfz6_1 := blk_frozen BK134.out 1))
    go_ret
    exact ⟨by first | rfl | (simp [errW_none, errW_some] <;> rfl) | (simp [*, errW_none, errW_some] <;> rfl), by repeat (first | (with_reducible first | exact HB.out | apply below_alloc | apply pw_below_drewN | apply below_drew1 | refine below_set ?_ GE134.out) | exact HB.out)⟩

end Go.Proofs.Ytoijbokiechibaa.P
