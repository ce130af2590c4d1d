-- Printed by wip/tools/gprint.py (the kit's print, hand-proved contracts laid in): functions of the program as Lean functions, each with the proof that the machine's call comes to its answer.
import Derived.Test.YtciedbaeenhgkaaQx0
import Derived.Test.YtciedbaeenhgkaaQx2
namespace Go.Proofs.Ytciedbaeenhgkaa.Q
open Go.RowKit Go.Proofs.Ytciedbaeenhgkaa Go.Proofs.Ytciedbaeenhgkaa.Base Go.Proofs.Ytciedbaeenhgkaa.BaseM Go.Proofs.Ytciedbaeenhgkaa.BaseR Go.Proofs.YtciedbaeenhgkaaW.PrintWords Go.Proofs.YtciedbaeenhgkaaW.PrintLast Go.Proofs.YtciedbaeenhgkaaW.PrintMore
attribute [local go_sem] fwd_normal fwd_ret fwd_exit fwd_panic max2_int min2_int max_two min_two max_three min_three max_four min_four   -- for this text's walks alone
set_option linter.unusedVariables false
set_option linter.unusedSimpArgs false

/-! ### joinerylaw2_Set: function 19 -/
def joinerylaw2_Set.l0 : Nat → Int → List ByteArray → List ByteArray → Int → Option (List ByteArray)
  | 0, _, _, _, _ => none
  | k + 1, x0, x3, x4, x5 => if x5 < 4 then (if 0 ≤ (IntKind.u64.wrap (x5)) then ((joinerylaw2_within.f (shr .i64 x0 (IntKind.u64.wrap (x5))) 2).bind fun t123 => (if t123 = 1 then (if 0 ≤ x5 then (if x5 < (x3.length : Int) then (if x4.length < 8796093022208 then (joinerylaw2_Set.l0 k x0 x3 (x4 ++ [rdOf ByteArray.empty x3 x5]) (wrap64 (x5 + 1))) else (none)) else (none)) else (none)) else (joinerylaw2_Set.l0 k x0 x3 x4 (wrap64 (x5 + 1))))) else (none)) else (some x4)
def joinerylaw2_Set.f (k : Nat) (a0 : Int) : Option (List ByteArray) := joinerylaw2_Set.l0 k a0 (([(⟨#[98, 105, 103]⟩ : ByteArray), (⟨#[115, 115, 100]⟩ : ByteArray), (⟨#[119, 101, 115, 116]⟩ : ByteArray), (⟨#[206, 179]⟩ : ByteArray)] : List ByteArray)) ([] : List ByteArray) 0
theorem joinerylaw2_Set.mono_l : ∀ k, (∀ y0 y1 y2 y3, LeO (joinerylaw2_Set.l0 k y0 y1 y2 y3) (joinerylaw2_Set.l0 (k + 1) y0 y1 y2 y3))
  | 0 => fun _ _ _ _ r h => by simp [joinerylaw2_Set.l0] at h
  | k + 1 => by
    have ih0 := joinerylaw2_Set.mono_l k
    · intro y0 y1 y2 y3
      unfold joinerylaw2_Set.l0
      repeat' first
      | (with_reducible exact ih0 _ _ _ _)
      | (with_reducible exact LeO.refl _)
      | (with_reducible exact LeO.none _)
      | (with_reducible refine LeO.ite ?_ ?_)
      | (with_reducible refine LeO.bind ?_ (fun _ => ?_))
      | exact ih0 _ _ _ _
      | exact LeO.none _
      | refine LeO.ite ?_ ?_
      | refine LeO.bind ?_ (fun _ => ?_)
theorem joinerylaw2_Set.mono : ∀ a0 k, LeO (joinerylaw2_Set.f k a0) (joinerylaw2_Set.f (k + 1) a0) := by
  intro a0 k
  have ih0 := joinerylaw2_Set.mono_l k
  unfold joinerylaw2_Set.f
  repeat' first
      | (with_reducible exact ih0 _ _ _ _)
      | (with_reducible exact LeO.refl _)
      | (with_reducible exact LeO.none _)
      | (with_reducible refine LeO.ite ?_ ?_)
      | (with_reducible refine LeO.bind ?_ (fun _ => ?_))
      | exact ih0 _ _ _ _
      | exact LeO.none _
      | refine LeO.ite ?_ ?_
      | refine LeO.bind ?_ (fun _ => ?_)
set_option maxHeartbeats 8000000 in
set_option maxRecDepth 100000 in
theorem joinerylaw2_Set.calls (k : Nat) (a0 : Int) (r : List ByteArray) (w : World) (h : joinerylaw2_Set.f k a0 = some r) :
    Calls Try.prog 19 #[.int .i64 a0] w fun e w' => ∃ v0_ : Value, e = .returned (v0_) ∧ Kd.R Kd.string 9 w' w.heap.size (fun _ => True) v0_ r ∧ Below w.heap.size w w' := by
  have HB := Aside0.mk (Below.refl w.heap.size w)
  have H : (joinerylaw2_Set.l0 k a0 (([(⟨#[98, 105, 103]⟩ : ByteArray), (⟨#[115, 115, 100]⟩ : ByteArray), (⟨#[119, 101, 115, 116]⟩ : ByteArray), (⟨#[206, 179]⟩ : ByteArray)] : List ByteArray)) ([] : List ByteArray) 0) = some r := h
  clear h
  obtain ⟨y120, hy120⟩ : ∃ y_ : List ByteArray, y_ = (([(⟨#[98, 105, 103]⟩ : ByteArray), (⟨#[115, 115, 100]⟩ : ByteArray), (⟨#[119, 101, 115, 116]⟩ : ByteArray), (⟨#[206, 179]⟩ : ByteArray)] : List ByteArray)) := ⟨_, rfl⟩
  replace H : (joinerylaw2_Set.l0 k a0 y120 ([] : List ByteArray) 0) = some r := by first | (rw [hy120]; with_reducible exact H) | (have H2_ := (Option.bind_some _ _).symm.trans H; rw [hy120]; with_reducible exact H2_) | (have H2_ := (Option.bind_some _ _).symm.trans H; with_reducible exact H2_) | with_reducible exact H | (rw [hy120]; exact H) | exact H
  have Ny120 := Aside0.mk hy120
  clear hy120
  have H' := Aside0.mk H
  clear H
  go_enter Try.func19, Try.ntmps19
  go_wp2_with (first | ((with_reducible refine gate_dst (N := 6) rfl ?_); refine Kd.R_lit Kd.string _ 9 ?hg (N := 6) ?hd (xs := ([(⟨#[98, 105, 103]⟩ : ByteArray), (⟨#[115, 115, 100]⟩ : ByteArray), (⟨#[119, 101, 115, 116]⟩ : ByteArray), (⟨#[206, 179]⟩ : ByteArray)] : List ByteArray)) (inner := [.string (⟨#[98, 105, 103]⟩ : ByteArray), .string (⟨#[115, 115, 100]⟩ : ByteArray), .string (⟨#[119, 101, 115, 116]⟩ : ByteArray), .string (⟨#[206, 179]⟩ : ByteArray)]) (ok := fun _ => True) (okp := fun _ => True) ?hr ?hp (fun _ hk => hk) trivial (Below.refl _ _) (Nat.le_refl _) (by simp) ?_; (case hd => rfl); (case hg => rfl); (case hr => first | (go_simp; done) | (go_simp; rfl)); (case hp => exact (Reps.one (show Kd.M Kd.string _ _ _ (⟨#[98, 105, 103]⟩ : ByteArray) [.string (⟨#[98, 105, 103]⟩ : ByteArray)] from rfl) (Reps.one (show Kd.M Kd.string _ _ _ (⟨#[115, 115, 100]⟩ : ByteArray) [.string (⟨#[115, 115, 100]⟩ : ByteArray)] from rfl) (Reps.one (show Kd.M Kd.string _ _ _ (⟨#[119, 101, 115, 116]⟩ : ByteArray) [.string (⟨#[119, 101, 115, 116]⟩ : ByteArray)] from rfl) (Reps.one (show Kd.M Kd.string _ _ _ (⟨#[206, 179]⟩ : ByteArray) [.string (⟨#[206, 179]⟩ : ByteArray)] from rfl) (Reps.none _ _)))))); intro v121 w2 ho3 hb hg_ hnew_; clear hg_ hnew_; (first | rw [← Ny120.out] at ho3 | (simp only [Int.reduceToNat] at ho3; rw [← Ny120.out] at ho3)); have n0_ := Aside0.mk (Kd.R_lower ho3 (below_size (by repeat (first | (with_reducible first | exact HB.out | apply below_alloc | apply pw_below_drewN | apply below_drew1) | exact HB.out)))); have n1_ := Aside0.mk (below_step (by repeat (first | (with_reducible first | exact HB.out | apply below_alloc | apply pw_below_drewN | apply below_drew1) | exact HB.out)) hb); clear HB; have HO122 := n0_; have HB := n1_; clear n0_ n1_; clear hb ho3))
  go_loopg [4, 5] k (fun kq v4 v5 w' => ∃ (x4_1 : List ByteArray) (x5_1 : Int), v5 = .int .i64 x5_1 ∧ Aside0 (joinerylaw2_Set.l0 kq a0 y120 x4_1 x5_1 = some r) ∧ Aside0 (kq ≤ k) ∧ Aside0 (Kd.R Kd.string 9 w' w.heap.size (fun k_ => some k_ ≠ (v4 : Value).ownBlock) v121 y120) ∧ Aside0 (Kd.R Kd.string 9 w' w.heap.size (fun k_ => some k_ ≠ (v121 : Value).ownBlock) v4 x4_1) ∧ Aside0 (Below w.heap.size w w'))
  case atStart => exact ⟨(([] : List ByteArray)), (0), (by first | rfl | (simp; done) | (simp [*]; done)), H', ⟨Nat.le_refl _⟩, ⟨by (with_reducible repeat (first | apply Kd.R_alloc | apply Kd.R_drewN | apply Kd.R_drew)); exact Kd.R_mono HO122.out (fun _ hk => (by simp [Value.ownBlock]))⟩, ⟨by first | exact Kd.R_nil _ _ _ _ _ | exact Kd.N_nil _ _ _ _ _ | exact Kd.V_nil _ _ _ _ _ | exact Kd.Q_nil _ _ _ _ _ | exact Kd.S_nil _ _ _ _ _⟩, ⟨by repeat (first | (with_reducible first | exact HB.out | apply below_alloc | apply pw_below_drewN | apply below_drew1) | exact HB.out)⟩⟩
  case round =>
    clear H'
    try clear c1
    try clear p2
    obtain ⟨x4_1, x5_1, rfl, HA, HK1, HO_3, HO_4, HB⟩ := hrel
    cases gk with
    | zero => exact absurd HA.out (by simp [joinerylaw2_Set.l0])
    | succ k1 =>
      have H := HA.out
      clear HA
      simp only [joinerylaw2_Set.l0] at H
      by_cases c4 : x5_1 < 4
      · rw [if_pos c4] at H
        have c4b0 : decide (x5_1 < 4) = true := decide_eq_true c4
        clear c4
        obtain ⟨ji5, hji5⟩ : ∃ j_ : Int, (IntKind.u64.wrap (x5_1)) = j_ := ⟨_, rfl⟩
        replace H : (if 0 ≤ (ji5) then ((joinerylaw2_within.f (shr .i64 a0 (ji5)) 2).bind fun t123 => (if t123 = 1 then (if 0 ≤ x5_1 then (if x5_1 < (y120.length : Int) then (if x4_1.length < 8796093022208 then (joinerylaw2_Set.l0 k1 a0 y120 (x4_1 ++ [rdOf ByteArray.empty y120 x5_1]) (wrap64 (x5_1 + 1))) else (none)) else (none)) else (none)) else (joinerylaw2_Set.l0 k1 a0 y120 x4_1 (wrap64 (x5_1 + 1))))) else (none)) = some r := by first | (rw [hji5] at H; exact H) | (simp only [hji5] at H ⊢; exact H)
        by_cases c6 : 0 ≤ (ji5)
        · rw [if_pos c6] at H
          have c6b0 := eq_true c6
          have c6b1 : decide (0 ≤ (ji5)) = true := decide_eq_true c6
          clear c6
          obtain ⟨ji7, hji7⟩ : ∃ j_ : Int, (shr .i64 a0 (ji5)) = j_ := ⟨_, rfl⟩
          replace H : ((joinerylaw2_within.f (ji7) 2).bind fun t123 => (if t123 = 1 then (if 0 ≤ x5_1 then (if x5_1 < (y120.length : Int) then (if x4_1.length < 8796093022208 then (joinerylaw2_Set.l0 k1 a0 y120 (x4_1 ++ [rdOf ByteArray.empty y120 x5_1]) (wrap64 (x5_1 + 1))) else (none)) else (none)) else (none)) else (joinerylaw2_Set.l0 k1 a0 y120 x4_1 (wrap64 (x5_1 + 1))))) = some r := by first | (rw [hji7] at H; exact H) | (simp only [hji7] at H ⊢; exact H)
          have hji7_ : (a0 / 2 ^ min (ji5).toNat 64) = ji7 := hji7
          have hji7z : (ji5) ≤ 64 → (a0 / 2 ^ (ji5).toNat) = ji7 := shr_small hji7
          replace H := Option.bind_eq_some_iff.mp H
          obtain ⟨t123, A80, H⟩ := H
          replace H : (if t123 = 1 then (if 0 ≤ x5_1 then (if x5_1 < (y120.length : Int) then (if x4_1.length < 8796093022208 then (joinerylaw2_Set.l0 k1 a0 y120 (x4_1 ++ [rdOf ByteArray.empty y120 x5_1]) (wrap64 (x5_1 + 1))) else (none)) else (none)) else (none)) else (joinerylaw2_Set.l0 k1 a0 y120 x4_1 (wrap64 (x5_1 + 1)))) = some r := H
          have A8 := Aside0.mk A80
          clear A80
          by_cases c9 : t123 = 1
          · rw [if_pos c9] at H
            have c9b0 : (t123 == 1) = true := beq_iff_eq.mpr c9
            have c9b1 : (t123 != 1) = false := bne_eq_false_iff_eq.mpr c9
            clear c9
            by_cases c10 : 0 ≤ x5_1
            · rw [if_pos c10] at H
              have c10b0 : decide (0 ≤ x5_1) = true := decide_eq_true c10
              clear c10
              by_cases c11 : x5_1 < (y120.length : Int)
              · rw [if_pos c11] at H
                have c11b0 : decide (x5_1 < (y120.length : Int)) = true := decide_eq_true c11
                clear c11
                by_cases c12 : x4_1.length < 8796093022208
                · rw [if_pos c12] at H
                  have LMc12 := Aside0.mk c12
                  clear c12
                  obtain ⟨y125, hy125⟩ : ∃ y_ : List ByteArray, y_ = (x4_1 ++ [rdOf ByteArray.empty y120 x5_1]) := ⟨_, rfl⟩
                  replace H : (joinerylaw2_Set.l0 k1 a0 y120 y125 (wrap64 (x5_1 + 1))) = some r := by first | (rw [hy125]; with_reducible exact H) | (have H2_ := (Option.bind_some _ _).symm.trans H; rw [hy125]; with_reducible exact H2_) | (have H2_ := (Option.bind_some _ _).symm.trans H; with_reducible exact H2_) | with_reducible exact H | (rw [hy125]; exact H) | exact H
                  have Ny125 := Aside0.mk hy125
                  clear hy125
                  have H' := Aside0.mk H
                  clear H
                  go_wp2_with (first | ((with_reducible refine gate_callee (f := 28) rfl ?_); refine goesL_ (some 15) rfl rfl Try.func28 (by kernel_rfl) rfl #[.int .i64 ji7, .int .i64 2] rfl (by (try simp only [List.map_toArray, List.map_cons, List.map_nil]); first | done | (simp only [hji7]; rfl) | rfl | (simp only [List.length_drop, List.length_take]; rfl)) ?_; (with_reducible refine (joinerylaw2_within.calls ji7 2 t123 _ A8.out).mono ?_); rintro e w' ⟨rfl, ⟨nd, rfl⟩⟩; refine ⟨_, rfl, ?_⟩; obtain ⟨Ao13, co13, eo13⟩ := Kd.R_slice HO_3.out; subst eo13; have p124 : 0 ≤ (x5_1 : Int) := of_decide_eq_true (by first | (with_reducible assumption) | assumption); have q124 : x5_1 < (y120.length : Int) := of_decide_eq_true (by first | (with_reducible assumption) | assumption); obtain ⟨ad124, e124, hx124_0⟩ := Kd.at_string (Kd.R_reads' HO_3.out).2.2 x5_1 p124 q124; cases e124; replace p124 := eq_true p124; replace q124 := eq_true q124) | ((with_reducible refine gate_builtin (b := .append) (xs := #[.tmp 17, .tmp 22]) rfl ?_); at_builtin; refine Kd.R_append Kd.string (w0 := w) w.heap.size rfl (.tmp 17) (.tmp 22) 26 9 (.string ⟨#[]⟩) 16 rfl Try.underlying26 info9 rfl (by decide) (by omega) u4 x4_1 (rdOf ByteArray.empty y120 x5_1) [.string (rdOf ByteArray.empty y120 x5_1)] (fun k_ => some k_ ≠ (.slice (some ad124) y120.length co13 : Value).ownBlock) (fun _ => False) rfl rfl ?aP (fun _ hk => hk.elim) ?aF ?aO ?aB ?aS ?aL ?_; (case aP => exact rfl); (case aB => exact (by repeat (first | (with_reducible first | exact HB.out | apply below_alloc | apply pw_below_drewN | apply below_drew1) | exact HB.out))); (case aF => exact (fun k_ hk => Kd.fresh' (Kd.R_lt (by (with_reducible repeat (first | apply Kd.R_alloc | apply Kd.R_drewN | apply Kd.R_drew)); exact HO_3.out)) k_ hk)); (case aO => exact (by (with_reducible repeat (first | apply Kd.R_alloc | apply Kd.R_drewN | apply Kd.R_drew)); exact HO_4.out)); (case aS => exact (below_size (by repeat (first | (with_reducible first | exact HB.out | apply below_alloc | apply pw_below_drewN | apply below_drew1) | exact HB.out)))); (case aL => have := LMc12.out; omega); intro v126 w14 ho hb hg hat; rw [← Ny125.out] at ho; have n0_ := Aside0.mk (Kd.R_after (ok := (fun _ => True)) (by (with_reducible repeat (first | apply Kd.R_alloc | apply Kd.R_drewN | apply Kd.R_drew)); exact Kd.R_mono HO_3.out (fun _ hk => ⟨trivial, hk⟩)) hg hat); have n1_ := Aside0.mk (hb); have n2_ := Aside0.mk (ho); clear HO_3; clear HB; clear HO_4; have HO_3 := n0_; have HB := n1_; have HO127 := n2_; clear n0_ n1_ n2_; clear ho hb hg hat))
                  go_roundg k1
                  case measure => have := HK1.out; omega
                  case rel => exact ⟨(y125), (wrap64 (x5_1 + 1)), (by first | rfl | (simp; done) | (simp [*]; done)), H', ⟨by have := HK1.out; omega⟩, ⟨by (with_reducible repeat (first | apply Kd.R_alloc | apply Kd.R_drewN | apply Kd.R_drew)); exact Kd.R_mono HO_3.out (fun _ hk => hk.2)⟩, ⟨by (with_reducible repeat (first | apply Kd.R_alloc | apply Kd.R_drewN | apply Kd.R_drew)); exact HO127.out⟩, ⟨by repeat (first | (with_reducible first | exact HB.out | apply below_alloc | apply pw_below_drewN | apply below_drew1) | exact HB.out)⟩⟩
                · rw [if_neg c12] at H
                  exact absurd H (by simp)
              · rw [if_neg c11] at H
                exact absurd H (by simp)
            · rw [if_neg c10] at H
              exact absurd H (by simp)
          · rw [if_neg c9] at H
            have c9b0 : (t123 == 1) = false := beq_eq_false_iff_ne.mpr c9
            have c9b1 : (t123 != 1) = true := bne_iff_ne.mpr c9
            have H' := Aside0.mk H
            clear H
            go_wp2_with (first | ((with_reducible refine gate_callee (f := 28) rfl ?_); refine goesL_ (some 15) rfl rfl Try.func28 (by kernel_rfl) rfl #[.int .i64 ji7, .int .i64 2] rfl (by (try simp only [List.map_toArray, List.map_cons, List.map_nil]); first | done | (simp only [hji7]; rfl) | rfl | (simp only [List.length_drop, List.length_take]; rfl)) ?_; (with_reducible refine (joinerylaw2_within.calls ji7 2 t123 _ A8.out).mono ?_); rintro e w' ⟨rfl, ⟨nd, rfl⟩⟩; refine ⟨_, rfl, ?_⟩))
            go_roundg k1
            case measure => have := HK1.out; omega
            case rel => exact ⟨(x4_1), (wrap64 (x5_1 + 1)), (by first | rfl | (simp; done) | (simp [*]; done)), H', ⟨by have := HK1.out; omega⟩, ⟨by (with_reducible repeat (first | apply Kd.R_alloc | apply Kd.R_drewN | apply Kd.R_drew)); exact HO_3.out⟩, ⟨by (with_reducible repeat (first | apply Kd.R_alloc | apply Kd.R_drewN | apply Kd.R_drew)); exact HO_4.out⟩, ⟨by repeat (first | (with_reducible first | exact HB.out | apply below_alloc | apply pw_below_drewN | apply below_drew1) | exact HB.out)⟩⟩
        · rw [if_neg c6] at H
          exact absurd H (by simp)
      · rw [if_neg c4] at H
        have c4b0 : decide (x5_1 < 4) = false := decide_eq_false c4
        clear c4
        obtain rfl := Option.some.inj H
        go_wp2
        go_ret
        exact ⟨_, by first | rfl | (simp [errW_none, errW_some] <;> rfl) | (simp [*, errW_none, errW_some] <;> rfl), by (with_reducible repeat (first | apply Kd.R_alloc | apply Kd.R_drewN | apply Kd.R_drew)); exact Kd.R_mono HO_4.out (fun _ hk => trivial), by repeat (first | (with_reducible first | exact HB.out | apply below_alloc | apply pw_below_drewN | apply below_drew1) | exact HB.out)⟩

/-! ### joinerylaw3_within: function 22 -/
def joinerylaw3_within.f (a0 : Int) (a1 : Int) : Option (Int) := if a1 = 0 then (none) else (if (Int.tmod a0 a1) < 0 then (some (wrap64 ((Int.tmod a0 a1) + a1))) else (some (Int.tmod a0 a1)))
set_option maxHeartbeats 8000000 in
set_option maxRecDepth 100000 in
theorem joinerylaw3_within.calls (a0 : Int) (a1 : Int) (r : Int) (w : World) (h : joinerylaw3_within.f a0 a1 = some r) :
    Calls Try.prog 22 #[.int .i64 a0, .int .i64 a1] w fun e w' => e = .returned (.int .i64 r) ∧ Drawn0 w w' := by
  have H : (if a1 = 0 then (none) else (if (Int.tmod a0 a1) < 0 then (some (wrap64 ((Int.tmod a0 a1) + a1))) else (some (Int.tmod a0 a1)))) = some r := h
  clear h
  by_cases c3 : a1 = 0
  · rw [if_pos c3] at H
    exact absurd H (by simp)
  · rw [if_neg c3] at H
    have c3b0 : (a1 == 0) = false := beq_eq_false_iff_ne.mpr c3
    have c3b1 : (a1 != 0) = true := bne_iff_ne.mpr c3
    by_cases c4 : (Int.tmod a0 a1) < 0
    · rw [if_pos c4] at H
      have c4b0 : decide ((Int.tmod a0 a1) < 0) = true := decide_eq_true c4
      clear c4
      obtain rfl := Option.some.inj H
      go_enter Try.func22, Try.ntmps22
      go_wp2
      go_ret
      exact ⟨by first | rfl | (simp; done) | (simp [*]; done), by repeat (first | exact Drawn0.refl _ | apply Drawn0.step)⟩
    · rw [if_neg c4] at H
      have c4b0 : decide ((Int.tmod a0 a1) < 0) = false := decide_eq_false c4
      clear c4
      obtain rfl := Option.some.inj H
      go_enter Try.func22, Try.ntmps22
      go_wp2
      go_ret
      exact ⟨by first | rfl | (simp; done) | (simp [*]; done), by repeat (first | exact Drawn0.refl _ | apply Drawn0.step)⟩

end Go.Proofs.Ytciedbaeenhgkaa.Q
