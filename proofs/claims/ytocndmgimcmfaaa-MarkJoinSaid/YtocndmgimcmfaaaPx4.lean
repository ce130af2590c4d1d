-- Printed by wip/tools/gprint.py (the kit's print, hand-proved contracts laid in): functions of the program as Lean functions, each with the proof that the machine's call comes to its answer.
import Derived.Test.YtocndmgimcmfaaaPx0
import Derived.Test.YtocndmgimcmfaaaPx1
namespace Go.Proofs.Ytocndmgimcmfaaa.P
open Go.RowKit Go.Proofs.Ytocndmgimcmfaaa.Base Go.Proofs.YtocndmgimcmfaaaW.PrintWords Go.Proofs.YtocndmgimcmfaaaW.PrintLast Go.Proofs.YtocndmgimcmfaaaW.PrintMore
attribute [local go_sem] max2_int min2_int max_two min_two max_three min_three max_four min_four   -- for this text's walks alone
set_option linter.unusedVariables false
set_option linter.unusedSimpArgs false

/-! ### joinerylaw2_MarkEach: function 7 -/
mutual
def joinerylaw2_MarkEach.j0 : Nat → Int → Option (Bool)
  | 0, _ => none
  | k + 1, x5 => if x5 ≥ 97 then (if x5 ≤ 122 then (joinerylaw2_MarkEach.j1 k x5 true) else (if x5 ≥ 945 then (joinerylaw2_MarkEach.j1 k x5 (decide (x5 ≤ 969))) else (joinerylaw2_MarkEach.j1 k x5 false))) else (if x5 ≥ 945 then (joinerylaw2_MarkEach.j1 k x5 (decide (x5 ≤ 969))) else (joinerylaw2_MarkEach.j1 k x5 false))
def joinerylaw2_MarkEach.j1 : Nat → Int → Bool → Option (Bool)
  | 0, _, _ => none
  | k + 1, x5, x6 => if x5 ≥ 48 then (joinerylaw2_MarkEach.j2 k x5 x6 (decide (x5 ≤ 57))) else (joinerylaw2_MarkEach.j2 k x5 x6 false)
def joinerylaw2_MarkEach.j2 : Nat → Int → Bool → Bool → Option (Bool)
  | 0, _, _, _ => none
  | k + 1, x5, x6, x7 => (mark_Name.f (Go.Utf8.encode x5)).bind fun t177 => (if (t177 == x6) = true then (if 1 + (Go.Utf8.encode x5).size ≤ 9223372036854775807 then ((mark_Name.f ((⟨#[97]⟩ : ByteArray) ++ (Go.Utf8.encode x5))).bind fun t178 => (if x6 = true then (if (t178 == true) = true then (if 2 + (Go.Utf8.encode x5).size ≤ 9223372036854775807 then (if 2 + (Go.Utf8.encode x5).size + 1 ≤ 9223372036854775807 then ((mark_Name.f (((⟨#[207, 137]⟩ : ByteArray) ++ (Go.Utf8.encode x5)) ++ (⟨#[49]⟩ : ByteArray))).bind fun t179 => (if (t179 == true) = true then ((mark_Runes.f (Go.Utf8.encode x5)).bind fun t180 => (some (t180 == 1))) else (some false))) else (none)) else (none)) else (some false)) else (if (t178 == x7) = true then (if 2 + (Go.Utf8.encode x5).size ≤ 9223372036854775807 then (if 2 + (Go.Utf8.encode x5).size + 1 ≤ 9223372036854775807 then ((mark_Name.f (((⟨#[207, 137]⟩ : ByteArray) ++ (Go.Utf8.encode x5)) ++ (⟨#[49]⟩ : ByteArray))).bind fun t181 => (if (t181 == x7) = true then ((mark_Runes.f (Go.Utf8.encode x5)).bind fun t182 => (some (t182 == 1))) else (some false))) else (none)) else (none)) else (some false)))) else (none)) else (some false))
end
def joinerylaw2_MarkEach.f (k : Nat) (a0 : Int) (a1 : Int) : Option (Bool) := (joinerylaw2_known.f).bind fun t169 => (if t169 = true then ((joinerylaw2_within.f a0 1280).bind fun t170 => ((joinerylaw2_within.f a1 3).bind fun t171 => (if t171 = 0 then ((some (([944, 945, 969, 970, 96, 123, 48, 57, 128512, 65533] : List Int) : List Int)).bind fun y172 => ((joinerylaw2_within.f a0 10).bind fun t175 => (if 0 ≤ t175 then (if t175 < (y172.length : Int) then (joinerylaw2_MarkEach.j0 k (wrap32 (rd y172 t175))) else (none)) else (none)))) else (joinerylaw2_MarkEach.j0 k (wrap32 (t170)))))) else (some false))
theorem joinerylaw2_MarkEach.mono_l : ∀ k, (∀ y0, LeO (joinerylaw2_MarkEach.j0 k y0) (joinerylaw2_MarkEach.j0 (k + 1) y0)) ∧ (∀ y0 y1, LeO (joinerylaw2_MarkEach.j1 k y0 y1) (joinerylaw2_MarkEach.j1 (k + 1) y0 y1)) ∧ (∀ y0 y1 y2, LeO (joinerylaw2_MarkEach.j2 k y0 y1 y2) (joinerylaw2_MarkEach.j2 (k + 1) y0 y1 y2))
  | 0 => ⟨fun _ r h => by simp [joinerylaw2_MarkEach.j0] at h, fun _ _ r h => by simp [joinerylaw2_MarkEach.j1] at h, fun _ _ _ r h => by simp [joinerylaw2_MarkEach.j2] at h⟩
  | k + 1 => by
    obtain ⟨ih0, ih1, ih2⟩ := joinerylaw2_MarkEach.mono_l k
    refine ⟨?_, ?_, ?_⟩
    · intro y0
      unfold joinerylaw2_MarkEach.j0
      repeat' first
      | (with_reducible exact ih0 _)
      | (with_reducible exact ih1 _ _)
      | (with_reducible exact ih2 _ _ _)
      | (with_reducible exact LeO.refl _)
      | (with_reducible exact LeO.none _)
      | (with_reducible refine LeO.ite ?_ ?_)
      | (with_reducible refine LeO.bind ?_ (fun _ => ?_))
      | exact ih0 _
      | exact ih1 _ _
      | exact ih2 _ _ _
      | exact LeO.none _
      | refine LeO.ite ?_ ?_
      | refine LeO.bind ?_ (fun _ => ?_)
    · intro y0 y1
      unfold joinerylaw2_MarkEach.j1
      repeat' first
      | (with_reducible exact ih0 _)
      | (with_reducible exact ih1 _ _)
      | (with_reducible exact ih2 _ _ _)
      | (with_reducible exact LeO.refl _)
      | (with_reducible exact LeO.none _)
      | (with_reducible refine LeO.ite ?_ ?_)
      | (with_reducible refine LeO.bind ?_ (fun _ => ?_))
      | exact ih0 _
      | exact ih1 _ _
      | exact ih2 _ _ _
      | exact LeO.none _
      | refine LeO.ite ?_ ?_
      | refine LeO.bind ?_ (fun _ => ?_)
    · intro y0 y1 y2
      unfold joinerylaw2_MarkEach.j2
      repeat' first
      | (with_reducible exact ih0 _)
      | (with_reducible exact ih1 _ _)
      | (with_reducible exact ih2 _ _ _)
      | (with_reducible exact LeO.refl _)
      | (with_reducible exact LeO.none _)
      | (with_reducible refine LeO.ite ?_ ?_)
      | (with_reducible refine LeO.bind ?_ (fun _ => ?_))
      | exact ih0 _
      | exact ih1 _ _
      | exact ih2 _ _ _
      | exact LeO.none _
      | refine LeO.ite ?_ ?_
      | refine LeO.bind ?_ (fun _ => ?_)
theorem joinerylaw2_MarkEach.mono : ∀ a0 a1 k, LeO (joinerylaw2_MarkEach.f k a0 a1) (joinerylaw2_MarkEach.f (k + 1) a0 a1) := by
  intro a0 a1 k
  obtain ⟨ih0, ih1, ih2⟩ := joinerylaw2_MarkEach.mono_l k
  unfold joinerylaw2_MarkEach.f
  repeat' first
      | (with_reducible exact ih0 _)
      | (with_reducible exact ih1 _ _)
      | (with_reducible exact ih2 _ _ _)
      | (with_reducible exact LeO.refl _)
      | (with_reducible exact LeO.none _)
      | (with_reducible refine LeO.ite ?_ ?_)
      | (with_reducible refine LeO.bind ?_ (fun _ => ?_))
      | exact ih0 _
      | exact ih1 _ _
      | exact ih2 _ _ _
      | exact LeO.none _
      | refine LeO.ite ?_ ?_
      | refine LeO.bind ?_ (fun _ => ?_)
set_option maxHeartbeats 8000000 in
set_option maxRecDepth 100000 in
theorem joinerylaw2_MarkEach.calls (k : Nat) (a0 : Int) (a1 : Int) (r : Bool) (w : World) (h : joinerylaw2_MarkEach.f k a0 a1 = some r) :
    Calls Try.prog 7 #[.int .i64 a0, .int .i64 a1] w fun e w' => e = .returned (.bool r) ∧ Below w.heap.size w w' := by
  have HB := Aside0.mk (Below.refl w.heap.size w)
  have H : ((joinerylaw2_known.f).bind fun t169 => (if t169 = true then ((joinerylaw2_within.f a0 1280).bind fun t170 => ((joinerylaw2_within.f a1 3).bind fun t171 => (if t171 = 0 then ((some (([944, 945, 969, 970, 96, 123, 48, 57, 128512, 65533] : List Int) : List Int)).bind fun y172 => ((joinerylaw2_within.f a0 10).bind fun t175 => (if 0 ≤ t175 then (if t175 < (y172.length : Int) then (joinerylaw2_MarkEach.j0 k (wrap32 (rd y172 t175))) else (none)) else (none)))) else (joinerylaw2_MarkEach.j0 k (wrap32 (t170)))))) else (some false))) = some r := h
  clear h
  replace H := Option.bind_eq_some_iff.mp H
  obtain ⟨t169, A30, H⟩ := H
  replace H : (if t169 = true then ((joinerylaw2_within.f a0 1280).bind fun t170 => ((joinerylaw2_within.f a1 3).bind fun t171 => (if t171 = 0 then ((some (([944, 945, 969, 970, 96, 123, 48, 57, 128512, 65533] : List Int) : List Int)).bind fun y172 => ((joinerylaw2_within.f a0 10).bind fun t175 => (if 0 ≤ t175 then (if t175 < (y172.length : Int) then (joinerylaw2_MarkEach.j0 k (wrap32 (rd y172 t175))) else (none)) else (none)))) else (joinerylaw2_MarkEach.j0 k (wrap32 (t170)))))) else (some false)) = some r := H
  have A3 := Aside0.mk A30
  clear A30
  by_cases c4 : t169 = true
  · subst c4
    have H1 : ((joinerylaw2_within.f a0 1280).bind fun t170 => ((joinerylaw2_within.f a1 3).bind fun t171 => (if t171 = 0 then ((some (([944, 945, 969, 970, 96, 123, 48, 57, 128512, 65533] : List Int) : List Int)).bind fun y172 => ((joinerylaw2_within.f a0 10).bind fun t175 => (if 0 ≤ t175 then (if t175 < (y172.length : Int) then (joinerylaw2_MarkEach.j0 k (wrap32 (rd y172 t175))) else (none)) else (none)))) else (joinerylaw2_MarkEach.j0 k (wrap32 (t170)))))) = some r := by rw [if_pos rfl] at H; exact H
    clear H
    have H := H1
    clear H1
    replace H := Option.bind_eq_some_iff.mp H
    obtain ⟨t170, A50, H⟩ := H
    replace H : ((joinerylaw2_within.f a1 3).bind fun t171 => (if t171 = 0 then ((some (([944, 945, 969, 970, 96, 123, 48, 57, 128512, 65533] : List Int) : List Int)).bind fun y172 => ((joinerylaw2_within.f a0 10).bind fun t175 => (if 0 ≤ t175 then (if t175 < (y172.length : Int) then (joinerylaw2_MarkEach.j0 k (wrap32 (rd y172 t175))) else (none)) else (none)))) else (joinerylaw2_MarkEach.j0 k (wrap32 (t170))))) = some r := H
    have A5 := Aside0.mk A50
    clear A50
    replace H := Option.bind_eq_some_iff.mp H
    obtain ⟨t171, A60, H⟩ := H
    replace H : (if t171 = 0 then ((some (([944, 945, 969, 970, 96, 123, 48, 57, 128512, 65533] : List Int) : List Int)).bind fun y172 => ((joinerylaw2_within.f a0 10).bind fun t175 => (if 0 ≤ t175 then (if t175 < (y172.length : Int) then (joinerylaw2_MarkEach.j0 k (wrap32 (rd y172 t175))) else (none)) else (none)))) else (joinerylaw2_MarkEach.j0 k (wrap32 (t170)))) = some r := H
    have A6 := Aside0.mk A60
    clear A60
    have HC7 := Aside0.mk H
    clear H
    go_enter Try.func7, Try.ntmps7
    go_upto_if 16 with (first | ((with_reducible refine gate_callee (f := 13) rfl ?_); refine goesL_ (some 9) rfl rfl Try.func13 (by kernel_rfl) rfl #[] rfl (by (try simp only [List.map_toArray, List.map_cons, List.map_nil]); first | done | rfl | (simp only [List.length_drop, List.length_take]; rfl)) ?_; (with_reducible refine (joinerylaw2_known.calls  true _ A3.out).mono ?_); rintro e w8 ⟨rfl, hb⟩; refine ⟨_, rfl, ?_⟩; have n0_ := Aside0.mk (below_step (by repeat (first | (with_reducible first | exact HB.out | apply below_alloc | apply pw_below_drewN | apply below_drew1) | exact HB.out)) hb); clear HB; have HB := n0_; clear n0_; (try clear hb); (try clear hb2); (try clear hk); (try clear hi)) | ((with_reducible refine gate_callee (f := 15) rfl ?_); refine goesL_ (some 12) rfl rfl Try.func15 (by kernel_rfl) rfl #[.int .i64 a0, .int .i64 1280] rfl (by (try simp only [List.map_toArray, List.map_cons, List.map_nil]); first | done | rfl | (simp only [List.length_drop, List.length_take]; rfl)) ?_; (with_reducible refine (joinerylaw2_within.calls a0 1280 t170 _ A5.out).mono ?_); rintro e w' ⟨rfl, ⟨nd, rfl⟩⟩; refine ⟨_, rfl, ?_⟩) | ((with_reducible refine gate_callee (f := 15) rfl ?_); refine goesL_ (some 15) rfl rfl Try.func15 (by kernel_rfl) rfl #[.int .i64 a1, .int .i64 3] rfl (by (try simp only [List.map_toArray, List.map_cons, List.map_nil]); first | done | rfl | (simp only [List.length_drop, List.length_take]; rfl)) ?_; (with_reducible refine (joinerylaw2_within.calls a1 3 t171 _ A6.out).mono ?_); rintro e w' ⟨rfl, ⟨nd, rfl⟩⟩; refine ⟨_, rfl, ?_⟩))
    (try simp only [Act.put, List.setIfInBounds_toArray, List.set_cons_zero, List.set_cons_succ])
    go_cut [5] (fun v5 wc => ∃ (kq : Nat) (x5_6 : Int), v5 = .int .i32 x5_6 ∧ Aside0 (joinerylaw2_MarkEach.j0 kq x5_6 = some r) ∧ Aside0 (kq ≤ k) ∧ Aside0 (Below w.heap.size w wc))
    case first =>
      have H := HC7.out
      clear HC7
      by_cases c9 : t171 = 0
      · rw [if_pos c9] at H
        have c9b0 : (t171 == 0) = true := beq_iff_eq.mpr c9
        have c9b1 : (t171 != 0) = false := bne_eq_false_iff_eq.mpr c9
        clear c9
        (first | rw [c9b0] | (simp only [i64_w, i32_w]; rw [c9b0]) | skip)
        obtain ⟨y172, hy172⟩ : ∃ y_ : List Int, y_ = (([944, 945, 969, 970, 96, 123, 48, 57, 128512, 65533] : List Int)) := ⟨_, rfl⟩
        replace H : ((joinerylaw2_within.f a0 10).bind fun t175 => (if 0 ≤ t175 then (if t175 < (y172.length : Int) then (joinerylaw2_MarkEach.j0 k (wrap32 (rd y172 t175))) else (none)) else (none))) = some r := by first | (rw [hy172]; with_reducible exact H) | (have H2_ := (Option.bind_some _ _).symm.trans H; rw [hy172]; with_reducible exact H2_) | (have H2_ := (Option.bind_some _ _).symm.trans H; with_reducible exact H2_) | with_reducible exact H | (rw [hy172]; exact H) | exact H
        have Ny172 := Aside0.mk hy172
        clear hy172
        replace H := Option.bind_eq_some_iff.mp H
        obtain ⟨t175, A100, H⟩ := H
        replace H : (if 0 ≤ t175 then (if t175 < (y172.length : Int) then (joinerylaw2_MarkEach.j0 k (wrap32 (rd y172 t175))) else (none)) else (none)) = some r := H
        have A10 := Aside0.mk A100
        clear A100
        by_cases c11 : 0 ≤ t175
        · rw [if_pos c11] at H
          have c11b0 : decide (0 ≤ t175) = true := decide_eq_true c11
          clear c11
          by_cases c12 : t175 < (y172.length : Int)
          · rw [if_pos c12] at H
            have c12b0 : decide (t175 < (y172.length : Int)) = true := decide_eq_true c12
            clear c12
            have H' := Aside0.mk H
            clear H
            go_wp2_with (first | ((with_reducible refine gate_dst (N := 17) rfl ?_); refine Kd.R_lit (Kd.int .i64) _ 3 ?hg (N := 17) ?hd (xs := ([944, 945, 969, 970, 96, 123, 48, 57, 128512, 65533] : List Int)) (inner := [.int .i64 944, .int .i64 945, .int .i64 969, .int .i64 970, .int .i64 96, .int .i64 123, .int .i64 48, .int .i64 57, .int .i64 128512, .int .i64 65533]) (ok := fun _ => True) (okp := fun _ => True) ?hr ?hp (fun _ hk => hk) trivial (Below.refl _ _) (Nat.le_refl _) (by simp) ?_; (case hd => rfl); (case hg => rfl); (case hr => first | (go_simp; done) | (go_simp; rfl)); (case hp => exact (Reps.one (show Kd.M (Kd.int .i64) _ _ _ 944 [.int .i64 944] from rfl) (Reps.one (show Kd.M (Kd.int .i64) _ _ _ 945 [.int .i64 945] from rfl) (Reps.one (show Kd.M (Kd.int .i64) _ _ _ 969 [.int .i64 969] from rfl) (Reps.one (show Kd.M (Kd.int .i64) _ _ _ 970 [.int .i64 970] from rfl) (Reps.one (show Kd.M (Kd.int .i64) _ _ _ 96 [.int .i64 96] from rfl) (Reps.one (show Kd.M (Kd.int .i64) _ _ _ 123 [.int .i64 123] from rfl) (Reps.one (show Kd.M (Kd.int .i64) _ _ _ 48 [.int .i64 48] from rfl) (Reps.one (show Kd.M (Kd.int .i64) _ _ _ 57 [.int .i64 57] from rfl) (Reps.one (show Kd.M (Kd.int .i64) _ _ _ 128512 [.int .i64 128512] from rfl) (Reps.one (show Kd.M (Kd.int .i64) _ _ _ 65533 [.int .i64 65533] from rfl) (Reps.none _ _)))))))))))); intro v173 w13 ho14 hb hg_ hnew_; clear hg_ hnew_; (first | rw [← Ny172.out] at ho14 | (simp only [Int.reduceToNat] at ho14; rw [← Ny172.out] at ho14)); have n0_ := Aside0.mk (Kd.R_lower ho14 (below_size (by repeat (first | (with_reducible first | exact HB.out | apply below_alloc | apply pw_below_drewN | apply below_drew1) | exact HB.out)))); have n1_ := Aside0.mk (below_step (by repeat (first | (with_reducible first | exact HB.out | apply below_alloc | apply pw_below_drewN | apply below_drew1) | exact HB.out)) hb); clear HB; have HO174 := n0_; have HB := n1_; clear n0_ n1_; clear hb ho14) | ((with_reducible refine gate_callee (f := 15) rfl ?_); refine goesL_ (some 19) rfl rfl Try.func15 (by kernel_rfl) rfl #[.int .i64 a0, .int .i64 10] rfl (by (try simp only [List.map_toArray, List.map_cons, List.map_nil]); first | done | rfl | (simp only [List.length_drop, List.length_take]; rfl)) ?_; (with_reducible refine (joinerylaw2_within.calls a0 10 t175 _ A10.out).mono ?_); rintro e w' ⟨rfl, ⟨nd, rfl⟩⟩; refine ⟨_, rfl, ?_⟩; obtain ⟨Ao15, co15, eo15⟩ := Kd.R_slice HO174.out; subst eo15; have p176 : 0 ≤ (t175 : Int) := of_decide_eq_true (by first | (with_reducible assumption) | assumption); have q176 : t175 < (y172.length : Int) := of_decide_eq_true (by first | (with_reducible assumption) | assumption); obtain ⟨ad176, e176, hx176_0⟩ := Kd.at_int (Kd.R_reads' HO174.out).2.2 t175 p176 q176; cases e176; replace p176 := eq_true p176; replace q176 := eq_true q176))
            go_meet
            case rel => exact ⟨_, (wrap32 (rd y172 t175)), (by first | rfl | (simp; done) | (simp [*]; done)), H', ⟨by first | omega | exact Nat.le_refl _⟩, ⟨by repeat (first | (with_reducible first | exact HB.out | apply below_alloc | apply pw_below_drewN | apply below_drew1) | exact HB.out)⟩⟩
          · rw [if_neg c12] at H
            exact absurd H (by simp)
        · rw [if_neg c11] at H
          exact absurd H (by simp)
      · rw [if_neg c9] at H
        have c9b0 : (t171 == 0) = false := beq_eq_false_iff_ne.mpr c9
        have c9b1 : (t171 != 0) = true := bne_iff_ne.mpr c9
        (first | rw [c9b0] | (simp only [i64_w, i32_w]; rw [c9b0]) | skip)
        have H' := Aside0.mk H
        clear H
        go_wp2
        go_meet
        case rel => exact ⟨_, (wrap32 (t170)), (by first | rfl | (simp; done) | (simp [*]; done)), H', ⟨by first | omega | exact Nat.le_refl _⟩, ⟨by repeat (first | (with_reducible first | exact HB.out | apply below_alloc | apply pw_below_drewN | apply below_drew1) | exact HB.out)⟩⟩
    case rest =>
      clear HC7
      try clear c1
      try clear p1
      try clear q1
      try clear hx1
      try clear p2
      try clear p3
      try clear c4
      try clear c7
      try clear c9
      try clear c9b0
      try clear c9b1
      try clear c11
      try clear c11b0
      try clear c12
      try clear c12b0
      try clear c13
      try clear c15
      try clear hx176_0
      try clear p176
      try clear q176
      obtain ⟨kq, x5_6, rfl, HA, HJ6, HB⟩ := hcut
      cases kq with
      | zero => exact absurd HA.out (by simp [joinerylaw2_MarkEach.j0])
      | succ kj6 =>
        have H := HA.out
        clear HA
        simp only [joinerylaw2_MarkEach.j0] at H
        have HC16 := Aside0.mk H
        clear H
        go_upto_region 6 with (fail)
        go_cut [6] (fun v6 wc => ∃ (kq : Nat) (x6_15 : Bool), v6 = .bool x6_15 ∧ Aside0 (joinerylaw2_MarkEach.j1 kq x5_6 x6_15 = some r) ∧ Aside0 (kq ≤ kj6) ∧ Aside0 (Below w.heap.size w wc))
        case first =>
          have H := HC16.out
          clear HC16
          by_cases c17 : x5_6 ≥ 97
          · rw [if_pos c17] at H
            have c17b0 : decide (97 ≤ x5_6) = true := decide_eq_true c17
            clear c17
            (first | rw [c17b0] | (simp only [i64_w, i32_w]; rw [c17b0]) | skip)
            by_cases c18 : x5_6 ≤ 122
            · rw [if_pos c18] at H
              have c18b0 : decide (x5_6 ≤ 122) = true := decide_eq_true c18
              clear c18
              have H' := Aside0.mk H
              clear H
              go_wp2
              go_meet
              case rel => exact ⟨_, (true), (by first | rfl | (simp; done) | (simp [*]; done)), H', ⟨by have := HJ6.out; first | omega | exact Nat.le_refl _⟩, ⟨by repeat (first | (with_reducible first | exact HB.out | apply below_alloc | apply pw_below_drewN | apply below_drew1) | exact HB.out)⟩⟩
            · rw [if_neg c18] at H
              have c18b0 : decide (x5_6 ≤ 122) = false := decide_eq_false c18
              clear c18
              by_cases c19 : x5_6 ≥ 945
              · rw [if_pos c19] at H
                have c19b0 : decide (945 ≤ x5_6) = true := decide_eq_true c19
                clear c19
                have H' := Aside0.mk H
                clear H
                go_wp2
                go_meet
                case rel => exact ⟨_, (decide (x5_6 ≤ 969)), (by first | rfl | (simp; done) | (simp [*]; done)), H', ⟨by have := HJ6.out; first | omega | exact Nat.le_refl _⟩, ⟨by repeat (first | (with_reducible first | exact HB.out | apply below_alloc | apply pw_below_drewN | apply below_drew1) | exact HB.out)⟩⟩
              · rw [if_neg c19] at H
                have c19b0 : decide (945 ≤ x5_6) = false := decide_eq_false c19
                clear c19
                have H' := Aside0.mk H
                clear H
                go_wp2
                go_meet
                case rel => exact ⟨_, (false), (by first | rfl | (simp; done) | (simp [*]; done)), H', ⟨by have := HJ6.out; first | omega | exact Nat.le_refl _⟩, ⟨by repeat (first | (with_reducible first | exact HB.out | apply below_alloc | apply pw_below_drewN | apply below_drew1) | exact HB.out)⟩⟩
          · rw [if_neg c17] at H
            have c17b0 : decide (97 ≤ x5_6) = false := decide_eq_false c17
            clear c17
            (first | rw [c17b0] | (simp only [i64_w, i32_w]; rw [c17b0]) | skip)
            by_cases c20 : x5_6 ≥ 945
            · rw [if_pos c20] at H
              have c20b0 : decide (945 ≤ x5_6) = true := decide_eq_true c20
              clear c20
              have H' := Aside0.mk H
              clear H
              go_wp2
              go_meet
              case rel => exact ⟨_, (decide (x5_6 ≤ 969)), (by first | rfl | (simp; done) | (simp [*]; done)), H', ⟨by have := HJ6.out; first | omega | exact Nat.le_refl _⟩, ⟨by repeat (first | (with_reducible first | exact HB.out | apply below_alloc | apply pw_below_drewN | apply below_drew1) | exact HB.out)⟩⟩
            · rw [if_neg c20] at H
              have c20b0 : decide (945 ≤ x5_6) = false := decide_eq_false c20
              clear c20
              have H' := Aside0.mk H
              clear H
              go_wp2
              go_meet
              case rel => exact ⟨_, (false), (by first | rfl | (simp; done) | (simp [*]; done)), H', ⟨by have := HJ6.out; first | omega | exact Nat.le_refl _⟩, ⟨by repeat (first | (with_reducible first | exact HB.out | apply below_alloc | apply pw_below_drewN | apply below_drew1) | exact HB.out)⟩⟩
        case rest =>
          clear HC16
          try clear c1
          try clear p1
          try clear q1
          try clear hx1
          try clear c2
          try clear p2
          try clear p3
          try clear c4
          try clear c7
          try clear c9
          try clear c9b0
          try clear c9b1
          try clear c11
          try clear c11b0
          try clear c12
          try clear c12b0
          try clear c13
          try clear c15
          try clear c17
          try clear c17b0
          try clear p17
          try clear q17
          try clear hx17
          try clear c18
          try clear c18b0
          try clear c19
          try clear c19b0
          try clear c20
          try clear c20b0
          try clear hx176_0
          try clear p1
          try clear p176
          try clear p2
          try clear p3
          try clear q1
          try clear q176
          obtain ⟨kq, x6_15, rfl, HA, HJ15, HB⟩ := hcut
          cases kq with
          | zero => exact absurd HA.out (by simp [joinerylaw2_MarkEach.j1])
          | succ kj15 =>
            have H := HA.out
            clear HA
            simp only [joinerylaw2_MarkEach.j1] at H
            have HC21 := Aside0.mk H
            clear H
            go_upto_region 7 with (fail)
            go_cut [7] (fun v7 wc => ∃ (kq : Nat) (x7_20 : Bool), v7 = .bool x7_20 ∧ Aside0 (joinerylaw2_MarkEach.j2 kq x5_6 x6_15 x7_20 = some r) ∧ Aside0 (kq ≤ kj15) ∧ Aside0 (Below w.heap.size w wc))
            case first =>
              have H := HC21.out
              clear HC21
              by_cases c22 : x5_6 ≥ 48
              · rw [if_pos c22] at H
                have c22b0 : decide (48 ≤ x5_6) = true := decide_eq_true c22
                clear c22
                (first | rw [c22b0] | (simp only [i64_w, i32_w]; rw [c22b0]) | skip)
                have H' := Aside0.mk H
                clear H
                go_wp2
                go_meet
                case rel => exact ⟨_, (decide (x5_6 ≤ 57)), (by first | rfl | (simp; done) | (simp [*]; done)), H', ⟨by have := HJ6.out; have := HJ15.out; first | omega | exact Nat.le_refl _⟩, ⟨by repeat (first | (with_reducible first | exact HB.out | apply below_alloc | apply pw_below_drewN | apply below_drew1) | exact HB.out)⟩⟩
              · rw [if_neg c22] at H
                have c22b0 : decide (48 ≤ x5_6) = false := decide_eq_false c22
                clear c22
                (first | rw [c22b0] | (simp only [i64_w, i32_w]; rw [c22b0]) | skip)
                have H' := Aside0.mk H
                clear H
                go_wp2
                go_meet
                case rel => exact ⟨_, (false), (by first | rfl | (simp; done) | (simp [*]; done)), H', ⟨by have := HJ6.out; have := HJ15.out; first | omega | exact Nat.le_refl _⟩, ⟨by repeat (first | (with_reducible first | exact HB.out | apply below_alloc | apply pw_below_drewN | apply below_drew1) | exact HB.out)⟩⟩
            case rest =>
              clear HC21
              try clear c1
              try clear p1
              try clear q1
              try clear hx1
              try clear c2
              try clear p2
              try clear p3
              try clear c4
              try clear c7
              try clear c9
              try clear c9b0
              try clear c9b1
              try clear c11
              try clear c11b0
              try clear c12
              try clear c12b0
              try clear c13
              try clear c15
              try clear c17
              try clear c17b0
              try clear p17
              try clear q17
              try clear hx17
              try clear c18
              try clear c18b0
              try clear c19
              try clear c19b0
              try clear c20
              try clear c20b0
              try clear c22
              try clear c22b0
              try clear hx176_0
              try clear p1
              try clear p17
              try clear p176
              try clear p2
              try clear p3
              try clear q1
              try clear q17
              try clear q176
              obtain ⟨kq, x7_20, rfl, HA, HJ20, HB⟩ := hcut
              cases kq with
              | zero => exact absurd HA.out (by simp [joinerylaw2_MarkEach.j2])
              | succ kj20 =>
                have H := HA.out
                clear HA
                simp only [joinerylaw2_MarkEach.j2] at H
                replace H := Option.bind_eq_some_iff.mp H
                obtain ⟨t177, A230, H⟩ := H
                replace H : (if (t177 == x6_15) = true then (if 1 + (Go.Utf8.encode x5_6).size ≤ 9223372036854775807 then ((mark_Name.f ((⟨#[97]⟩ : ByteArray) ++ (Go.Utf8.encode x5_6))).bind fun t178 => (if x6_15 = true then (if (t178 == true) = true then (if 2 + (Go.Utf8.encode x5_6).size ≤ 9223372036854775807 then (if 2 + (Go.Utf8.encode x5_6).size + 1 ≤ 9223372036854775807 then ((mark_Name.f (((⟨#[207, 137]⟩ : ByteArray) ++ (Go.Utf8.encode x5_6)) ++ (⟨#[49]⟩ : ByteArray))).bind fun t179 => (if (t179 == true) = true then ((mark_Runes.f (Go.Utf8.encode x5_6)).bind fun t180 => (some (t180 == 1))) else (some false))) else (none)) else (none)) else (some false)) else (if (t178 == x7_20) = true then (if 2 + (Go.Utf8.encode x5_6).size ≤ 9223372036854775807 then (if 2 + (Go.Utf8.encode x5_6).size + 1 ≤ 9223372036854775807 then ((mark_Name.f (((⟨#[207, 137]⟩ : ByteArray) ++ (Go.Utf8.encode x5_6)) ++ (⟨#[49]⟩ : ByteArray))).bind fun t181 => (if (t181 == x7_20) = true then ((mark_Runes.f (Go.Utf8.encode x5_6)).bind fun t182 => (some (t182 == 1))) else (some false))) else (none)) else (none)) else (some false)))) else (none)) else (some false)) = some r := H
                have A23 := Aside0.mk A230
                clear A230
                by_cases c24 : (t177 == x6_15) = true
                · rw [if_pos c24] at H
                  have c24b0 : (t177 == x6_15) = true := c24
                  (try (have c24b1 : decide (t177 = x6_15) = true := by simpa using c24))
                  (try (have c24b2 : (t177 == x6_15) = true := by simpa using c24))
                  clear c24
                  by_cases c25 : 1 + (Go.Utf8.encode x5_6).size ≤ 9223372036854775807
                  · rw [if_pos c25] at H
                    have c25b0 := eq_true c25
                    have c25b1 : decide (1 + (Go.Utf8.encode x5_6).size ≤ 9223372036854775807) = true := decide_eq_true c25
                    try have c25b2 : (9223372036854775807 < 1 + (Go.Utf8.encode x5_6).size) = False := eq_false (Nat.not_lt.2 c25)
                    replace H := Option.bind_eq_some_iff.mp H
                    obtain ⟨t178, A260, H⟩ := H
                    replace H : (if x6_15 = true then (if (t178 == true) = true then (if 2 + (Go.Utf8.encode x5_6).size ≤ 9223372036854775807 then (if 2 + (Go.Utf8.encode x5_6).size + 1 ≤ 9223372036854775807 then ((mark_Name.f (((⟨#[207, 137]⟩ : ByteArray) ++ (Go.Utf8.encode x5_6)) ++ (⟨#[49]⟩ : ByteArray))).bind fun t179 => (if (t179 == true) = true then ((mark_Runes.f (Go.Utf8.encode x5_6)).bind fun t180 => (some (t180 == 1))) else (some false))) else (none)) else (none)) else (some false)) else (if (t178 == x7_20) = true then (if 2 + (Go.Utf8.encode x5_6).size ≤ 9223372036854775807 then (if 2 + (Go.Utf8.encode x5_6).size + 1 ≤ 9223372036854775807 then ((mark_Name.f (((⟨#[207, 137]⟩ : ByteArray) ++ (Go.Utf8.encode x5_6)) ++ (⟨#[49]⟩ : ByteArray))).bind fun t181 => (if (t181 == x7_20) = true then ((mark_Runes.f (Go.Utf8.encode x5_6)).bind fun t182 => (some (t182 == 1))) else (some false))) else (none)) else (none)) else (some false))) = some r := H
                    have A26 := Aside0.mk A260
                    clear A260
                    by_cases c27 : x6_15 = true
                    · subst c27
                      have H1 : (if (t178 == true) = true then (if 2 + (Go.Utf8.encode x5_6).size ≤ 9223372036854775807 then (if 2 + (Go.Utf8.encode x5_6).size + 1 ≤ 9223372036854775807 then ((mark_Name.f (((⟨#[207, 137]⟩ : ByteArray) ++ (Go.Utf8.encode x5_6)) ++ (⟨#[49]⟩ : ByteArray))).bind fun t179 => (if (t179 == true) = true then ((mark_Runes.f (Go.Utf8.encode x5_6)).bind fun t180 => (some (t180 == 1))) else (some false))) else (none)) else (none)) else (some false)) = some r := by rw [if_pos rfl] at H; exact H
                      clear H
                      have H := H1
                      clear H1
                      by_cases c28 : (t178 == true) = true
                      · rw [if_pos c28] at H
                        have c28b0 : (t178 == true) = true := c28
                        (try (have c28b1 : decide (t178 = true) = true := by simpa using c28))
                        (try (have c28b2 : (t178 == true) = true := by simpa using c28))
                        clear c28
                        by_cases c29 : 2 + (Go.Utf8.encode x5_6).size ≤ 9223372036854775807
                        · rw [if_pos c29] at H
                          have c29b0 := eq_true c29
                          have c29b1 : decide (2 + (Go.Utf8.encode x5_6).size ≤ 9223372036854775807) = true := decide_eq_true c29
                          try have c29b2 : (9223372036854775807 < 2 + (Go.Utf8.encode x5_6).size) = False := eq_false (Nat.not_lt.2 c29)
                          by_cases c30 : 2 + (Go.Utf8.encode x5_6).size + 1 ≤ 9223372036854775807
                          · rw [if_pos c30] at H
                            have c30b0 := eq_true c30
                            have c30b1 : decide (2 + (Go.Utf8.encode x5_6).size + 1 ≤ 9223372036854775807) = true := decide_eq_true c30
                            try have c30b2 : (9223372036854775807 < 2 + (Go.Utf8.encode x5_6).size + 1) = False := eq_false (Nat.not_lt.2 c30)
                            replace H := Option.bind_eq_some_iff.mp H
                            obtain ⟨t179, A310, H⟩ := H
                            replace H : (if (t179 == true) = true then ((mark_Runes.f (Go.Utf8.encode x5_6)).bind fun t180 => (some (t180 == 1))) else (some false)) = some r := H
                            have A31 := Aside0.mk A310
                            clear A310
                            by_cases c32 : (t179 == true) = true
                            · rw [if_pos c32] at H
                              have c32b0 : (t179 == true) = true := c32
                              (try (have c32b1 : decide (t179 = true) = true := by simpa using c32))
                              (try (have c32b2 : (t179 == true) = true := by simpa using c32))
                              clear c32
                              replace H := Option.bind_eq_some_iff.mp H
                              obtain ⟨t180, A330, H⟩ := H
                              replace H : (some (t180 == 1)) = some r := H
                              have A33 := Aside0.mk A330
                              clear A330
                              obtain rfl := Option.some.inj H
                              go_wp2_with (first | ((with_reducible refine gate_callee (f := 16) rfl ?_); refine goesL_ (some 46) rfl rfl Try.func16 (by kernel_rfl) rfl #[.string (Go.Utf8.encode x5_6)] rfl (by (try simp only [List.map_toArray, List.map_cons, List.map_nil]); first | done | rfl | (simp only [List.length_drop, List.length_take]; rfl)) ?_; (with_reducible refine (mark_Name.calls (Go.Utf8.encode x5_6) t177 _ A23.out).mono ?_); rintro e w34 ⟨rfl, hb⟩; refine ⟨_, rfl, ?_⟩; have n0_ := Aside0.mk (below_step (by repeat (first | (with_reducible first | exact HB.out | apply below_alloc | apply pw_below_drewN | apply below_drew1) | exact HB.out)) hb); clear HB; have HB := n0_; clear n0_; (try clear hb); (try clear hb2); (try clear hk); (try clear hi)) | (go_at_call 16; (with_reducible refine (mark_Name.calls ((⟨#[97]⟩ : ByteArray) ++ (Go.Utf8.encode x5_6)) t178 _ A26.out).mono ?_); rintro e w35 ⟨rfl, hb⟩; have n0_ := Aside0.mk (below_step (by repeat (first | (with_reducible first | exact HB.out | apply below_alloc | apply pw_below_drewN | apply below_drew1) | exact HB.out)) hb); clear HB; have HB := n0_; clear n0_; (try clear hb); (try clear hb2); (try clear hk); (try clear hi)) | (go_at_call 16; (with_reducible refine (mark_Name.calls (((⟨#[207, 137]⟩ : ByteArray) ++ (Go.Utf8.encode x5_6)) ++ (⟨#[49]⟩ : ByteArray)) t179 _ A31.out).mono ?_); rintro e w36 ⟨rfl, hb⟩; have n0_ := Aside0.mk (below_step (by repeat (first | (with_reducible first | exact HB.out | apply below_alloc | apply pw_below_drewN | apply below_drew1) | exact HB.out)) hb); clear HB; have HB := n0_; clear n0_; (try clear hb); (try clear hb2); (try clear hk); (try clear hi)) | (go_at_call 18; (with_reducible refine (mark_Runes.calls (Go.Utf8.encode x5_6) t180 _ A33.out).mono ?_); rintro e w37 ⟨rfl, hb⟩; have n0_ := Aside0.mk (below_step (by repeat (first | (with_reducible first | exact HB.out | apply below_alloc | apply pw_below_drewN | apply below_drew1) | exact HB.out)) hb); clear HB; have HB := n0_; clear n0_; (try clear hb); (try clear hb2); (try clear hk); (try clear hi)))
                              go_ret
                              exact ⟨by first | rfl | (simp [errW_none, errW_some] <;> rfl) | (simp [*, errW_none, errW_some] <;> rfl), by repeat (first | (with_reducible first | exact HB.out | apply below_alloc | apply pw_below_drewN | apply below_drew1) | exact HB.out)⟩
                            · rw [if_neg c32] at H
                              have c32b0 : (t179 == true) = false := by simpa using c32
                              (try (have c32b1 : decide (t179 = true) = false := by simpa using c32))
                              (try (have c32b2 : (t179 == true) = false := by simpa using c32))
                              (try (have c32b3 : ¬ (t179 = true) := by simpa using c32))
                              clear c32
                              obtain rfl := Option.some.inj H
                              go_wp2_with (first | ((with_reducible refine gate_callee (f := 16) rfl ?_); refine goesL_ (some 46) rfl rfl Try.func16 (by kernel_rfl) rfl #[.string (Go.Utf8.encode x5_6)] rfl (by (try simp only [List.map_toArray, List.map_cons, List.map_nil]); first | done | rfl | (simp only [List.length_drop, List.length_take]; rfl)) ?_; (with_reducible refine (mark_Name.calls (Go.Utf8.encode x5_6) t177 _ A23.out).mono ?_); rintro e w38 ⟨rfl, hb⟩; refine ⟨_, rfl, ?_⟩; have n0_ := Aside0.mk (below_step (by repeat (first | (with_reducible first | exact HB.out | apply below_alloc | apply pw_below_drewN | apply below_drew1) | exact HB.out)) hb); clear HB; have HB := n0_; clear n0_; (try clear hb); (try clear hb2); (try clear hk); (try clear hi)) | (go_at_call 16; (with_reducible refine (mark_Name.calls ((⟨#[97]⟩ : ByteArray) ++ (Go.Utf8.encode x5_6)) t178 _ A26.out).mono ?_); rintro e w39 ⟨rfl, hb⟩; have n0_ := Aside0.mk (below_step (by repeat (first | (with_reducible first | exact HB.out | apply below_alloc | apply pw_below_drewN | apply below_drew1) | exact HB.out)) hb); clear HB; have HB := n0_; clear n0_; (try clear hb); (try clear hb2); (try clear hk); (try clear hi)) | (go_at_call 16; (with_reducible refine (mark_Name.calls (((⟨#[207, 137]⟩ : ByteArray) ++ (Go.Utf8.encode x5_6)) ++ (⟨#[49]⟩ : ByteArray)) t179 _ A31.out).mono ?_); rintro e w40 ⟨rfl, hb⟩; have n0_ := Aside0.mk (below_step (by repeat (first | (with_reducible first | exact HB.out | apply below_alloc | apply pw_below_drewN | apply below_drew1) | exact HB.out)) hb); clear HB; have HB := n0_; clear n0_; (try clear hb); (try clear hb2); (try clear hk); (try clear hi)))
                              go_ret
                              exact ⟨by first | rfl | (simp [errW_none, errW_some] <;> rfl) | (simp [*, errW_none, errW_some] <;> rfl), by repeat (first | (with_reducible first | exact HB.out | apply below_alloc | apply pw_below_drewN | apply below_drew1) | exact HB.out)⟩
                          · rw [if_neg c30] at H
                            exact absurd H (by simp)
                        · rw [if_neg c29] at H
                          exact absurd H (by simp)
                      · rw [if_neg c28] at H
                        have c28b0 : (t178 == true) = false := by simpa using c28
                        (try (have c28b1 : decide (t178 = true) = false := by simpa using c28))
                        (try (have c28b2 : (t178 == true) = false := by simpa using c28))
                        (try (have c28b3 : ¬ (t178 = true) := by simpa using c28))
                        clear c28
                        obtain rfl := Option.some.inj H
                        go_wp2_with (first | ((with_reducible refine gate_callee (f := 16) rfl ?_); refine goesL_ (some 46) rfl rfl Try.func16 (by kernel_rfl) rfl #[.string (Go.Utf8.encode x5_6)] rfl (by (try simp only [List.map_toArray, List.map_cons, List.map_nil]); first | done | rfl | (simp only [List.length_drop, List.length_take]; rfl)) ?_; (with_reducible refine (mark_Name.calls (Go.Utf8.encode x5_6) t177 _ A23.out).mono ?_); rintro e w41 ⟨rfl, hb⟩; refine ⟨_, rfl, ?_⟩; have n0_ := Aside0.mk (below_step (by repeat (first | (with_reducible first | exact HB.out | apply below_alloc | apply pw_below_drewN | apply below_drew1) | exact HB.out)) hb); clear HB; have HB := n0_; clear n0_; (try clear hb); (try clear hb2); (try clear hk); (try clear hi)) | (go_at_call 16; (with_reducible refine (mark_Name.calls ((⟨#[97]⟩ : ByteArray) ++ (Go.Utf8.encode x5_6)) t178 _ A26.out).mono ?_); rintro e w42 ⟨rfl, hb⟩; have n0_ := Aside0.mk (below_step (by repeat (first | (with_reducible first | exact HB.out | apply below_alloc | apply pw_below_drewN | apply below_drew1) | exact HB.out)) hb); clear HB; have HB := n0_; clear n0_; (try clear hb); (try clear hb2); (try clear hk); (try clear hi)))
                        go_ret
                        exact ⟨by first | rfl | (simp [errW_none, errW_some] <;> rfl) | (simp [*, errW_none, errW_some] <;> rfl), by repeat (first | (with_reducible first | exact HB.out | apply below_alloc | apply pw_below_drewN | apply below_drew1) | exact HB.out)⟩
                    · replace c27 := Bool.eq_false_iff.mpr c27
                      subst c27
                      have H1 : (if (t178 == x7_20) = true then (if 2 + (Go.Utf8.encode x5_6).size ≤ 9223372036854775807 then (if 2 + (Go.Utf8.encode x5_6).size + 1 ≤ 9223372036854775807 then ((mark_Name.f (((⟨#[207, 137]⟩ : ByteArray) ++ (Go.Utf8.encode x5_6)) ++ (⟨#[49]⟩ : ByteArray))).bind fun t181 => (if (t181 == x7_20) = true then ((mark_Runes.f (Go.Utf8.encode x5_6)).bind fun t182 => (some (t182 == 1))) else (some false))) else (none)) else (none)) else (some false)) = some r := by rw [if_neg (show ¬ (false = true) by decide)] at H; exact H
                      clear H
                      have H := H1
                      clear H1
                      by_cases c43 : (t178 == x7_20) = true
                      · rw [if_pos c43] at H
                        have c43b0 : (t178 == x7_20) = true := c43
                        (try (have c43b1 : decide (t178 = x7_20) = true := by simpa using c43))
                        (try (have c43b2 : (t178 == x7_20) = true := by simpa using c43))
                        clear c43
                        by_cases c44 : 2 + (Go.Utf8.encode x5_6).size ≤ 9223372036854775807
                        · rw [if_pos c44] at H
                          have c44b0 := eq_true c44
                          have c44b1 : decide (2 + (Go.Utf8.encode x5_6).size ≤ 9223372036854775807) = true := decide_eq_true c44
                          try have c44b2 : (9223372036854775807 < 2 + (Go.Utf8.encode x5_6).size) = False := eq_false (Nat.not_lt.2 c44)
                          by_cases c45 : 2 + (Go.Utf8.encode x5_6).size + 1 ≤ 9223372036854775807
                          · rw [if_pos c45] at H
                            have c45b0 := eq_true c45
                            have c45b1 : decide (2 + (Go.Utf8.encode x5_6).size + 1 ≤ 9223372036854775807) = true := decide_eq_true c45
                            try have c45b2 : (9223372036854775807 < 2 + (Go.Utf8.encode x5_6).size + 1) = False := eq_false (Nat.not_lt.2 c45)
                            replace H := Option.bind_eq_some_iff.mp H
                            obtain ⟨t181, A460, H⟩ := H
                            replace H : (if (t181 == x7_20) = true then ((mark_Runes.f (Go.Utf8.encode x5_6)).bind fun t182 => (some (t182 == 1))) else (some false)) = some r := H
                            have A46 := Aside0.mk A460
                            clear A460
                            by_cases c47 : (t181 == x7_20) = true
                            · rw [if_pos c47] at H
                              have c47b0 : (t181 == x7_20) = true := c47
                              (try (have c47b1 : decide (t181 = x7_20) = true := by simpa using c47))
                              (try (have c47b2 : (t181 == x7_20) = true := by simpa using c47))
                              clear c47
                              replace H := Option.bind_eq_some_iff.mp H
                              obtain ⟨t182, A480, H⟩ := H
                              replace H : (some (t182 == 1)) = some r := H
                              have A48 := Aside0.mk A480
                              clear A480
                              obtain rfl := Option.some.inj H
                              go_wp2_with (first | ((with_reducible refine gate_callee (f := 16) rfl ?_); refine goesL_ (some 46) rfl rfl Try.func16 (by kernel_rfl) rfl #[.string (Go.Utf8.encode x5_6)] rfl (by (try simp only [List.map_toArray, List.map_cons, List.map_nil]); first | done | rfl | (simp only [List.length_drop, List.length_take]; rfl)) ?_; (with_reducible refine (mark_Name.calls (Go.Utf8.encode x5_6) t177 _ A23.out).mono ?_); rintro e w49 ⟨rfl, hb⟩; refine ⟨_, rfl, ?_⟩; have n0_ := Aside0.mk (below_step (by repeat (first | (with_reducible first | exact HB.out | apply below_alloc | apply pw_below_drewN | apply below_drew1) | exact HB.out)) hb); clear HB; have HB := n0_; clear n0_; (try clear hb); (try clear hb2); (try clear hk); (try clear hi)) | (go_at_call 16; (with_reducible refine (mark_Name.calls ((⟨#[97]⟩ : ByteArray) ++ (Go.Utf8.encode x5_6)) t178 _ A26.out).mono ?_); rintro e w50 ⟨rfl, hb⟩; have n0_ := Aside0.mk (below_step (by repeat (first | (with_reducible first | exact HB.out | apply below_alloc | apply pw_below_drewN | apply below_drew1) | exact HB.out)) hb); clear HB; have HB := n0_; clear n0_; (try clear hb); (try clear hb2); (try clear hk); (try clear hi)) | (go_at_call 16; (with_reducible refine (mark_Name.calls (((⟨#[207, 137]⟩ : ByteArray) ++ (Go.Utf8.encode x5_6)) ++ (⟨#[49]⟩ : ByteArray)) t181 _ A46.out).mono ?_); rintro e w51 ⟨rfl, hb⟩; have n0_ := Aside0.mk (below_step (by repeat (first | (with_reducible first | exact HB.out | apply below_alloc | apply pw_below_drewN | apply below_drew1) | exact HB.out)) hb); clear HB; have HB := n0_; clear n0_; (try clear hb); (try clear hb2); (try clear hk); (try clear hi)) | (go_at_call 18; (with_reducible refine (mark_Runes.calls (Go.Utf8.encode x5_6) t182 _ A48.out).mono ?_); rintro e w52 ⟨rfl, hb⟩; have n0_ := Aside0.mk (below_step (by repeat (first | (with_reducible first | exact HB.out | apply below_alloc | apply pw_below_drewN | apply below_drew1) | exact HB.out)) hb); clear HB; have HB := n0_; clear n0_; (try clear hb); (try clear hb2); (try clear hk); (try clear hi)))
                              go_ret
                              exact ⟨by first | rfl | (simp [errW_none, errW_some] <;> rfl) | (simp [*, errW_none, errW_some] <;> rfl), by repeat (first | (with_reducible first | exact HB.out | apply below_alloc | apply pw_below_drewN | apply below_drew1) | exact HB.out)⟩
                            · rw [if_neg c47] at H
                              have c47b0 : (t181 == x7_20) = false := by simpa using c47
                              (try (have c47b1 : decide (t181 = x7_20) = false := by simpa using c47))
                              (try (have c47b2 : (t181 == x7_20) = false := by simpa using c47))
                              (try (have c47b3 : ¬ (t181 = x7_20) := by simpa using c47))
                              clear c47
                              obtain rfl := Option.some.inj H
                              go_wp2_with (first | ((with_reducible refine gate_callee (f := 16) rfl ?_); refine goesL_ (some 46) rfl rfl Try.func16 (by kernel_rfl) rfl #[.string (Go.Utf8.encode x5_6)] rfl (by (try simp only [List.map_toArray, List.map_cons, List.map_nil]); first | done | rfl | (simp only [List.length_drop, List.length_take]; rfl)) ?_; (with_reducible refine (mark_Name.calls (Go.Utf8.encode x5_6) t177 _ A23.out).mono ?_); rintro e w53 ⟨rfl, hb⟩; refine ⟨_, rfl, ?_⟩; have n0_ := Aside0.mk (below_step (by repeat (first | (with_reducible first | exact HB.out | apply below_alloc | apply pw_below_drewN | apply below_drew1) | exact HB.out)) hb); clear HB; have HB := n0_; clear n0_; (try clear hb); (try clear hb2); (try clear hk); (try clear hi)) | (go_at_call 16; (with_reducible refine (mark_Name.calls ((⟨#[97]⟩ : ByteArray) ++ (Go.Utf8.encode x5_6)) t178 _ A26.out).mono ?_); rintro e w54 ⟨rfl, hb⟩; have n0_ := Aside0.mk (below_step (by repeat (first | (with_reducible first | exact HB.out | apply below_alloc | apply pw_below_drewN | apply below_drew1) | exact HB.out)) hb); clear HB; have HB := n0_; clear n0_; (try clear hb); (try clear hb2); (try clear hk); (try clear hi)) | (go_at_call 16; (with_reducible refine (mark_Name.calls (((⟨#[207, 137]⟩ : ByteArray) ++ (Go.Utf8.encode x5_6)) ++ (⟨#[49]⟩ : ByteArray)) t181 _ A46.out).mono ?_); rintro e w55 ⟨rfl, hb⟩; have n0_ := Aside0.mk (below_step (by repeat (first | (with_reducible first | exact HB.out | apply below_alloc | apply pw_below_drewN | apply below_drew1) | exact HB.out)) hb); clear HB; have HB := n0_; clear n0_; (try clear hb); (try clear hb2); (try clear hk); (try clear hi)))
                              go_ret
                              exact ⟨by first | rfl | (simp [errW_none, errW_some] <;> rfl) | (simp [*, errW_none, errW_some] <;> rfl), by repeat (first | (with_reducible first | exact HB.out | apply below_alloc | apply pw_below_drewN | apply below_drew1) | exact HB.out)⟩
                          · rw [if_neg c45] at H
                            exact absurd H (by simp)
                        · rw [if_neg c44] at H
                          exact absurd H (by simp)
                      · rw [if_neg c43] at H
                        have c43b0 : (t178 == x7_20) = false := by simpa using c43
                        (try (have c43b1 : decide (t178 = x7_20) = false := by simpa using c43))
                        (try (have c43b2 : (t178 == x7_20) = false := by simpa using c43))
                        (try (have c43b3 : ¬ (t178 = x7_20) := by simpa using c43))
                        clear c43
                        obtain rfl := Option.some.inj H
                        go_wp2_with (first | ((with_reducible refine gate_callee (f := 16) rfl ?_); refine goesL_ (some 46) rfl rfl Try.func16 (by kernel_rfl) rfl #[.string (Go.Utf8.encode x5_6)] rfl (by (try simp only [List.map_toArray, List.map_cons, List.map_nil]); first | done | rfl | (simp only [List.length_drop, List.length_take]; rfl)) ?_; (with_reducible refine (mark_Name.calls (Go.Utf8.encode x5_6) t177 _ A23.out).mono ?_); rintro e w56 ⟨rfl, hb⟩; refine ⟨_, rfl, ?_⟩; have n0_ := Aside0.mk (below_step (by repeat (first | (with_reducible first | exact HB.out | apply below_alloc | apply pw_below_drewN | apply below_drew1) | exact HB.out)) hb); clear HB; have HB := n0_; clear n0_; (try clear hb); (try clear hb2); (try clear hk); (try clear hi)) | (go_at_call 16; (with_reducible refine (mark_Name.calls ((⟨#[97]⟩ : ByteArray) ++ (Go.Utf8.encode x5_6)) t178 _ A26.out).mono ?_); rintro e w57 ⟨rfl, hb⟩; have n0_ := Aside0.mk (below_step (by repeat (first | (with_reducible first | exact HB.out | apply below_alloc | apply pw_below_drewN | apply below_drew1) | exact HB.out)) hb); clear HB; have HB := n0_; clear n0_; (try clear hb); (try clear hb2); (try clear hk); (try clear hi)))
                        go_ret
                        exact ⟨by first | rfl | (simp [errW_none, errW_some] <;> rfl) | (simp [*, errW_none, errW_some] <;> rfl), by repeat (first | (with_reducible first | exact HB.out | apply below_alloc | apply pw_below_drewN | apply below_drew1) | exact HB.out)⟩
                  · rw [if_neg c25] at H
                    exact absurd H (by simp)
                · rw [if_neg c24] at H
                  have c24b0 : (t177 == x6_15) = false := by simpa using c24
                  (try (have c24b1 : decide (t177 = x6_15) = false := by simpa using c24))
                  (try (have c24b2 : (t177 == x6_15) = false := by simpa using c24))
                  (try (have c24b3 : ¬ (t177 = x6_15) := by simpa using c24))
                  clear c24
                  obtain rfl := Option.some.inj H
                  go_wp2_with (first | ((with_reducible refine gate_callee (f := 16) rfl ?_); refine goesL_ (some 46) rfl rfl Try.func16 (by kernel_rfl) rfl #[.string (Go.Utf8.encode x5_6)] rfl (by (try simp only [List.map_toArray, List.map_cons, List.map_nil]); first | done | rfl | (simp only [List.length_drop, List.length_take]; rfl)) ?_; (with_reducible refine (mark_Name.calls (Go.Utf8.encode x5_6) t177 _ A23.out).mono ?_); rintro e w58 ⟨rfl, hb⟩; refine ⟨_, rfl, ?_⟩; have n0_ := Aside0.mk (below_step (by repeat (first | (with_reducible first | exact HB.out | apply below_alloc | apply pw_below_drewN | apply below_drew1) | exact HB.out)) hb); clear HB; have HB := n0_; clear n0_; (try clear hb); (try clear hb2); (try clear hk); (try clear hi)))
                  go_ret
                  exact ⟨by first | rfl | (simp [errW_none, errW_some] <;> rfl) | (simp [*, errW_none, errW_some] <;> rfl), by repeat (first | (with_reducible first | exact HB.out | apply below_alloc | apply pw_below_drewN | apply below_drew1) | exact HB.out)⟩
  · replace c4 := Bool.eq_false_iff.mpr c4
    subst c4
    have H1 : (some false) = some r := by rw [if_neg (show ¬ (false = true) by decide)] at H; exact H
    clear H
    have H := H1
    clear H1
    obtain rfl := Option.some.inj H
    go_enter Try.func7, Try.ntmps7
    go_wp2_with (first | ((with_reducible refine gate_callee (f := 13) rfl ?_); refine goesL_ (some 9) rfl rfl Try.func13 (by kernel_rfl) rfl #[] rfl (by (try simp only [List.map_toArray, List.map_cons, List.map_nil]); first | done | rfl | (simp only [List.length_drop, List.length_take]; rfl)) ?_; (with_reducible refine (joinerylaw2_known.calls  false _ A3.out).mono ?_); rintro e w59 ⟨rfl, hb⟩; refine ⟨_, rfl, ?_⟩; have n0_ := Aside0.mk (below_step (by repeat (first | (with_reducible first | exact HB.out | apply below_alloc | apply pw_below_drewN | apply below_drew1) | exact HB.out)) hb); clear HB; have HB := n0_; clear n0_; (try clear hb); (try clear hb2); (try clear hk); (try clear hi)))
    go_ret
    exact ⟨by first | rfl | (simp [errW_none, errW_some] <;> rfl) | (simp [*, errW_none, errW_some] <;> rfl), by repeat (first | (with_reducible first | exact HB.out | apply below_alloc | apply pw_below_drewN | apply below_drew1) | exact HB.out)⟩

/-- THE ONE PURE STATEMENT of joinerylaw2_MarkEach: yours. -/
def joinerylaw2_MarkEach.Pure : Prop := ∀ (a0 : Int) (a1 : Int), (Lit.int .i64 a0).wf = true → (Lit.int .i64 a1).wf = true → ∃ k, joinerylaw2_MarkEach.f k a0 a1 = some true
theorem joinerylaw2_MarkEach.walk (P : joinerylaw2_MarkEach.Pure) (a0 : Int) (a1 : Int) (w : World) (w0 : (Lit.int .i64 a0).wf = true) (w1 : (Lit.int .i64 a1).wf = true) :
    Calls Try.prog 7 #[.int .i64 a0, .int .i64 a1] w fun e w' => e = .returned (.bool true) ∧ Below w.heap.size w w' := by
  obtain ⟨k, h⟩ := P a0 a1 w0 w1
  refine (joinerylaw2_MarkEach.calls k a0 a1 true w h).mono ?_
  rintro e w' ⟨rfl, hd⟩
  exact ⟨rfl, hd⟩

/-! ### joinerylaw2_Name: function 20 -/
def joinerylaw2_Name.f (a0 : Int) : Option (ByteArray) := (some (([(⟨#[97]⟩ : ByteArray), (⟨#[98]⟩ : ByteArray), (⟨#[206, 177]⟩ : ByteArray), (⟨#[207, 137, 57]⟩ : ByteArray), (⟨#[110, 49]⟩ : ByteArray), (⟨#[110, 50]⟩ : ByteArray), (⟨#[206, 178, 206, 179, 206, 180, 206, 181, 206, 182, 206, 183, 206, 184, 206, 185]⟩ : ByteArray), (⟨#[122, 122]⟩ : ByteArray)] : List ByteArray) : List ByteArray)).bind fun y183 => ((joinerylaw2_within.f a0 8).bind fun t186 => (if 0 ≤ t186 then (if t186 < (y183.length : Int) then (some (rdOf ByteArray.empty y183 t186)) else (none)) else (none)))
set_option maxHeartbeats 8000000 in
set_option maxRecDepth 100000 in
theorem joinerylaw2_Name.calls (a0 : Int) (r : ByteArray) (w : World) (h : joinerylaw2_Name.f a0 = some r) :
    Calls Try.prog 20 #[.int .i64 a0] w fun e w' => e = .returned (.string r) ∧ Below w.heap.size w w' := by
  have HB := Aside0.mk (Below.refl w.heap.size w)
  have H : ((some (([(⟨#[97]⟩ : ByteArray), (⟨#[98]⟩ : ByteArray), (⟨#[206, 177]⟩ : ByteArray), (⟨#[207, 137, 57]⟩ : ByteArray), (⟨#[110, 49]⟩ : ByteArray), (⟨#[110, 50]⟩ : ByteArray), (⟨#[206, 178, 206, 179, 206, 180, 206, 181, 206, 182, 206, 183, 206, 184, 206, 185]⟩ : ByteArray), (⟨#[122, 122]⟩ : ByteArray)] : List ByteArray) : List ByteArray)).bind fun y183 => ((joinerylaw2_within.f a0 8).bind fun t186 => (if 0 ≤ t186 then (if t186 < (y183.length : Int) then (some (rdOf ByteArray.empty y183 t186)) else (none)) else (none)))) = some r := h
  clear h
  obtain ⟨y183, hy183⟩ : ∃ y_ : List ByteArray, y_ = (([(⟨#[97]⟩ : ByteArray), (⟨#[98]⟩ : ByteArray), (⟨#[206, 177]⟩ : ByteArray), (⟨#[207, 137, 57]⟩ : ByteArray), (⟨#[110, 49]⟩ : ByteArray), (⟨#[110, 50]⟩ : ByteArray), (⟨#[206, 178, 206, 179, 206, 180, 206, 181, 206, 182, 206, 183, 206, 184, 206, 185]⟩ : ByteArray), (⟨#[122, 122]⟩ : ByteArray)] : List ByteArray)) := ⟨_, rfl⟩
  replace H : ((joinerylaw2_within.f a0 8).bind fun t186 => (if 0 ≤ t186 then (if t186 < (y183.length : Int) then (some (rdOf ByteArray.empty y183 t186)) else (none)) else (none))) = some r := by first | (rw [hy183]; with_reducible exact H) | (have H2_ := (Option.bind_some _ _).symm.trans H; rw [hy183]; with_reducible exact H2_) | (have H2_ := (Option.bind_some _ _).symm.trans H; with_reducible exact H2_) | with_reducible exact H | (rw [hy183]; exact H) | exact H
  have Ny183 := Aside0.mk hy183
  clear hy183
  replace H := Option.bind_eq_some_iff.mp H
  obtain ⟨t186, A20, H⟩ := H
  replace H : (if 0 ≤ t186 then (if t186 < (y183.length : Int) then (some (rdOf ByteArray.empty y183 t186)) else (none)) else (none)) = some r := H
  have A2 := Aside0.mk A20
  clear A20
  by_cases c3 : 0 ≤ t186
  · rw [if_pos c3] at H
    have c3b0 : decide (0 ≤ t186) = true := decide_eq_true c3
    clear c3
    by_cases c4 : t186 < (y183.length : Int)
    · rw [if_pos c4] at H
      have c4b0 : decide (t186 < (y183.length : Int)) = true := decide_eq_true c4
      clear c4
      obtain rfl := Option.some.inj H
      go_enter Try.func20, Try.ntmps20
      go_wp2_with (first | ((with_reducible refine gate_dst (N := 3) rfl ?_); refine Kd.R_lit Kd.string _ 9 ?hg (N := 3) ?hd (xs := ([(⟨#[97]⟩ : ByteArray), (⟨#[98]⟩ : ByteArray), (⟨#[206, 177]⟩ : ByteArray), (⟨#[207, 137, 57]⟩ : ByteArray), (⟨#[110, 49]⟩ : ByteArray), (⟨#[110, 50]⟩ : ByteArray), (⟨#[206, 178, 206, 179, 206, 180, 206, 181, 206, 182, 206, 183, 206, 184, 206, 185]⟩ : ByteArray), (⟨#[122, 122]⟩ : ByteArray)] : List ByteArray)) (inner := [.string (⟨#[97]⟩ : ByteArray), .string (⟨#[98]⟩ : ByteArray), .string (⟨#[206, 177]⟩ : ByteArray), .string (⟨#[207, 137, 57]⟩ : ByteArray), .string (⟨#[110, 49]⟩ : ByteArray), .string (⟨#[110, 50]⟩ : ByteArray), .string (⟨#[206, 178, 206, 179, 206, 180, 206, 181, 206, 182, 206, 183, 206, 184, 206, 185]⟩ : ByteArray), .string (⟨#[122, 122]⟩ : ByteArray)]) (ok := fun _ => True) (okp := fun _ => True) ?hr ?hp (fun _ hk => hk) trivial (Below.refl _ _) (Nat.le_refl _) (by simp) ?_; (case hd => rfl); (case hg => rfl); (case hr => first | (go_simp; done) | (go_simp; rfl)); (case hp => exact (Reps.one (show Kd.M Kd.string _ _ _ (⟨#[97]⟩ : ByteArray) [.string (⟨#[97]⟩ : ByteArray)] from rfl) (Reps.one (show Kd.M Kd.string _ _ _ (⟨#[98]⟩ : ByteArray) [.string (⟨#[98]⟩ : ByteArray)] from rfl) (Reps.one (show Kd.M Kd.string _ _ _ (⟨#[206, 177]⟩ : ByteArray) [.string (⟨#[206, 177]⟩ : ByteArray)] from rfl) (Reps.one (show Kd.M Kd.string _ _ _ (⟨#[207, 137, 57]⟩ : ByteArray) [.string (⟨#[207, 137, 57]⟩ : ByteArray)] from rfl) (Reps.one (show Kd.M Kd.string _ _ _ (⟨#[110, 49]⟩ : ByteArray) [.string (⟨#[110, 49]⟩ : ByteArray)] from rfl) (Reps.one (show Kd.M Kd.string _ _ _ (⟨#[110, 50]⟩ : ByteArray) [.string (⟨#[110, 50]⟩ : ByteArray)] from rfl) (Reps.one (show Kd.M Kd.string _ _ _ (⟨#[206, 178, 206, 179, 206, 180, 206, 181, 206, 182, 206, 183, 206, 184, 206, 185]⟩ : ByteArray) [.string (⟨#[206, 178, 206, 179, 206, 180, 206, 181, 206, 182, 206, 183, 206, 184, 206, 185]⟩ : ByteArray)] from rfl) (Reps.one (show Kd.M Kd.string _ _ _ (⟨#[122, 122]⟩ : ByteArray) [.string (⟨#[122, 122]⟩ : ByteArray)] from rfl) (Reps.none _ _)))))))))); intro v184 w5 ho6 hb hg_ hnew_; clear hg_ hnew_; (first | rw [← Ny183.out] at ho6 | (simp only [Int.reduceToNat] at ho6; rw [← Ny183.out] at ho6)); have n0_ := Aside0.mk (Kd.R_lower ho6 (below_size (by repeat (first | (with_reducible first | exact HB.out | apply below_alloc | apply pw_below_drewN | apply below_drew1) | exact HB.out)))); have n1_ := Aside0.mk (below_step (by repeat (first | (with_reducible first | exact HB.out | apply below_alloc | apply pw_below_drewN | apply below_drew1) | exact HB.out)) hb); clear HB; have HO185 := n0_; have HB := n1_; clear n0_ n1_; clear hb ho6) | ((with_reducible refine gate_callee (f := 15) rfl ?_); refine goesL_ (some 5) rfl rfl Try.func15 (by kernel_rfl) rfl #[.int .i64 a0, .int .i64 8] rfl (by (try simp only [List.map_toArray, List.map_cons, List.map_nil]); first | done | rfl | (simp only [List.length_drop, List.length_take]; rfl)) ?_; (with_reducible refine (joinerylaw2_within.calls a0 8 t186 _ A2.out).mono ?_); rintro e w' ⟨rfl, ⟨nd, rfl⟩⟩; refine ⟨_, rfl, ?_⟩; obtain ⟨Ao7, co7, eo7⟩ := Kd.R_slice HO185.out; subst eo7; have p187 : 0 ≤ (t186 : Int) := of_decide_eq_true (by first | (with_reducible assumption) | assumption); have q187 : t186 < (y183.length : Int) := of_decide_eq_true (by first | (with_reducible assumption) | assumption); obtain ⟨ad187, e187, hx187_0⟩ := Kd.at_string (Kd.R_reads' HO185.out).2.2 t186 p187 q187; cases e187; replace p187 := eq_true p187; replace q187 := eq_true q187))
      go_ret
      exact ⟨by first | rfl | (simp [errW_none, errW_some] <;> rfl) | (simp [*, errW_none, errW_some] <;> rfl), by repeat (first | (with_reducible first | exact HB.out | apply below_alloc | apply pw_below_drewN | apply below_drew1) | exact HB.out)⟩
    · rw [if_neg c4] at H
      exact absurd H (by simp)
  · rw [if_neg c3] at H
    exact absurd H (by simp)

/-! ### joinerylaw2_MarkJoin: function 8 -/
def joinerylaw2_MarkJoin.f (a0 : Int) (a1 : Int) : Option (Bool) := (joinerylaw2_known.f).bind fun t188 => (if t188 = true then ((joinerylaw2_Name.f a0).bind fun t189 => ((joinerylaw2_Name.f a1).bind fun t190 => ((mark_Runes.f t189).bind fun t191 => ((mark_Runes.f t190).bind fun t192 => ((mark_Name.f t189).bind fun t193 => (if t193 = true then ((mark_Name.f t190).bind fun t194 => (if t194 = true then (if t189.size + t190.size ≤ 9223372036854775807 then ((mark_Name.f (t189 ++ t190)).bind fun t195 => (if (t195 == (decide ((wrap64 (t191 + t192)) ≤ 8))) = true then ((mark_Runes.f (t189 ++ t190)).bind fun t196 => (if t196 = (wrap64 (t191 + t192)) then (if t189.size + 1 ≤ 9223372036854775807 then (if (t189 ++ (⟨#[32]⟩ : ByteArray)).size + t190.size ≤ 9223372036854775807 then ((mark_Name.f ((t189 ++ (⟨#[32]⟩ : ByteArray)) ++ t190)).bind fun t197 => (if t197 = true then (some false) else ((joineryref2_Name.f t189).bind fun t198 => (some t198)))) else (none)) else (none)) else (some false))) else (some false))) else (none)) else (some false))) else (some false))))))) else (some false))
set_option maxHeartbeats 8000000 in
set_option maxRecDepth 100000 in
theorem joinerylaw2_MarkJoin.calls (a0 : Int) (a1 : Int) (r : Bool) (w : World) (h : joinerylaw2_MarkJoin.f a0 a1 = some r) :
    Calls Try.prog 8 #[.int .i64 a0, .int .i64 a1] w fun e w' => e = .returned (.bool r) ∧ Below w.heap.size w w' := by
  have HB := Aside0.mk (Below.refl w.heap.size w)
  have H : ((joinerylaw2_known.f).bind fun t188 => (if t188 = true then ((joinerylaw2_Name.f a0).bind fun t189 => ((joinerylaw2_Name.f a1).bind fun t190 => ((mark_Runes.f t189).bind fun t191 => ((mark_Runes.f t190).bind fun t192 => ((mark_Name.f t189).bind fun t193 => (if t193 = true then ((mark_Name.f t190).bind fun t194 => (if t194 = true then (if t189.size + t190.size ≤ 9223372036854775807 then ((mark_Name.f (t189 ++ t190)).bind fun t195 => (if (t195 == (decide ((wrap64 (t191 + t192)) ≤ 8))) = true then ((mark_Runes.f (t189 ++ t190)).bind fun t196 => (if t196 = (wrap64 (t191 + t192)) then (if t189.size + 1 ≤ 9223372036854775807 then (if (t189 ++ (⟨#[32]⟩ : ByteArray)).size + t190.size ≤ 9223372036854775807 then ((mark_Name.f ((t189 ++ (⟨#[32]⟩ : ByteArray)) ++ t190)).bind fun t197 => (if t197 = true then (some false) else ((joineryref2_Name.f t189).bind fun t198 => (some t198)))) else (none)) else (none)) else (some false))) else (some false))) else (none)) else (some false))) else (some false))))))) else (some false))) = some r := h
  clear h
  replace H := Option.bind_eq_some_iff.mp H
  obtain ⟨t188, A30, H⟩ := H
  replace H : (if t188 = true then ((joinerylaw2_Name.f a0).bind fun t189 => ((joinerylaw2_Name.f a1).bind fun t190 => ((mark_Runes.f t189).bind fun t191 => ((mark_Runes.f t190).bind fun t192 => ((mark_Name.f t189).bind fun t193 => (if t193 = true then ((mark_Name.f t190).bind fun t194 => (if t194 = true then (if t189.size + t190.size ≤ 9223372036854775807 then ((mark_Name.f (t189 ++ t190)).bind fun t195 => (if (t195 == (decide ((wrap64 (t191 + t192)) ≤ 8))) = true then ((mark_Runes.f (t189 ++ t190)).bind fun t196 => (if t196 = (wrap64 (t191 + t192)) then (if t189.size + 1 ≤ 9223372036854775807 then (if (t189 ++ (⟨#[32]⟩ : ByteArray)).size + t190.size ≤ 9223372036854775807 then ((mark_Name.f ((t189 ++ (⟨#[32]⟩ : ByteArray)) ++ t190)).bind fun t197 => (if t197 = true then (some false) else ((joineryref2_Name.f t189).bind fun t198 => (some t198)))) else (none)) else (none)) else (some false))) else (some false))) else (none)) else (some false))) else (some false))))))) else (some false)) = some r := H
  have A3 := Aside0.mk A30
  clear A30
  by_cases c4 : t188 = true
  · subst c4
    have H1 : ((joinerylaw2_Name.f a0).bind fun t189 => ((joinerylaw2_Name.f a1).bind fun t190 => ((mark_Runes.f t189).bind fun t191 => ((mark_Runes.f t190).bind fun t192 => ((mark_Name.f t189).bind fun t193 => (if t193 = true then ((mark_Name.f t190).bind fun t194 => (if t194 = true then (if t189.size + t190.size ≤ 9223372036854775807 then ((mark_Name.f (t189 ++ t190)).bind fun t195 => (if (t195 == (decide ((wrap64 (t191 + t192)) ≤ 8))) = true then ((mark_Runes.f (t189 ++ t190)).bind fun t196 => (if t196 = (wrap64 (t191 + t192)) then (if t189.size + 1 ≤ 9223372036854775807 then (if (t189 ++ (⟨#[32]⟩ : ByteArray)).size + t190.size ≤ 9223372036854775807 then ((mark_Name.f ((t189 ++ (⟨#[32]⟩ : ByteArray)) ++ t190)).bind fun t197 => (if t197 = true then (some false) else ((joineryref2_Name.f t189).bind fun t198 => (some t198)))) else (none)) else (none)) else (some false))) else (some false))) else (none)) else (some false))) else (some false))))))) = some r := by rw [if_pos rfl] at H; exact H
    clear H
    have H := H1
    clear H1
    replace H := Option.bind_eq_some_iff.mp H
    obtain ⟨t189, A50, H⟩ := H
    replace H : ((joinerylaw2_Name.f a1).bind fun t190 => ((mark_Runes.f t189).bind fun t191 => ((mark_Runes.f t190).bind fun t192 => ((mark_Name.f t189).bind fun t193 => (if t193 = true then ((mark_Name.f t190).bind fun t194 => (if t194 = true then (if t189.size + t190.size ≤ 9223372036854775807 then ((mark_Name.f (t189 ++ t190)).bind fun t195 => (if (t195 == (decide ((wrap64 (t191 + t192)) ≤ 8))) = true then ((mark_Runes.f (t189 ++ t190)).bind fun t196 => (if t196 = (wrap64 (t191 + t192)) then (if t189.size + 1 ≤ 9223372036854775807 then (if (t189 ++ (⟨#[32]⟩ : ByteArray)).size + t190.size ≤ 9223372036854775807 then ((mark_Name.f ((t189 ++ (⟨#[32]⟩ : ByteArray)) ++ t190)).bind fun t197 => (if t197 = true then (some false) else ((joineryref2_Name.f t189).bind fun t198 => (some t198)))) else (none)) else (none)) else (some false))) else (some false))) else (none)) else (some false))) else (some false)))))) = some r := H
    have A5 := Aside0.mk A50
    clear A50
    replace H := Option.bind_eq_some_iff.mp H
    obtain ⟨t190, A60, H⟩ := H
    replace H : ((mark_Runes.f t189).bind fun t191 => ((mark_Runes.f t190).bind fun t192 => ((mark_Name.f t189).bind fun t193 => (if t193 = true then ((mark_Name.f t190).bind fun t194 => (if t194 = true then (if t189.size + t190.size ≤ 9223372036854775807 then ((mark_Name.f (t189 ++ t190)).bind fun t195 => (if (t195 == (decide ((wrap64 (t191 + t192)) ≤ 8))) = true then ((mark_Runes.f (t189 ++ t190)).bind fun t196 => (if t196 = (wrap64 (t191 + t192)) then (if t189.size + 1 ≤ 9223372036854775807 then (if (t189 ++ (⟨#[32]⟩ : ByteArray)).size + t190.size ≤ 9223372036854775807 then ((mark_Name.f ((t189 ++ (⟨#[32]⟩ : ByteArray)) ++ t190)).bind fun t197 => (if t197 = true then (some false) else ((joineryref2_Name.f t189).bind fun t198 => (some t198)))) else (none)) else (none)) else (some false))) else (some false))) else (none)) else (some false))) else (some false))))) = some r := H
    have A6 := Aside0.mk A60
    clear A60
    replace H := Option.bind_eq_some_iff.mp H
    obtain ⟨t191, A70, H⟩ := H
    replace H : ((mark_Runes.f t190).bind fun t192 => ((mark_Name.f t189).bind fun t193 => (if t193 = true then ((mark_Name.f t190).bind fun t194 => (if t194 = true then (if t189.size + t190.size ≤ 9223372036854775807 then ((mark_Name.f (t189 ++ t190)).bind fun t195 => (if (t195 == (decide ((wrap64 (t191 + t192)) ≤ 8))) = true then ((mark_Runes.f (t189 ++ t190)).bind fun t196 => (if t196 = (wrap64 (t191 + t192)) then (if t189.size + 1 ≤ 9223372036854775807 then (if (t189 ++ (⟨#[32]⟩ : ByteArray)).size + t190.size ≤ 9223372036854775807 then ((mark_Name.f ((t189 ++ (⟨#[32]⟩ : ByteArray)) ++ t190)).bind fun t197 => (if t197 = true then (some false) else ((joineryref2_Name.f t189).bind fun t198 => (some t198)))) else (none)) else (none)) else (some false))) else (some false))) else (none)) else (some false))) else (some false)))) = some r := H
    have A7 := Aside0.mk A70
    clear A70
    replace H := Option.bind_eq_some_iff.mp H
    obtain ⟨t192, A80, H⟩ := H
    replace H : ((mark_Name.f t189).bind fun t193 => (if t193 = true then ((mark_Name.f t190).bind fun t194 => (if t194 = true then (if t189.size + t190.size ≤ 9223372036854775807 then ((mark_Name.f (t189 ++ t190)).bind fun t195 => (if (t195 == (decide ((wrap64 (t191 + t192)) ≤ 8))) = true then ((mark_Runes.f (t189 ++ t190)).bind fun t196 => (if t196 = (wrap64 (t191 + t192)) then (if t189.size + 1 ≤ 9223372036854775807 then (if (t189 ++ (⟨#[32]⟩ : ByteArray)).size + t190.size ≤ 9223372036854775807 then ((mark_Name.f ((t189 ++ (⟨#[32]⟩ : ByteArray)) ++ t190)).bind fun t197 => (if t197 = true then (some false) else ((joineryref2_Name.f t189).bind fun t198 => (some t198)))) else (none)) else (none)) else (some false))) else (some false))) else (none)) else (some false))) else (some false))) = some r := H
    have A8 := Aside0.mk A80
    clear A80
    replace H := Option.bind_eq_some_iff.mp H
    obtain ⟨t193, A90, H⟩ := H
    replace H : (if t193 = true then ((mark_Name.f t190).bind fun t194 => (if t194 = true then (if t189.size + t190.size ≤ 9223372036854775807 then ((mark_Name.f (t189 ++ t190)).bind fun t195 => (if (t195 == (decide ((wrap64 (t191 + t192)) ≤ 8))) = true then ((mark_Runes.f (t189 ++ t190)).bind fun t196 => (if t196 = (wrap64 (t191 + t192)) then (if t189.size + 1 ≤ 9223372036854775807 then (if (t189 ++ (⟨#[32]⟩ : ByteArray)).size + t190.size ≤ 9223372036854775807 then ((mark_Name.f ((t189 ++ (⟨#[32]⟩ : ByteArray)) ++ t190)).bind fun t197 => (if t197 = true then (some false) else ((joineryref2_Name.f t189).bind fun t198 => (some t198)))) else (none)) else (none)) else (some false))) else (some false))) else (none)) else (some false))) else (some false)) = some r := H
    have A9 := Aside0.mk A90
    clear A90
    by_cases c10 : t193 = true
    · subst c10
      have H1 : ((mark_Name.f t190).bind fun t194 => (if t194 = true then (if t189.size + t190.size ≤ 9223372036854775807 then ((mark_Name.f (t189 ++ t190)).bind fun t195 => (if (t195 == (decide ((wrap64 (t191 + t192)) ≤ 8))) = true then ((mark_Runes.f (t189 ++ t190)).bind fun t196 => (if t196 = (wrap64 (t191 + t192)) then (if t189.size + 1 ≤ 9223372036854775807 then (if (t189 ++ (⟨#[32]⟩ : ByteArray)).size + t190.size ≤ 9223372036854775807 then ((mark_Name.f ((t189 ++ (⟨#[32]⟩ : ByteArray)) ++ t190)).bind fun t197 => (if t197 = true then (some false) else ((joineryref2_Name.f t189).bind fun t198 => (some t198)))) else (none)) else (none)) else (some false))) else (some false))) else (none)) else (some false))) = some r := by rw [if_pos rfl] at H; exact H
      clear H
      have H := H1
      clear H1
      replace H := Option.bind_eq_some_iff.mp H
      obtain ⟨t194, A110, H⟩ := H
      replace H : (if t194 = true then (if t189.size + t190.size ≤ 9223372036854775807 then ((mark_Name.f (t189 ++ t190)).bind fun t195 => (if (t195 == (decide ((wrap64 (t191 + t192)) ≤ 8))) = true then ((mark_Runes.f (t189 ++ t190)).bind fun t196 => (if t196 = (wrap64 (t191 + t192)) then (if t189.size + 1 ≤ 9223372036854775807 then (if (t189 ++ (⟨#[32]⟩ : ByteArray)).size + t190.size ≤ 9223372036854775807 then ((mark_Name.f ((t189 ++ (⟨#[32]⟩ : ByteArray)) ++ t190)).bind fun t197 => (if t197 = true then (some false) else ((joineryref2_Name.f t189).bind fun t198 => (some t198)))) else (none)) else (none)) else (some false))) else (some false))) else (none)) else (some false)) = some r := H
      have A11 := Aside0.mk A110
      clear A110
      by_cases c12 : t194 = true
      · subst c12
        have H1 : (if t189.size + t190.size ≤ 9223372036854775807 then ((mark_Name.f (t189 ++ t190)).bind fun t195 => (if (t195 == (decide ((wrap64 (t191 + t192)) ≤ 8))) = true then ((mark_Runes.f (t189 ++ t190)).bind fun t196 => (if t196 = (wrap64 (t191 + t192)) then (if t189.size + 1 ≤ 9223372036854775807 then (if (t189 ++ (⟨#[32]⟩ : ByteArray)).size + t190.size ≤ 9223372036854775807 then ((mark_Name.f ((t189 ++ (⟨#[32]⟩ : ByteArray)) ++ t190)).bind fun t197 => (if t197 = true then (some false) else ((joineryref2_Name.f t189).bind fun t198 => (some t198)))) else (none)) else (none)) else (some false))) else (some false))) else (none)) = some r := by rw [if_pos rfl] at H; exact H
        clear H
        have H := H1
        clear H1
        by_cases c13 : t189.size + t190.size ≤ 9223372036854775807
        · rw [if_pos c13] at H
          have c13b0 := eq_true c13
          have c13b1 : decide (t189.size + t190.size ≤ 9223372036854775807) = true := decide_eq_true c13
          try have c13b2 : (9223372036854775807 < t189.size + t190.size) = False := eq_false (Nat.not_lt.2 c13)
          replace H := Option.bind_eq_some_iff.mp H
          obtain ⟨t195, A140, H⟩ := H
          replace H : (if (t195 == (decide ((wrap64 (t191 + t192)) ≤ 8))) = true then ((mark_Runes.f (t189 ++ t190)).bind fun t196 => (if t196 = (wrap64 (t191 + t192)) then (if t189.size + 1 ≤ 9223372036854775807 then (if (t189 ++ (⟨#[32]⟩ : ByteArray)).size + t190.size ≤ 9223372036854775807 then ((mark_Name.f ((t189 ++ (⟨#[32]⟩ : ByteArray)) ++ t190)).bind fun t197 => (if t197 = true then (some false) else ((joineryref2_Name.f t189).bind fun t198 => (some t198)))) else (none)) else (none)) else (some false))) else (some false)) = some r := H
          have A14 := Aside0.mk A140
          clear A140
          by_cases c15 : (t195 == (decide ((wrap64 (t191 + t192)) ≤ 8))) = true
          · rw [if_pos c15] at H
            have c15b0 : (t195 == (decide ((wrap64 (t191 + t192)) ≤ 8))) = true := c15
            (try (have c15b1 : decide (t195 = (decide ((wrap64 (t191 + t192)) ≤ 8))) = true := by simpa using c15))
            (try (have c15b2 : (t195 == (decide ((wrap64 (t191 + t192)) ≤ 8))) = true := by simpa using c15))
            clear c15
            replace H := Option.bind_eq_some_iff.mp H
            obtain ⟨t196, A160, H⟩ := H
            replace H : (if t196 = (wrap64 (t191 + t192)) then (if t189.size + 1 ≤ 9223372036854775807 then (if (t189 ++ (⟨#[32]⟩ : ByteArray)).size + t190.size ≤ 9223372036854775807 then ((mark_Name.f ((t189 ++ (⟨#[32]⟩ : ByteArray)) ++ t190)).bind fun t197 => (if t197 = true then (some false) else ((joineryref2_Name.f t189).bind fun t198 => (some t198)))) else (none)) else (none)) else (some false)) = some r := H
            have A16 := Aside0.mk A160
            clear A160
            by_cases c17 : t196 = (wrap64 (t191 + t192))
            · rw [if_pos c17] at H
              have c17b0 : (t196 == (wrap64 (t191 + t192))) = true := beq_iff_eq.mpr c17
              have c17b1 : (t196 != (wrap64 (t191 + t192))) = false := bne_eq_false_iff_eq.mpr c17
              clear c17
              by_cases c18 : t189.size + 1 ≤ 9223372036854775807
              · rw [if_pos c18] at H
                have c18b0 := eq_true c18
                have c18b1 : decide (t189.size + 1 ≤ 9223372036854775807) = true := decide_eq_true c18
                try have c18b2 : (9223372036854775807 < t189.size + 1) = False := eq_false (Nat.not_lt.2 c18)
                by_cases c19 : (t189 ++ (⟨#[32]⟩ : ByteArray)).size + t190.size ≤ 9223372036854775807
                · rw [if_pos c19] at H
                  have c19b0 := eq_true c19
                  have c19b1 : decide ((t189 ++ (⟨#[32]⟩ : ByteArray)).size + t190.size ≤ 9223372036854775807) = true := decide_eq_true c19
                  try have c19b2 : (9223372036854775807 < (t189 ++ (⟨#[32]⟩ : ByteArray)).size + t190.size) = False := eq_false (Nat.not_lt.2 c19)
                  replace H := Option.bind_eq_some_iff.mp H
                  obtain ⟨t197, A200, H⟩ := H
                  replace H : (if t197 = true then (some false) else ((joineryref2_Name.f t189).bind fun t198 => (some t198))) = some r := H
                  have A20 := Aside0.mk A200
                  clear A200
                  by_cases c21 : t197 = true
                  · subst c21
                    have H1 : (some false) = some r := by rw [if_pos rfl] at H; exact H
                    clear H
                    have H := H1
                    clear H1
                    obtain rfl := Option.some.inj H
                    go_enter Try.func8, Try.ntmps8
                    go_wp2_with (first | ((with_reducible refine gate_callee (f := 13) rfl ?_); refine goesL_ (some 8) rfl rfl Try.func13 (by kernel_rfl) rfl #[] rfl (by (try simp only [List.map_toArray, List.map_cons, List.map_nil]); first | done | rfl | (simp only [List.length_drop, List.length_take]; rfl)) ?_; (with_reducible refine (joinerylaw2_known.calls  true _ A3.out).mono ?_); rintro e w22 ⟨rfl, hb⟩; refine ⟨_, rfl, ?_⟩; have n0_ := Aside0.mk (below_step (by repeat (first | (with_reducible first | exact HB.out | apply below_alloc | apply pw_below_drewN | apply below_drew1) | exact HB.out)) hb); clear HB; have HB := n0_; clear n0_; (try clear hb); (try clear hb2); (try clear hk); (try clear hi)) | ((with_reducible refine gate_callee (f := 20) rfl ?_); refine goesL_ (some 11) rfl rfl Try.func20 (by kernel_rfl) rfl #[.int .i64 a0] rfl (by (try simp only [List.map_toArray, List.map_cons, List.map_nil]); first | done | rfl | (simp only [List.length_drop, List.length_take]; rfl)) ?_; (with_reducible refine (joinerylaw2_Name.calls a0 t189 _ A5.out).mono ?_); rintro e w23 ⟨rfl, hb⟩; refine ⟨_, rfl, ?_⟩; have n0_ := Aside0.mk (below_step (by repeat (first | (with_reducible first | exact HB.out | apply below_alloc | apply pw_below_drewN | apply below_drew1) | exact HB.out)) hb); clear HB; have HB := n0_; clear n0_; (try clear hb); (try clear hb2); (try clear hk); (try clear hi)) | ((with_reducible refine gate_callee (f := 20) rfl ?_); refine goesL_ (some 13) rfl rfl Try.func20 (by kernel_rfl) rfl #[.int .i64 a1] rfl (by (try simp only [List.map_toArray, List.map_cons, List.map_nil]); first | done | rfl | (simp only [List.length_drop, List.length_take]; rfl)) ?_; (with_reducible refine (joinerylaw2_Name.calls a1 t190 _ A6.out).mono ?_); rintro e w24 ⟨rfl, hb⟩; refine ⟨_, rfl, ?_⟩; have n0_ := Aside0.mk (below_step (by repeat (first | (with_reducible first | exact HB.out | apply below_alloc | apply pw_below_drewN | apply below_drew1) | exact HB.out)) hb); clear HB; have HB := n0_; clear n0_; (try clear hb); (try clear hb2); (try clear hk); (try clear hi)) | ((with_reducible refine gate_callee (f := 18) rfl ?_); refine goesL_ (some 15) rfl rfl Try.func18 (by kernel_rfl) rfl #[.string t189] rfl (by (try simp only [List.map_toArray, List.map_cons, List.map_nil]); first | done | rfl | (simp only [List.length_drop, List.length_take]; rfl)) ?_; (with_reducible refine (mark_Runes.calls t189 t191 _ A7.out).mono ?_); rintro e w25 ⟨rfl, hb⟩; refine ⟨_, rfl, ?_⟩; have n0_ := Aside0.mk (below_step (by repeat (first | (with_reducible first | exact HB.out | apply below_alloc | apply pw_below_drewN | apply below_drew1) | exact HB.out)) hb); clear HB; have HB := n0_; clear n0_; (try clear hb); (try clear hb2); (try clear hk); (try clear hi)) | ((with_reducible refine gate_callee (f := 18) rfl ?_); refine goesL_ (some 17) rfl rfl Try.func18 (by kernel_rfl) rfl #[.string t190] rfl (by (try simp only [List.map_toArray, List.map_cons, List.map_nil]); first | done | rfl | (simp only [List.length_drop, List.length_take]; rfl)) ?_; (with_reducible refine (mark_Runes.calls t190 t192 _ A8.out).mono ?_); rintro e w26 ⟨rfl, hb⟩; refine ⟨_, rfl, ?_⟩; have n0_ := Aside0.mk (below_step (by repeat (first | (with_reducible first | exact HB.out | apply below_alloc | apply pw_below_drewN | apply below_drew1) | exact HB.out)) hb); clear HB; have HB := n0_; clear n0_; (try clear hb); (try clear hb2); (try clear hk); (try clear hi)) | ((with_reducible refine gate_callee (f := 16) rfl ?_); refine goesL_ (some 20) rfl rfl Try.func16 (by kernel_rfl) rfl #[.string t189] rfl (by (try simp only [List.map_toArray, List.map_cons, List.map_nil]); first | done | rfl | (simp only [List.length_drop, List.length_take]; rfl)) ?_; (with_reducible refine (mark_Name.calls t189 true _ A9.out).mono ?_); rintro e w27 ⟨rfl, hb⟩; refine ⟨_, rfl, ?_⟩; have n0_ := Aside0.mk (below_step (by repeat (first | (with_reducible first | exact HB.out | apply below_alloc | apply pw_below_drewN | apply below_drew1) | exact HB.out)) hb); clear HB; have HB := n0_; clear n0_; (try clear hb); (try clear hb2); (try clear hk); (try clear hi)) | (go_at_call 16; (with_reducible refine (mark_Name.calls t190 true _ A11.out).mono ?_); rintro e w28 ⟨rfl, hb⟩; have n0_ := Aside0.mk (below_step (by repeat (first | (with_reducible first | exact HB.out | apply below_alloc | apply pw_below_drewN | apply below_drew1) | exact HB.out)) hb); clear HB; have HB := n0_; clear n0_; (try clear hb); (try clear hb2); (try clear hk); (try clear hi)) | (go_at_call 16; (with_reducible refine (mark_Name.calls (t189 ++ t190) t195 _ A14.out).mono ?_); rintro e w29 ⟨rfl, hb⟩; have n0_ := Aside0.mk (below_step (by repeat (first | (with_reducible first | exact HB.out | apply below_alloc | apply pw_below_drewN | apply below_drew1) | exact HB.out)) hb); clear HB; have HB := n0_; clear n0_; (try clear hb); (try clear hb2); (try clear hk); (try clear hi)) | (go_at_call 18; (with_reducible refine (mark_Runes.calls (t189 ++ t190) t196 _ A16.out).mono ?_); rintro e w30 ⟨rfl, hb⟩; have n0_ := Aside0.mk (below_step (by repeat (first | (with_reducible first | exact HB.out | apply below_alloc | apply pw_below_drewN | apply below_drew1) | exact HB.out)) hb); clear HB; have HB := n0_; clear n0_; (try clear hb); (try clear hb2); (try clear hk); (try clear hi)) | (go_at_call 16; (with_reducible refine (mark_Name.calls ((t189 ++ (⟨#[32]⟩ : ByteArray)) ++ t190) true _ A20.out).mono ?_); rintro e w31 ⟨rfl, hb⟩; have n0_ := Aside0.mk (below_step (by repeat (first | (with_reducible first | exact HB.out | apply below_alloc | apply pw_below_drewN | apply below_drew1) | exact HB.out)) hb); clear HB; have HB := n0_; clear n0_; (try clear hb); (try clear hb2); (try clear hk); (try clear hi)))
                    go_ret
                    exact ⟨by first | rfl | (simp [errW_none, errW_some] <;> rfl) | (simp [*, errW_none, errW_some] <;> rfl), by repeat (first | (with_reducible first | exact HB.out | apply below_alloc | apply pw_below_drewN | apply below_drew1) | exact HB.out)⟩
                  · replace c21 := Bool.eq_false_iff.mpr c21
                    subst c21
                    have H1 : ((joineryref2_Name.f t189).bind fun t198 => (some t198)) = some r := by rw [if_neg (show ¬ (false = true) by decide)] at H; exact H
                    clear H
                    have H := H1
                    clear H1
                    replace H := Option.bind_eq_some_iff.mp H
                    obtain ⟨t198, A320, H⟩ := H
                    replace H : (some t198) = some r := H
                    have A32 := Aside0.mk A320
                    clear A320
                    obtain rfl := Option.some.inj H
                    go_enter Try.func8, Try.ntmps8
                    go_wp2_with (first | ((with_reducible refine gate_callee (f := 13) rfl ?_); refine goesL_ (some 8) rfl rfl Try.func13 (by kernel_rfl) rfl #[] rfl (by (try simp only [List.map_toArray, List.map_cons, List.map_nil]); first | done | rfl | (simp only [List.length_drop, List.length_take]; rfl)) ?_; (with_reducible refine (joinerylaw2_known.calls  true _ A3.out).mono ?_); rintro e w33 ⟨rfl, hb⟩; refine ⟨_, rfl, ?_⟩; have n0_ := Aside0.mk (below_step (by repeat (first | (with_reducible first | exact HB.out | apply below_alloc | apply pw_below_drewN | apply below_drew1) | exact HB.out)) hb); clear HB; have HB := n0_; clear n0_; (try clear hb); (try clear hb2); (try clear hk); (try clear hi)) | ((with_reducible refine gate_callee (f := 20) rfl ?_); refine goesL_ (some 11) rfl rfl Try.func20 (by kernel_rfl) rfl #[.int .i64 a0] rfl (by (try simp only [List.map_toArray, List.map_cons, List.map_nil]); first | done | rfl | (simp only [List.length_drop, List.length_take]; rfl)) ?_; (with_reducible refine (joinerylaw2_Name.calls a0 t189 _ A5.out).mono ?_); rintro e w34 ⟨rfl, hb⟩; refine ⟨_, rfl, ?_⟩; have n0_ := Aside0.mk (below_step (by repeat (first | (with_reducible first | exact HB.out | apply below_alloc | apply pw_below_drewN | apply below_drew1) | exact HB.out)) hb); clear HB; have HB := n0_; clear n0_; (try clear hb); (try clear hb2); (try clear hk); (try clear hi)) | ((with_reducible refine gate_callee (f := 20) rfl ?_); refine goesL_ (some 13) rfl rfl Try.func20 (by kernel_rfl) rfl #[.int .i64 a1] rfl (by (try simp only [List.map_toArray, List.map_cons, List.map_nil]); first | done | rfl | (simp only [List.length_drop, List.length_take]; rfl)) ?_; (with_reducible refine (joinerylaw2_Name.calls a1 t190 _ A6.out).mono ?_); rintro e w35 ⟨rfl, hb⟩; refine ⟨_, rfl, ?_⟩; have n0_ := Aside0.mk (below_step (by repeat (first | (with_reducible first | exact HB.out | apply below_alloc | apply pw_below_drewN | apply below_drew1) | exact HB.out)) hb); clear HB; have HB := n0_; clear n0_; (try clear hb); (try clear hb2); (try clear hk); (try clear hi)) | ((with_reducible refine gate_callee (f := 18) rfl ?_); refine goesL_ (some 15) rfl rfl Try.func18 (by kernel_rfl) rfl #[.string t189] rfl (by (try simp only [List.map_toArray, List.map_cons, List.map_nil]); first | done | rfl | (simp only [List.length_drop, List.length_take]; rfl)) ?_; (with_reducible refine (mark_Runes.calls t189 t191 _ A7.out).mono ?_); rintro e w36 ⟨rfl, hb⟩; refine ⟨_, rfl, ?_⟩; have n0_ := Aside0.mk (below_step (by repeat (first | (with_reducible first | exact HB.out | apply below_alloc | apply pw_below_drewN | apply below_drew1) | exact HB.out)) hb); clear HB; have HB := n0_; clear n0_; (try clear hb); (try clear hb2); (try clear hk); (try clear hi)) | ((with_reducible refine gate_callee (f := 18) rfl ?_); refine goesL_ (some 17) rfl rfl Try.func18 (by kernel_rfl) rfl #[.string t190] rfl (by (try simp only [List.map_toArray, List.map_cons, List.map_nil]); first | done | rfl | (simp only [List.length_drop, List.length_take]; rfl)) ?_; (with_reducible refine (mark_Runes.calls t190 t192 _ A8.out).mono ?_); rintro e w37 ⟨rfl, hb⟩; refine ⟨_, rfl, ?_⟩; have n0_ := Aside0.mk (below_step (by repeat (first | (with_reducible first | exact HB.out | apply below_alloc | apply pw_below_drewN | apply below_drew1) | exact HB.out)) hb); clear HB; have HB := n0_; clear n0_; (try clear hb); (try clear hb2); (try clear hk); (try clear hi)) | ((with_reducible refine gate_callee (f := 16) rfl ?_); refine goesL_ (some 20) rfl rfl Try.func16 (by kernel_rfl) rfl #[.string t189] rfl (by (try simp only [List.map_toArray, List.map_cons, List.map_nil]); first | done | rfl | (simp only [List.length_drop, List.length_take]; rfl)) ?_; (with_reducible refine (mark_Name.calls t189 true _ A9.out).mono ?_); rintro e w38 ⟨rfl, hb⟩; refine ⟨_, rfl, ?_⟩; have n0_ := Aside0.mk (below_step (by repeat (first | (with_reducible first | exact HB.out | apply below_alloc | apply pw_below_drewN | apply below_drew1) | exact HB.out)) hb); clear HB; have HB := n0_; clear n0_; (try clear hb); (try clear hb2); (try clear hk); (try clear hi)) | (go_at_call 16; (with_reducible refine (mark_Name.calls t190 true _ A11.out).mono ?_); rintro e w39 ⟨rfl, hb⟩; have n0_ := Aside0.mk (below_step (by repeat (first | (with_reducible first | exact HB.out | apply below_alloc | apply pw_below_drewN | apply below_drew1) | exact HB.out)) hb); clear HB; have HB := n0_; clear n0_; (try clear hb); (try clear hb2); (try clear hk); (try clear hi)) | (go_at_call 16; (with_reducible refine (mark_Name.calls (t189 ++ t190) t195 _ A14.out).mono ?_); rintro e w40 ⟨rfl, hb⟩; have n0_ := Aside0.mk (below_step (by repeat (first | (with_reducible first | exact HB.out | apply below_alloc | apply pw_below_drewN | apply below_drew1) | exact HB.out)) hb); clear HB; have HB := n0_; clear n0_; (try clear hb); (try clear hb2); (try clear hk); (try clear hi)) | (go_at_call 18; (with_reducible refine (mark_Runes.calls (t189 ++ t190) t196 _ A16.out).mono ?_); rintro e w41 ⟨rfl, hb⟩; have n0_ := Aside0.mk (below_step (by repeat (first | (with_reducible first | exact HB.out | apply below_alloc | apply pw_below_drewN | apply below_drew1) | exact HB.out)) hb); clear HB; have HB := n0_; clear n0_; (try clear hb); (try clear hb2); (try clear hk); (try clear hi)) | (go_at_call 16; (with_reducible refine (mark_Name.calls ((t189 ++ (⟨#[32]⟩ : ByteArray)) ++ t190) false _ A20.out).mono ?_); rintro e w42 ⟨rfl, hb⟩; have n0_ := Aside0.mk (below_step (by repeat (first | (with_reducible first | exact HB.out | apply below_alloc | apply pw_below_drewN | apply below_drew1) | exact HB.out)) hb); clear HB; have HB := n0_; clear n0_; (try clear hb); (try clear hb2); (try clear hk); (try clear hi)) | (go_at_call 17; (with_reducible refine (joineryref2_Name.calls t189 t198 _ A32.out).mono ?_); rintro e w43 ⟨rfl, hb⟩; have n0_ := Aside0.mk (below_step (by repeat (first | (with_reducible first | exact HB.out | apply below_alloc | apply pw_below_drewN | apply below_drew1) | exact HB.out)) hb); clear HB; have HB := n0_; clear n0_; (try clear hb); (try clear hb2); (try clear hk); (try clear hi)))
                    go_ret
                    exact ⟨by first | rfl | (simp [errW_none, errW_some] <;> rfl) | (simp [*, errW_none, errW_some] <;> rfl), by repeat (first | (with_reducible first | exact HB.out | apply below_alloc | apply pw_below_drewN | apply below_drew1) | exact HB.out)⟩
                · rw [if_neg c19] at H
                  exact absurd H (by simp)
              · rw [if_neg c18] at H
                exact absurd H (by simp)
            · rw [if_neg c17] at H
              have c17b0 : (t196 == (wrap64 (t191 + t192))) = false := beq_eq_false_iff_ne.mpr c17
              have c17b1 : (t196 != (wrap64 (t191 + t192))) = true := bne_iff_ne.mpr c17
              obtain rfl := Option.some.inj H
              go_enter Try.func8, Try.ntmps8
              go_wp2_with (first | ((with_reducible refine gate_callee (f := 13) rfl ?_); refine goesL_ (some 8) rfl rfl Try.func13 (by kernel_rfl) rfl #[] rfl (by (try simp only [List.map_toArray, List.map_cons, List.map_nil]); first | done | rfl | (simp only [List.length_drop, List.length_take]; rfl)) ?_; (with_reducible refine (joinerylaw2_known.calls  true _ A3.out).mono ?_); rintro e w44 ⟨rfl, hb⟩; refine ⟨_, rfl, ?_⟩; have n0_ := Aside0.mk (below_step (by repeat (first | (with_reducible first | exact HB.out | apply below_alloc | apply pw_below_drewN | apply below_drew1) | exact HB.out)) hb); clear HB; have HB := n0_; clear n0_; (try clear hb); (try clear hb2); (try clear hk); (try clear hi)) | ((with_reducible refine gate_callee (f := 20) rfl ?_); refine goesL_ (some 11) rfl rfl Try.func20 (by kernel_rfl) rfl #[.int .i64 a0] rfl (by (try simp only [List.map_toArray, List.map_cons, List.map_nil]); first | done | rfl | (simp only [List.length_drop, List.length_take]; rfl)) ?_; (with_reducible refine (joinerylaw2_Name.calls a0 t189 _ A5.out).mono ?_); rintro e w45 ⟨rfl, hb⟩; refine ⟨_, rfl, ?_⟩; have n0_ := Aside0.mk (below_step (by repeat (first | (with_reducible first | exact HB.out | apply below_alloc | apply pw_below_drewN | apply below_drew1) | exact HB.out)) hb); clear HB; have HB := n0_; clear n0_; (try clear hb); (try clear hb2); (try clear hk); (try clear hi)) | ((with_reducible refine gate_callee (f := 20) rfl ?_); refine goesL_ (some 13) rfl rfl Try.func20 (by kernel_rfl) rfl #[.int .i64 a1] rfl (by (try simp only [List.map_toArray, List.map_cons, List.map_nil]); first | done | rfl | (simp only [List.length_drop, List.length_take]; rfl)) ?_; (with_reducible refine (joinerylaw2_Name.calls a1 t190 _ A6.out).mono ?_); rintro e w46 ⟨rfl, hb⟩; refine ⟨_, rfl, ?_⟩; have n0_ := Aside0.mk (below_step (by repeat (first | (with_reducible first | exact HB.out | apply below_alloc | apply pw_below_drewN | apply below_drew1) | exact HB.out)) hb); clear HB; have HB := n0_; clear n0_; (try clear hb); (try clear hb2); (try clear hk); (try clear hi)) | ((with_reducible refine gate_callee (f := 18) rfl ?_); refine goesL_ (some 15) rfl rfl Try.func18 (by kernel_rfl) rfl #[.string t189] rfl (by (try simp only [List.map_toArray, List.map_cons, List.map_nil]); first | done | rfl | (simp only [List.length_drop, List.length_take]; rfl)) ?_; (with_reducible refine (mark_Runes.calls t189 t191 _ A7.out).mono ?_); rintro e w47 ⟨rfl, hb⟩; refine ⟨_, rfl, ?_⟩; have n0_ := Aside0.mk (below_step (by repeat (first | (with_reducible first | exact HB.out | apply below_alloc | apply pw_below_drewN | apply below_drew1) | exact HB.out)) hb); clear HB; have HB := n0_; clear n0_; (try clear hb); (try clear hb2); (try clear hk); (try clear hi)) | ((with_reducible refine gate_callee (f := 18) rfl ?_); refine goesL_ (some 17) rfl rfl Try.func18 (by kernel_rfl) rfl #[.string t190] rfl (by (try simp only [List.map_toArray, List.map_cons, List.map_nil]); first | done | rfl | (simp only [List.length_drop, List.length_take]; rfl)) ?_; (with_reducible refine (mark_Runes.calls t190 t192 _ A8.out).mono ?_); rintro e w48 ⟨rfl, hb⟩; refine ⟨_, rfl, ?_⟩; have n0_ := Aside0.mk (below_step (by repeat (first | (with_reducible first | exact HB.out | apply below_alloc | apply pw_below_drewN | apply below_drew1) | exact HB.out)) hb); clear HB; have HB := n0_; clear n0_; (try clear hb); (try clear hb2); (try clear hk); (try clear hi)) | ((with_reducible refine gate_callee (f := 16) rfl ?_); refine goesL_ (some 20) rfl rfl Try.func16 (by kernel_rfl) rfl #[.string t189] rfl (by (try simp only [List.map_toArray, List.map_cons, List.map_nil]); first | done | rfl | (simp only [List.length_drop, List.length_take]; rfl)) ?_; (with_reducible refine (mark_Name.calls t189 true _ A9.out).mono ?_); rintro e w49 ⟨rfl, hb⟩; refine ⟨_, rfl, ?_⟩; have n0_ := Aside0.mk (below_step (by repeat (first | (with_reducible first | exact HB.out | apply below_alloc | apply pw_below_drewN | apply below_drew1) | exact HB.out)) hb); clear HB; have HB := n0_; clear n0_; (try clear hb); (try clear hb2); (try clear hk); (try clear hi)) | (go_at_call 16; (with_reducible refine (mark_Name.calls t190 true _ A11.out).mono ?_); rintro e w50 ⟨rfl, hb⟩; have n0_ := Aside0.mk (below_step (by repeat (first | (with_reducible first | exact HB.out | apply below_alloc | apply pw_below_drewN | apply below_drew1) | exact HB.out)) hb); clear HB; have HB := n0_; clear n0_; (try clear hb); (try clear hb2); (try clear hk); (try clear hi)) | (go_at_call 16; (with_reducible refine (mark_Name.calls (t189 ++ t190) t195 _ A14.out).mono ?_); rintro e w51 ⟨rfl, hb⟩; have n0_ := Aside0.mk (below_step (by repeat (first | (with_reducible first | exact HB.out | apply below_alloc | apply pw_below_drewN | apply below_drew1) | exact HB.out)) hb); clear HB; have HB := n0_; clear n0_; (try clear hb); (try clear hb2); (try clear hk); (try clear hi)) | (go_at_call 18; (with_reducible refine (mark_Runes.calls (t189 ++ t190) t196 _ A16.out).mono ?_); rintro e w52 ⟨rfl, hb⟩; have n0_ := Aside0.mk (below_step (by repeat (first | (with_reducible first | exact HB.out | apply below_alloc | apply pw_below_drewN | apply below_drew1) | exact HB.out)) hb); clear HB; have HB := n0_; clear n0_; (try clear hb); (try clear hb2); (try clear hk); (try clear hi)))
              go_ret
              exact ⟨by first | rfl | (simp [errW_none, errW_some] <;> rfl) | (simp [*, errW_none, errW_some] <;> rfl), by repeat (first | (with_reducible first | exact HB.out | apply below_alloc | apply pw_below_drewN | apply below_drew1) | exact HB.out)⟩
          · rw [if_neg c15] at H
            have c15b0 : (t195 == (decide ((wrap64 (t191 + t192)) ≤ 8))) = false := by simpa using c15
            (try (have c15b1 : decide (t195 = (decide ((wrap64 (t191 + t192)) ≤ 8))) = false := by simpa using c15))
            (try (have c15b2 : (t195 == (decide ((wrap64 (t191 + t192)) ≤ 8))) = false := by simpa using c15))
            (try (have c15b3 : ¬ (t195 = (decide ((wrap64 (t191 + t192)) ≤ 8))) := by simpa using c15))
            clear c15
            obtain rfl := Option.some.inj H
            go_enter Try.func8, Try.ntmps8
            go_wp2_with (first | ((with_reducible refine gate_callee (f := 13) rfl ?_); refine goesL_ (some 8) rfl rfl Try.func13 (by kernel_rfl) rfl #[] rfl (by (try simp only [List.map_toArray, List.map_cons, List.map_nil]); first | done | rfl | (simp only [List.length_drop, List.length_take]; rfl)) ?_; (with_reducible refine (joinerylaw2_known.calls  true _ A3.out).mono ?_); rintro e w53 ⟨rfl, hb⟩; refine ⟨_, rfl, ?_⟩; have n0_ := Aside0.mk (below_step (by repeat (first | (with_reducible first | exact HB.out | apply below_alloc | apply pw_below_drewN | apply below_drew1) | exact HB.out)) hb); clear HB; have HB := n0_; clear n0_; (try clear hb); (try clear hb2); (try clear hk); (try clear hi)) | ((with_reducible refine gate_callee (f := 20) rfl ?_); refine goesL_ (some 11) rfl rfl Try.func20 (by kernel_rfl) rfl #[.int .i64 a0] rfl (by (try simp only [List.map_toArray, List.map_cons, List.map_nil]); first | done | rfl | (simp only [List.length_drop, List.length_take]; rfl)) ?_; (with_reducible refine (joinerylaw2_Name.calls a0 t189 _ A5.out).mono ?_); rintro e w54 ⟨rfl, hb⟩; refine ⟨_, rfl, ?_⟩; have n0_ := Aside0.mk (below_step (by repeat (first | (with_reducible first | exact HB.out | apply below_alloc | apply pw_below_drewN | apply below_drew1) | exact HB.out)) hb); clear HB; have HB := n0_; clear n0_; (try clear hb); (try clear hb2); (try clear hk); (try clear hi)) | ((with_reducible refine gate_callee (f := 20) rfl ?_); refine goesL_ (some 13) rfl rfl Try.func20 (by kernel_rfl) rfl #[.int .i64 a1] rfl (by (try simp only [List.map_toArray, List.map_cons, List.map_nil]); first | done | rfl | (simp only [List.length_drop, List.length_take]; rfl)) ?_; (with_reducible refine (joinerylaw2_Name.calls a1 t190 _ A6.out).mono ?_); rintro e w55 ⟨rfl, hb⟩; refine ⟨_, rfl, ?_⟩; have n0_ := Aside0.mk (below_step (by repeat (first | (with_reducible first | exact HB.out | apply below_alloc | apply pw_below_drewN | apply below_drew1) | exact HB.out)) hb); clear HB; have HB := n0_; clear n0_; (try clear hb); (try clear hb2); (try clear hk); (try clear hi)) | ((with_reducible refine gate_callee (f := 18) rfl ?_); refine goesL_ (some 15) rfl rfl Try.func18 (by kernel_rfl) rfl #[.string t189] rfl (by (try simp only [List.map_toArray, List.map_cons, List.map_nil]); first | done | rfl | (simp only [List.length_drop, List.length_take]; rfl)) ?_; (with_reducible refine (mark_Runes.calls t189 t191 _ A7.out).mono ?_); rintro e w56 ⟨rfl, hb⟩; refine ⟨_, rfl, ?_⟩; have n0_ := Aside0.mk (below_step (by repeat (first | (with_reducible first | exact HB.out | apply below_alloc | apply pw_below_drewN | apply below_drew1) | exact HB.out)) hb); clear HB; have HB := n0_; clear n0_; (try clear hb); (try clear hb2); (try clear hk); (try clear hi)) | ((with_reducible refine gate_callee (f := 18) rfl ?_); refine goesL_ (some 17) rfl rfl Try.func18 (by kernel_rfl) rfl #[.string t190] rfl (by (try simp only [List.map_toArray, List.map_cons, List.map_nil]); first | done | rfl | (simp only [List.length_drop, List.length_take]; rfl)) ?_; (with_reducible refine (mark_Runes.calls t190 t192 _ A8.out).mono ?_); rintro e w57 ⟨rfl, hb⟩; refine ⟨_, rfl, ?_⟩; have n0_ := Aside0.mk (below_step (by repeat (first | (with_reducible first | exact HB.out | apply below_alloc | apply pw_below_drewN | apply below_drew1) | exact HB.out)) hb); clear HB; have HB := n0_; clear n0_; (try clear hb); (try clear hb2); (try clear hk); (try clear hi)) | ((with_reducible refine gate_callee (f := 16) rfl ?_); refine goesL_ (some 20) rfl rfl Try.func16 (by kernel_rfl) rfl #[.string t189] rfl (by (try simp only [List.map_toArray, List.map_cons, List.map_nil]); first | done | rfl | (simp only [List.length_drop, List.length_take]; rfl)) ?_; (with_reducible refine (mark_Name.calls t189 true _ A9.out).mono ?_); rintro e w58 ⟨rfl, hb⟩; refine ⟨_, rfl, ?_⟩; have n0_ := Aside0.mk (below_step (by repeat (first | (with_reducible first | exact HB.out | apply below_alloc | apply pw_below_drewN | apply below_drew1) | exact HB.out)) hb); clear HB; have HB := n0_; clear n0_; (try clear hb); (try clear hb2); (try clear hk); (try clear hi)) | (go_at_call 16; (with_reducible refine (mark_Name.calls t190 true _ A11.out).mono ?_); rintro e w59 ⟨rfl, hb⟩; have n0_ := Aside0.mk (below_step (by repeat (first | (with_reducible first | exact HB.out | apply below_alloc | apply pw_below_drewN | apply below_drew1) | exact HB.out)) hb); clear HB; have HB := n0_; clear n0_; (try clear hb); (try clear hb2); (try clear hk); (try clear hi)) | (go_at_call 16; (with_reducible refine (mark_Name.calls (t189 ++ t190) t195 _ A14.out).mono ?_); rintro e w60 ⟨rfl, hb⟩; have n0_ := Aside0.mk (below_step (by repeat (first | (with_reducible first | exact HB.out | apply below_alloc | apply pw_below_drewN | apply below_drew1) | exact HB.out)) hb); clear HB; have HB := n0_; clear n0_; (try clear hb); (try clear hb2); (try clear hk); (try clear hi)))
            go_ret
            exact ⟨by first | rfl | (simp [errW_none, errW_some] <;> rfl) | (simp [*, errW_none, errW_some] <;> rfl), by repeat (first | (with_reducible first | exact HB.out | apply below_alloc | apply pw_below_drewN | apply below_drew1) | exact HB.out)⟩
        · rw [if_neg c13] at H
          exact absurd H (by simp)
      · replace c12 := Bool.eq_false_iff.mpr c12
        subst c12
        have H1 : (some false) = some r := by rw [if_neg (show ¬ (false = true) by decide)] at H; exact H
        clear H
        have H := H1
        clear H1
        obtain rfl := Option.some.inj H
        go_enter Try.func8, Try.ntmps8
        go_wp2_with (first | ((with_reducible refine gate_callee (f := 13) rfl ?_); refine goesL_ (some 8) rfl rfl Try.func13 (by kernel_rfl) rfl #[] rfl (by (try simp only [List.map_toArray, List.map_cons, List.map_nil]); first | done | rfl | (simp only [List.length_drop, List.length_take]; rfl)) ?_; (with_reducible refine (joinerylaw2_known.calls  true _ A3.out).mono ?_); rintro e w61 ⟨rfl, hb⟩; refine ⟨_, rfl, ?_⟩; have n0_ := Aside0.mk (below_step (by repeat (first | (with_reducible first | exact HB.out | apply below_alloc | apply pw_below_drewN | apply below_drew1) | exact HB.out)) hb); clear HB; have HB := n0_; clear n0_; (try clear hb); (try clear hb2); (try clear hk); (try clear hi)) | ((with_reducible refine gate_callee (f := 20) rfl ?_); refine goesL_ (some 11) rfl rfl Try.func20 (by kernel_rfl) rfl #[.int .i64 a0] rfl (by (try simp only [List.map_toArray, List.map_cons, List.map_nil]); first | done | rfl | (simp only [List.length_drop, List.length_take]; rfl)) ?_; (with_reducible refine (joinerylaw2_Name.calls a0 t189 _ A5.out).mono ?_); rintro e w62 ⟨rfl, hb⟩; refine ⟨_, rfl, ?_⟩; have n0_ := Aside0.mk (below_step (by repeat (first | (with_reducible first | exact HB.out | apply below_alloc | apply pw_below_drewN | apply below_drew1) | exact HB.out)) hb); clear HB; have HB := n0_; clear n0_; (try clear hb); (try clear hb2); (try clear hk); (try clear hi)) | ((with_reducible refine gate_callee (f := 20) rfl ?_); refine goesL_ (some 13) rfl rfl Try.func20 (by kernel_rfl) rfl #[.int .i64 a1] rfl (by (try simp only [List.map_toArray, List.map_cons, List.map_nil]); first | done | rfl | (simp only [List.length_drop, List.length_take]; rfl)) ?_; (with_reducible refine (joinerylaw2_Name.calls a1 t190 _ A6.out).mono ?_); rintro e w63 ⟨rfl, hb⟩; refine ⟨_, rfl, ?_⟩; have n0_ := Aside0.mk (below_step (by repeat (first | (with_reducible first | exact HB.out | apply below_alloc | apply pw_below_drewN | apply below_drew1) | exact HB.out)) hb); clear HB; have HB := n0_; clear n0_; (try clear hb); (try clear hb2); (try clear hk); (try clear hi)) | ((with_reducible refine gate_callee (f := 18) rfl ?_); refine goesL_ (some 15) rfl rfl Try.func18 (by kernel_rfl) rfl #[.string t189] rfl (by (try simp only [List.map_toArray, List.map_cons, List.map_nil]); first | done | rfl | (simp only [List.length_drop, List.length_take]; rfl)) ?_; (with_reducible refine (mark_Runes.calls t189 t191 _ A7.out).mono ?_); rintro e w64 ⟨rfl, hb⟩; refine ⟨_, rfl, ?_⟩; have n0_ := Aside0.mk (below_step (by repeat (first | (with_reducible first | exact HB.out | apply below_alloc | apply pw_below_drewN | apply below_drew1) | exact HB.out)) hb); clear HB; have HB := n0_; clear n0_; (try clear hb); (try clear hb2); (try clear hk); (try clear hi)) | ((with_reducible refine gate_callee (f := 18) rfl ?_); refine goesL_ (some 17) rfl rfl Try.func18 (by kernel_rfl) rfl #[.string t190] rfl (by (try simp only [List.map_toArray, List.map_cons, List.map_nil]); first | done | rfl | (simp only [List.length_drop, List.length_take]; rfl)) ?_; (with_reducible refine (mark_Runes.calls t190 t192 _ A8.out).mono ?_); rintro e w65 ⟨rfl, hb⟩; refine ⟨_, rfl, ?_⟩; have n0_ := Aside0.mk (below_step (by repeat (first | (with_reducible first | exact HB.out | apply below_alloc | apply pw_below_drewN | apply below_drew1) | exact HB.out)) hb); clear HB; have HB := n0_; clear n0_; (try clear hb); (try clear hb2); (try clear hk); (try clear hi)) | ((with_reducible refine gate_callee (f := 16) rfl ?_); refine goesL_ (some 20) rfl rfl Try.func16 (by kernel_rfl) rfl #[.string t189] rfl (by (try simp only [List.map_toArray, List.map_cons, List.map_nil]); first | done | rfl | (simp only [List.length_drop, List.length_take]; rfl)) ?_; (with_reducible refine (mark_Name.calls t189 true _ A9.out).mono ?_); rintro e w66 ⟨rfl, hb⟩; refine ⟨_, rfl, ?_⟩; have n0_ := Aside0.mk (below_step (by repeat (first | (with_reducible first | exact HB.out | apply below_alloc | apply pw_below_drewN | apply below_drew1) | exact HB.out)) hb); clear HB; have HB := n0_; clear n0_; (try clear hb); (try clear hb2); (try clear hk); (try clear hi)) | (go_at_call 16; (with_reducible refine (mark_Name.calls t190 false _ A11.out).mono ?_); rintro e w67 ⟨rfl, hb⟩; have n0_ := Aside0.mk (below_step (by repeat (first | (with_reducible first | exact HB.out | apply below_alloc | apply pw_below_drewN | apply below_drew1) | exact HB.out)) hb); clear HB; have HB := n0_; clear n0_; (try clear hb); (try clear hb2); (try clear hk); (try clear hi)))
        go_ret
        exact ⟨by first | rfl | (simp [errW_none, errW_some] <;> rfl) | (simp [*, errW_none, errW_some] <;> rfl), by repeat (first | (with_reducible first | exact HB.out | apply below_alloc | apply pw_below_drewN | apply below_drew1) | exact HB.out)⟩
    · replace c10 := Bool.eq_false_iff.mpr c10
      subst c10
      have H1 : (some false) = some r := by rw [if_neg (show ¬ (false = true) by decide)] at H; exact H
      clear H
      have H := H1
      clear H1
      obtain rfl := Option.some.inj H
      go_enter Try.func8, Try.ntmps8
      go_wp2_with (first | ((with_reducible refine gate_callee (f := 13) rfl ?_); refine goesL_ (some 8) rfl rfl Try.func13 (by kernel_rfl) rfl #[] rfl (by (try simp only [List.map_toArray, List.map_cons, List.map_nil]); first | done | rfl | (simp only [List.length_drop, List.length_take]; rfl)) ?_; (with_reducible refine (joinerylaw2_known.calls  true _ A3.out).mono ?_); rintro e w68 ⟨rfl, hb⟩; refine ⟨_, rfl, ?_⟩; have n0_ := Aside0.mk (below_step (by repeat (first | (with_reducible first | exact HB.out | apply below_alloc | apply pw_below_drewN | apply below_drew1) | exact HB.out)) hb); clear HB; have HB := n0_; clear n0_; (try clear hb); (try clear hb2); (try clear hk); (try clear hi)) | ((with_reducible refine gate_callee (f := 20) rfl ?_); refine goesL_ (some 11) rfl rfl Try.func20 (by kernel_rfl) rfl #[.int .i64 a0] rfl (by (try simp only [List.map_toArray, List.map_cons, List.map_nil]); first | done | rfl | (simp only [List.length_drop, List.length_take]; rfl)) ?_; (with_reducible refine (joinerylaw2_Name.calls a0 t189 _ A5.out).mono ?_); rintro e w69 ⟨rfl, hb⟩; refine ⟨_, rfl, ?_⟩; have n0_ := Aside0.mk (below_step (by repeat (first | (with_reducible first | exact HB.out | apply below_alloc | apply pw_below_drewN | apply below_drew1) | exact HB.out)) hb); clear HB; have HB := n0_; clear n0_; (try clear hb); (try clear hb2); (try clear hk); (try clear hi)) | ((with_reducible refine gate_callee (f := 20) rfl ?_); refine goesL_ (some 13) rfl rfl Try.func20 (by kernel_rfl) rfl #[.int .i64 a1] rfl (by (try simp only [List.map_toArray, List.map_cons, List.map_nil]); first | done | rfl | (simp only [List.length_drop, List.length_take]; rfl)) ?_; (with_reducible refine (joinerylaw2_Name.calls a1 t190 _ A6.out).mono ?_); rintro e w70 ⟨rfl, hb⟩; refine ⟨_, rfl, ?_⟩; have n0_ := Aside0.mk (below_step (by repeat (first | (with_reducible first | exact HB.out | apply below_alloc | apply pw_below_drewN | apply below_drew1) | exact HB.out)) hb); clear HB; have HB := n0_; clear n0_; (try clear hb); (try clear hb2); (try clear hk); (try clear hi)) | ((with_reducible refine gate_callee (f := 18) rfl ?_); refine goesL_ (some 15) rfl rfl Try.func18 (by kernel_rfl) rfl #[.string t189] rfl (by (try simp only [List.map_toArray, List.map_cons, List.map_nil]); first | done | rfl | (simp only [List.length_drop, List.length_take]; rfl)) ?_; (with_reducible refine (mark_Runes.calls t189 t191 _ A7.out).mono ?_); rintro e w71 ⟨rfl, hb⟩; refine ⟨_, rfl, ?_⟩; have n0_ := Aside0.mk (below_step (by repeat (first | (with_reducible first | exact HB.out | apply below_alloc | apply pw_below_drewN | apply below_drew1) | exact HB.out)) hb); clear HB; have HB := n0_; clear n0_; (try clear hb); (try clear hb2); (try clear hk); (try clear hi)) | ((with_reducible refine gate_callee (f := 18) rfl ?_); refine goesL_ (some 17) rfl rfl Try.func18 (by kernel_rfl) rfl #[.string t190] rfl (by (try simp only [List.map_toArray, List.map_cons, List.map_nil]); first | done | rfl | (simp only [List.length_drop, List.length_take]; rfl)) ?_; (with_reducible refine (mark_Runes.calls t190 t192 _ A8.out).mono ?_); rintro e w72 ⟨rfl, hb⟩; refine ⟨_, rfl, ?_⟩; have n0_ := Aside0.mk (below_step (by repeat (first | (with_reducible first | exact HB.out | apply below_alloc | apply pw_below_drewN | apply below_drew1) | exact HB.out)) hb); clear HB; have HB := n0_; clear n0_; (try clear hb); (try clear hb2); (try clear hk); (try clear hi)) | ((with_reducible refine gate_callee (f := 16) rfl ?_); refine goesL_ (some 20) rfl rfl Try.func16 (by kernel_rfl) rfl #[.string t189] rfl (by (try simp only [List.map_toArray, List.map_cons, List.map_nil]); first | done | rfl | (simp only [List.length_drop, List.length_take]; rfl)) ?_; (with_reducible refine (mark_Name.calls t189 false _ A9.out).mono ?_); rintro e w73 ⟨rfl, hb⟩; refine ⟨_, rfl, ?_⟩; have n0_ := Aside0.mk (below_step (by repeat (first | (with_reducible first | exact HB.out | apply below_alloc | apply pw_below_drewN | apply below_drew1) | exact HB.out)) hb); clear HB; have HB := n0_; clear n0_; (try clear hb); (try clear hb2); (try clear hk); (try clear hi)))
      go_ret
      exact ⟨by first | rfl | (simp [errW_none, errW_some] <;> rfl) | (simp [*, errW_none, errW_some] <;> rfl), by repeat (first | (with_reducible first | exact HB.out | apply below_alloc | apply pw_below_drewN | apply below_drew1) | exact HB.out)⟩
  · replace c4 := Bool.eq_false_iff.mpr c4
    subst c4
    have H1 : (some false) = some r := by rw [if_neg (show ¬ (false = true) by decide)] at H; exact H
    clear H
    have H := H1
    clear H1
    obtain rfl := Option.some.inj H
    go_enter Try.func8, Try.ntmps8
    go_wp2_with (first | ((with_reducible refine gate_callee (f := 13) rfl ?_); refine goesL_ (some 8) rfl rfl Try.func13 (by kernel_rfl) rfl #[] rfl (by (try simp only [List.map_toArray, List.map_cons, List.map_nil]); first | done | rfl | (simp only [List.length_drop, List.length_take]; rfl)) ?_; (with_reducible refine (joinerylaw2_known.calls  false _ A3.out).mono ?_); rintro e w74 ⟨rfl, hb⟩; refine ⟨_, rfl, ?_⟩; have n0_ := Aside0.mk (below_step (by repeat (first | (with_reducible first | exact HB.out | apply below_alloc | apply pw_below_drewN | apply below_drew1) | exact HB.out)) hb); clear HB; have HB := n0_; clear n0_; (try clear hb); (try clear hb2); (try clear hk); (try clear hi)))
    go_ret
    exact ⟨by first | rfl | (simp [errW_none, errW_some] <;> rfl) | (simp [*, errW_none, errW_some] <;> rfl), by repeat (first | (with_reducible first | exact HB.out | apply below_alloc | apply pw_below_drewN | apply below_drew1) | exact HB.out)⟩

/-- THE ONE PURE STATEMENT of joinerylaw2_MarkJoin: yours. -/
def joinerylaw2_MarkJoin.Pure : Prop := ∀ (a0 : Int) (a1 : Int), (Lit.int .i64 a0).wf = true → (Lit.int .i64 a1).wf = true → joinerylaw2_MarkJoin.f a0 a1 = some true
theorem joinerylaw2_MarkJoin.walk (P : joinerylaw2_MarkJoin.Pure) (a0 : Int) (a1 : Int) (w : World) (w0 : (Lit.int .i64 a0).wf = true) (w1 : (Lit.int .i64 a1).wf = true) :
    Calls Try.prog 8 #[.int .i64 a0, .int .i64 a1] w fun e w' => e = .returned (.bool true) ∧ Below w.heap.size w w' := by
  have h := P a0 a1 w0 w1
  refine (joinerylaw2_MarkJoin.calls a0 a1 true w h).mono ?_
  rintro e w' ⟨rfl, hd⟩
  exact ⟨rfl, hd⟩

end Go.Proofs.Ytocndmgimcmfaaa.P
