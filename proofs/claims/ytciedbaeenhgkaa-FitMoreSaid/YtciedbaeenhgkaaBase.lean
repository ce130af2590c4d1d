/- What the machine's calls of vec.parts, vec.whole, vec.lesser, vec.Fits, vec.Add and vec.Sub come to, at any whole numbers. -/
import Derived.Test.YtciedbaeenhgkaaProg
import Derived.Test.YtciedbaeenhgkaaArr
import Derived.Test.YtciedbaeenhgkaaWWords
import Derived.WalkKit
import Derived.KernelRfl
import Derived.RowKit3
import Derived.Deep.LoopGhost
import Derived.Deep.QuietTactic
import Derived.BigQuiet
import Derived.Lib.QuietBelow
import Derived.Deep.DeepCutAuto
import Derived.Deep.RegionHeld3
import Derived.Laws.StructEq
set_option linter.unusedVariables false
set_option linter.unusedSimpArgs false
namespace Go.Proofs.Ytciedbaeenhgkaa.Base
open Go.RowKit Go.Proofs.YtciedbaeenhgkaaW.PrintWords

/-- A fact that the walk's simp does not look into. -/
structure Side (p : Prop) : Prop where mk :: (out : p)

def V2 (a b : Int) : Value := .agg #[.int .i64 a, .int .i64 b]

set_option maxHeartbeats 1000000 in
theorem parts_any (a b : Int) (w : World) : Calls Try.prog 40 #[.agg #[.int .i64 a, .int .i64 b]] w fun e w' => e = .returned (.agg #[.int .i64 a, .int .i64 b]) ∧ Below w.heap.size w w' := by
  go_enter Try.func40, Try.ntmps40
  go_wp2
  refine bodyPost_ret (v := .agg #[.int .i64 a, .int .i64 b]) (by simp [results, Try.results40, go_sem]) rfl ⟨rfl, ?_⟩
  exact ((Below.refl _ _).alloc (Nat.le_refl _) _).alloc (by simp) _
set_option maxHeartbeats 1000000 in
theorem whole_any (a b : Int) (w : World) : Calls Try.prog 43 #[.agg #[.int .i64 a, .int .i64 b]] w fun e w' => e = .returned (.agg #[.int .i64 a, .int .i64 b]) ∧ Below w.heap.size w w' := by
  go_enter Try.func43, Try.ntmps43
  go_wp2
  refine bodyPost_ret (v := .agg #[.int .i64 a, .int .i64 b]) (by simp [results, Try.results43, go_sem]) rfl ⟨rfl, ?_⟩
  exact ((Below.refl _ _).alloc (Nat.le_refl _) _).alloc (by simp) _

set_option maxHeartbeats 1000000 in
theorem lesser_first (a b c d : Int) (h : c < a) (w : World) : Calls Try.prog 41 #[.agg #[.int .i64 a, .int .i64 b], .agg #[.int .i64 c, .int .i64 d]] w fun e w' => e = .returned (.agg #[.int .i64 c, .int .i64 d]) ∧ Below w.heap.size w w' := by
  go_enter Try.func41, Try.ntmps41
  go_wp2
  refine wp_loop_rounds 2 ?_
  rw [rounds_succ]
  go_wp2
  go_quiet (fail)
  go_wp2
  exact bodyPost_ret (v := .agg #[.int .i64 c, .int .i64 d]) (by simp [results, Try.results41, go_sem]) rfl ⟨rfl, (by repeat (first | exact Below.refl _ _ | apply below_alloc | apply pw_below_drewN | apply below_drew | (refine Below.setCell ?_ (by first | (simp; done) | (simp; omega)) _)))⟩

set_option maxHeartbeats 1000000 in
theorem lesser_second (a b c d : Int) (h : ¬ c < a) (h2 : d < b) (w : World) : Calls Try.prog 41 #[.agg #[.int .i64 a, .int .i64 b], .agg #[.int .i64 c, .int .i64 d]] w fun e w' => e = .returned (.agg #[.int .i64 c, .int .i64 d]) ∧ Below w.heap.size w w' := by
  have hd : decide (c < a) = false := decide_eq_false h
  go_enter Try.func41, Try.ntmps41
  go_wp2
  refine wp_loop_rounds 2 ?_
  rw [rounds_succ]
  go_wp2
  go_quiet (fail)
  go_wp2
  rw [rounds_succ]
  go_wp2
  go_quiet (fail)
  go_wp2
  exact bodyPost_ret (v := .agg #[.int .i64 c, .int .i64 d]) (by simp [results, Try.results41, go_sem]) rfl ⟨rfl, (by repeat (first | exact Below.refl _ _ | apply below_alloc | apply pw_below_drewN | apply below_drew | (refine Below.setCell ?_ (by first | (simp; done) | (simp; omega)) _)))⟩

set_option maxHeartbeats 1000000 in
theorem lesser_none (a b c d : Int) (h : ¬ c < a) (h2 : ¬ d < b) (w : World) : Calls Try.prog 41 #[.agg #[.int .i64 a, .int .i64 b], .agg #[.int .i64 c, .int .i64 d]] w fun e w' => e = .returned (.agg #[.int .i64 a, .int .i64 b]) ∧ Below w.heap.size w w' := by
  have hd : decide (c < a) = false := decide_eq_false h
  have hd2 : decide (d < b) = false := decide_eq_false h2
  go_enter Try.func41, Try.ntmps41
  go_wp2
  refine wp_loop_rounds 3 ?_
  rw [rounds_succ]
  go_wp2
  go_quiet (fail)
  go_wp2
  rw [rounds_succ]
  go_wp2
  go_quiet (fail)
  go_wp2
  rw [rounds_succ]
  go_wp2
  exact bodyPost_ret (v := .agg #[.int .i64 a, .int .i64 b]) (by simp [results, Try.results41, go_sem]) rfl ⟨rfl, (by repeat (first | exact Below.refl _ _ | apply below_alloc | apply pw_below_drewN | apply below_drew | (refine Below.setCell ?_ (by first | (simp; done) | (simp; omega)) _)))⟩

def lesV (a b c d : Int) : Value := if c < a ∨ d < b then .agg #[.int .i64 c, .int .i64 d] else .agg #[.int .i64 a, .int .i64 b]
theorem lesser_any (a b c d : Int) (w : World) : Calls Try.prog 41 #[.agg #[.int .i64 a, .int .i64 b], .agg #[.int .i64 c, .int .i64 d]] w fun e w' => e = .returned (lesV a b c d) ∧ Below w.heap.size w w' := by
  unfold lesV
  by_cases h : c < a
  · rw [if_pos (.inl h)]; exact lesser_first a b c d h w
  · by_cases h2 : d < b
    · rw [if_pos (.inr h2)]; exact lesser_second a b c d h h2 w
    · rw [if_neg (by omega)]; exact lesser_none a b c d h h2 w

def vec_Fits.f (a b c d : Int) : Option Bool := some (decide (a ≤ c) && decide (b ≤ d))

theorem parts_in (a b : Int) (w : World) (d : Nat) (os : Array Obj) : Calls Try.prog 40 #[.agg #[.int .i64 a, .int .i64 b]] (Go.Sort.grow (redrawn w d) os) fun e w'' => e = .returned (.agg #[.int .i64 a, .int .i64 b]) ∧ ∃ p : Regrown, w'' = Go.Sort.grow (redrawn w p.d) p.os := Calls.regrown_of (parts_any a b _)
theorem lesser_in (a b c d : Int) (w : World) (dd : Nat) (os : Array Obj) : Calls Try.prog 41 #[.agg #[.int .i64 a, .int .i64 b], .agg #[.int .i64 c, .int .i64 d]] (Go.Sort.grow (redrawn w dd) os) fun e w'' => e = .returned (lesV a b c d) ∧ ∃ p : Regrown, w'' = Go.Sort.grow (redrawn w p.d) p.os := Calls.regrown_of (lesser_any a b c d _)

set_option maxHeartbeats 2000000 in
set_option maxRecDepth 100000 in
theorem Fits_no (a b c d : Int) (h : c < a ∨ d < b) (w : World) : Calls Try.prog 34 #[.agg #[.int .i64 a, .int .i64 b], .agg #[.int .i64 c, .int .i64 d]] w fun e w' => e = .returned (.bool false) ∧ Below w.heap.size w w' := by
  have hl : lesV a b c d = .agg #[.int .i64 c, .int .i64 d] := by unfold lesV; rw [if_pos h]
  have hq : (a == c && b == d) = false := by
    rw [Bool.and_eq_false_iff]
    rcases h with h | h
    · left; rw [beq_eq_false_iff_ne]; omega
    · right; rw [beq_eq_false_iff_ne]; omega
  have HQ := Side.mk hq
  clear hq
  have hls : ∀ (w : World) (dd : Nat) (os : Array Obj), Calls Try.prog 41 #[.agg #[.int .i64 a, .int .i64 b], .agg #[.int .i64 c, .int .i64 d]] (Go.Sort.grow (redrawn w dd) os) fun e w'' => e = .returned (.agg #[.int .i64 c, .int .i64 d]) ∧ ∃ p : Regrown, w'' = Go.Sort.grow (redrawn w p.d) p.os := fun w dd os => by have := lesser_in a b c d w dd os; rwa [hl] at this
  have HL := Side.mk hls
  clear hls hl
  go_enter Try.func34, Try.ntmps34
  go_wp2_with (go_at_call 40; refine (parts_any _ _ _).mono ?_; rintro e w' ⟨rfl, hb⟩)
  have hs : w.heap.size + 1 < w'.heap.size := by have := hb.size; simp at this; omega
  obtain ⟨W, hW⟩ : ∃ W, w'.alloc (Obj.cells #[.int .i64 c, .int .i64 d] 69) = W := ⟨_, rfl⟩
  have c0 : W.cell? ⟨w.heap.size, 0, none⟩ = some (.int .i64 a) := by
    rw [← hW, World.cell?_alloc_past _ _ _ (by show w.heap.size < _; omega), hb.cell (by simp; omega), World.cell?_alloc_past _ _ _ (by simp), World.cell?_alloc_at _ _ _ _ rfl]; rfl
  have c1 : W.cell? ⟨w.heap.size, 1, none⟩ = some (.int .i64 b) := by
    rw [← hW, World.cell?_alloc_past _ _ _ (by show w.heap.size < _; omega), hb.cell (by simp; omega), World.cell?_alloc_past _ _ _ (by simp), World.cell?_alloc_at _ _ _ _ rfl]; rfl
  have c2 : W.cell? ⟨w'.heap.size, 0, none⟩ = some (.int .i64 c) := by rw [← hW, World.cell?_alloc_at _ _ _ _ rfl]; rfl
  have c3 : W.cell? ⟨w'.heap.size, 1, none⟩ = some (.int .i64 d) := by rw [← hW, World.cell?_alloc_at _ _ _ _ rfl]; rfl
  have hB : Below w.heap.size w W := by
    rw [← hW]
    exact below_alloc ((((Below.refl _ w).alloc (Nat.le_refl _) _).alloc (by simp) _).trans (hb.mono (by simp; omega))) _
  obtain ⟨g, hg⟩ : ∃ g, w'.heap.size = g := ⟨_, rfl⟩
  rw [hW]
  rw [hg] at c2 c3 ⊢
  clear hW hb hs hg
  have k0 := cell_regrown c0
  have k1 := cell_regrown c1
  have k2 := cell_regrown c2
  have k3 := cell_regrown c3
  have HB := Side.mk hB
  clear hB c0 c1 c2 c3
  have hg := row_guard
  have he := row_equal
  refine wp_region_quiet_below (by kernel_rfl) (by kernel_rfl) ?_
  repeat (quiet_step (first | exact parts_in _ _ _ _ _ | exact HL.out _ _ _))
  refine wpQuiet_nil ?_
  intro _ hw'
  obtain ⟨⟨dq, osq⟩, hw''⟩ := hw'
  subst hw''
  go_wp2
  go_ret
  exact ⟨by rw [← HQ.out]; rfl, HB.out.trans ((below_regrown W dq osq).mono HB.out.size)⟩

set_option maxHeartbeats 2000000 in
set_option maxRecDepth 100000 in
theorem Fits_ne (a b c d : Int) (h : ¬ (c < a ∨ d < b)) (hq : (a == c && b == d) = false) (w : World) : Calls Try.prog 34 #[.agg #[.int .i64 a, .int .i64 b], .agg #[.int .i64 c, .int .i64 d]] w fun e w' => e = .returned (.bool true) ∧ Below w.heap.size w w' := by
  have hl : lesV a b c d = .agg #[.int .i64 a, .int .i64 b] := by unfold lesV; rw [if_neg h]
  have hls : ∀ (w : World) (dd : Nat) (os : Array Obj), Calls Try.prog 41 #[.agg #[.int .i64 a, .int .i64 b], .agg #[.int .i64 c, .int .i64 d]] (Go.Sort.grow (redrawn w dd) os) fun e w'' => e = .returned (.agg #[.int .i64 a, .int .i64 b]) ∧ ∃ p : Regrown, w'' = Go.Sort.grow (redrawn w p.d) p.os := fun w dd os => by have := lesser_in a b c d w dd os; rwa [hl] at this
  have HL := Side.mk hls
  clear hls hl
  go_enter Try.func34, Try.ntmps34
  go_wp2_with (go_at_call 40; refine (parts_any _ _ _).mono ?_; rintro e w' ⟨rfl, hb⟩)
  have hs : w.heap.size + 1 < w'.heap.size := by have := hb.size; simp at this; omega
  obtain ⟨W, hW⟩ : ∃ W, w'.alloc (Obj.cells #[.int .i64 c, .int .i64 d] 69) = W := ⟨_, rfl⟩
  have c0 : W.cell? ⟨w.heap.size, 0, none⟩ = some (.int .i64 a) := by
    rw [← hW, World.cell?_alloc_past _ _ _ (by show w.heap.size < _; omega), hb.cell (by simp; omega), World.cell?_alloc_past _ _ _ (by simp), World.cell?_alloc_at _ _ _ _ rfl]; rfl
  have c1 : W.cell? ⟨w.heap.size, 1, none⟩ = some (.int .i64 b) := by
    rw [← hW, World.cell?_alloc_past _ _ _ (by show w.heap.size < _; omega), hb.cell (by simp; omega), World.cell?_alloc_past _ _ _ (by simp), World.cell?_alloc_at _ _ _ _ rfl]; rfl
  have c2 : W.cell? ⟨w'.heap.size, 0, none⟩ = some (.int .i64 c) := by rw [← hW, World.cell?_alloc_at _ _ _ _ rfl]; rfl
  have c3 : W.cell? ⟨w'.heap.size, 1, none⟩ = some (.int .i64 d) := by rw [← hW, World.cell?_alloc_at _ _ _ _ rfl]; rfl
  have hB : Below w.heap.size w W := by
    rw [← hW]
    exact below_alloc ((((Below.refl _ w).alloc (Nat.le_refl _) _).alloc (by simp) _).trans (hb.mono (by simp; omega))) _
  obtain ⟨g, hg⟩ : ∃ g, w'.heap.size = g := ⟨_, rfl⟩
  rw [hW]
  rw [hg] at c2 c3 ⊢
  clear hW hb hs hg
  have k0 := cell_regrown c0
  have k1 := cell_regrown c1
  have k2 := cell_regrown c2
  have k3 := cell_regrown c3
  have HB := Side.mk hB
  clear hB c0 c1 c2 c3
  have hg := row_guard
  have he := row_equal
  refine wp_region_quiet_below (by kernel_rfl) (by kernel_rfl) ?_
  repeat (quiet_step (first | exact parts_in _ _ _ _ _ | exact HL.out _ _ _))
  refine wpQuiet_nil ?_
  intro _ hw'
  obtain ⟨⟨dq, osq⟩, hw''⟩ := hw'
  subst hw''
  go_wp2
  go_ret
  exact ⟨rfl, HB.out.trans ((below_regrown W dq osq).mono HB.out.size)⟩

set_option maxHeartbeats 2000000 in
set_option maxRecDepth 100000 in
theorem Fits_eq (a b : Int) (w : World) : Calls Try.prog 34 #[.agg #[.int .i64 a, .int .i64 b], .agg #[.int .i64 a, .int .i64 b]] w fun e w' => e = .returned (.bool true) ∧ Below w.heap.size w w' := by
  have hl : lesV a b a b = .agg #[.int .i64 a, .int .i64 b] := by unfold lesV; rw [if_neg (by omega)]
  have hls : ∀ (w : World) (dd : Nat) (os : Array Obj), Calls Try.prog 41 #[.agg #[.int .i64 a, .int .i64 b], .agg #[.int .i64 a, .int .i64 b]] (Go.Sort.grow (redrawn w dd) os) fun e w'' => e = .returned (.agg #[.int .i64 a, .int .i64 b]) ∧ ∃ p : Regrown, w'' = Go.Sort.grow (redrawn w p.d) p.os := fun w dd os => by have := lesser_in a b a b w dd os; rwa [hl] at this
  have HL := Side.mk hls
  clear hls hl
  go_enter Try.func34, Try.ntmps34
  go_wp2_with (go_at_call 40; refine (parts_any _ _ _).mono ?_; rintro e w' ⟨rfl, hb⟩)
  have hs : w.heap.size + 1 < w'.heap.size := by have := hb.size; simp at this; omega
  obtain ⟨W, hW⟩ : ∃ W, w'.alloc (Obj.cells #[.int .i64 a, .int .i64 b] 69) = W := ⟨_, rfl⟩
  have c0 : W.cell? ⟨w.heap.size, 0, none⟩ = some (.int .i64 a) := by
    rw [← hW, World.cell?_alloc_past _ _ _ (by show w.heap.size < _; omega), hb.cell (by simp; omega), World.cell?_alloc_past _ _ _ (by simp), World.cell?_alloc_at _ _ _ _ rfl]; rfl
  have c1 : W.cell? ⟨w.heap.size, 1, none⟩ = some (.int .i64 b) := by
    rw [← hW, World.cell?_alloc_past _ _ _ (by show w.heap.size < _; omega), hb.cell (by simp; omega), World.cell?_alloc_past _ _ _ (by simp), World.cell?_alloc_at _ _ _ _ rfl]; rfl
  have c2 : W.cell? ⟨w'.heap.size, 0, none⟩ = some (.int .i64 a) := by rw [← hW, World.cell?_alloc_at _ _ _ _ rfl]; rfl
  have c3 : W.cell? ⟨w'.heap.size, 1, none⟩ = some (.int .i64 b) := by rw [← hW, World.cell?_alloc_at _ _ _ _ rfl]; rfl
  have hB : Below w.heap.size w W := by
    rw [← hW]
    exact below_alloc ((((Below.refl _ w).alloc (Nat.le_refl _) _).alloc (by simp) _).trans (hb.mono (by simp; omega))) _
  obtain ⟨g, hg⟩ : ∃ g, w'.heap.size = g := ⟨_, rfl⟩
  rw [hW]
  rw [hg] at c2 c3 ⊢
  clear hW hb hs hg
  have k0 := cell_regrown c0
  have k1 := cell_regrown c1
  have k2 := cell_regrown c2
  have k3 := cell_regrown c3
  have HB := Side.mk hB
  clear hB c0 c1 c2 c3
  have hg := row_guard
  have he := row_equal
  refine wp_region_quiet_below (by kernel_rfl) (by kernel_rfl) ?_
  repeat (quiet_step (first | exact parts_in _ _ _ _ _ | exact HL.out _ _ _))
  refine wpQuiet_nil ?_
  intro _ hw'
  obtain ⟨⟨dq, osq⟩, hw''⟩ := hw'
  subst hw''
  go_wp2
  go_ret
  exact ⟨rfl, HB.out.trans ((below_regrown W dq osq).mono HB.out.size)⟩

theorem vec_Fits.calls (a0_0 a0_1 a1_0 a1_1 : Int) (r : Bool) (w : World) (h : vec_Fits.f a0_0 a0_1 a1_0 a1_1 = some r) :
    Calls Try.prog 34 #[.agg #[.int .i64 a0_0, .int .i64 a0_1], .agg #[.int .i64 a1_0, .int .i64 a1_1]] w fun e w' => e = .returned (.bool r) ∧ Below w.heap.size w w' := by
  obtain rfl := Option.some.inj h
  by_cases h1 : a1_0 < a0_0 ∨ a1_1 < a0_1
  · have e : (decide (a0_0 ≤ a1_0) && decide (a0_1 ≤ a1_1)) = false := by rw [Bool.and_eq_false_iff]; simp; omega
    rw [e]; exact Fits_no _ _ _ _ h1 w
  · have e : (decide (a0_0 ≤ a1_0) && decide (a0_1 ≤ a1_1)) = true := by rw [Bool.and_eq_true]; simp; omega
    rw [e]
    cases hq : (a0_0 == a1_0 && a0_1 == a1_1) with
    | false => exact Fits_ne _ _ _ _ h1 hq w
    | true =>
      rw [Bool.and_eq_true, beq_iff_eq, beq_iff_eq] at hq
      obtain ⟨rfl, rfl⟩ := hq
      exact Fits_eq _ _ w

def rightB (a b : Int) : Bool := decide (0 ≤ a) && decide (0 ≤ b)
set_option maxHeartbeats 1000000 in
theorem Right_any (a b : Int) (w : World) : Calls Try.prog 42 #[.agg #[.int .i64 a, .int .i64 b]] w fun e w' => e = .returned (.bool (rightB a b)) ∧ Below w.heap.size w w' := by
  have hu25 := Try.underlying25
  obtain ⟨q, hq⟩ : ∃ q, q = rightB a b := ⟨_, rfl⟩
  have HQ : Side (q = (decide (0 ≤ a) && decide (0 ≤ b))) := ⟨hq⟩
  rw [← hq]
  clear hq
  by_cases h1 : 0 ≤ a <;> by_cases h2 : 0 ≤ b
  all_goals
    go_enter Try.func42, Try.ntmps42
    go_wp2
    go_ret
    exact ⟨by rw [HQ.out]; simp [h1, h2], (by repeat (first | exact Below.refl _ _ | apply below_alloc | apply pw_below_drewN | apply below_drew | (refine Below.setCell ?_ (by first | (simp; done) | (simp; omega)) _)))⟩

def M63 : Int := 9223372036854775807
def addOK (x y : Int) : Bool := decide (x + y ≤ 9223372036854775807)
def addV (x y : Int) : Int := if addOK x y then x + y else 0
def subOK (x y : Int) : Bool := decide (y ≤ x)
def subV (x y : Int) : Int := x - y

set_option maxHeartbeats 1000000 in
theorem add_any (x y : Int) (hx : 0 ≤ x) (hx2 : x ≤ 9223372036854775807) (hy : 0 ≤ y) (hy2 : y ≤ 9223372036854775807) (w : World) :
    Calls Try.prog 39 #[.int .i64 x, .int .i64 y] w fun e w' => e = .returned (.tuple #[.int .i64 (addV x y), .bool (addOK x y)]) ∧ w' = w := by
  by_cases h : x + y ≤ 9223372036854775807
  · have e1 : addOK x y = true := decide_eq_true h
    have e2 : addV x y = x + y := by unfold addV; rw [e1]; rfl
    rw [e1, e2]
    have h' : ¬ 9223372036854775807 - y < x := by omega
    clear e1 e2 h
    go_enter Try.func39, Try.ntmps39
    go_wp2
    go_ret2
    exact ⟨by simp, rfl⟩
  · have e1 : addOK x y = false := decide_eq_false h
    have e2 : addV x y = 0 := by unfold addV; rw [e1]; rfl
    rw [e1, e2]
    have h' : 9223372036854775807 - y < x := by omega
    clear e1 e2 h
    go_enter Try.func39, Try.ntmps39
    go_wp2
    go_ret2
    exact ⟨by simp, rfl⟩
end Go.Proofs.Ytciedbaeenhgkaa.Base
