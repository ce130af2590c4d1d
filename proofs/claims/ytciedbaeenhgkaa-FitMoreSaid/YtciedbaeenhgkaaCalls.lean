/- What the machine's calls of vec.Add and vec.Sub come to, at any whole numbers of a machine's word. -/
import Derived.Test.YtciedbaeenhgkaaEachAdd
import Derived.Test.YtciedbaeenhgkaaEachAdd
set_option linter.unusedVariables false
set_option linter.unusedSimpArgs false
namespace Go.Proofs.Ytciedbaeenhgkaa.Base
open Go.RowKit Go.Proofs.YtciedbaeenhgkaaW.PrintWords

def word (x : Int) : Bool := decide (x ≤ 9223372036854775807)
def words4 (a b c d : Int) : Bool := (word a && word b) && (word c && word d)
/-- The answer: 'o0', 'o1' tell whether each part may be, 'v0', 'v1' what they are. -/
def outV (r o0 o1 : Bool) (v0 v1 : Int) : Int × Int × Int := if r then (if o0 && o1 then (v0, v1, 0) else (0, 0, 6)) else (0, 0, 2)
def vec_Add.f (a b c d : Int) : Option (Int × Int × Int) := if words4 a b c d = true then some (outV (rightB a b && rightB c d) (addOK a c) (addOK b d) (addV a c) (addV b d)) else none
def vec_Sub.f (a b c d : Int) : Option (Int × Int × Int) := if words4 a b c d = true then some (outV (rightB a b && rightB c d) (subOK a c) (subOK b d) (subV a c) (subV b d)) else none
def val3 (r : Int × Int × Int) : Value := .tuple #[.agg #[.int .i64 r.1, .int .i64 r.2.1], .int .i64 r.2.2]
theorem val_out (o0 o1 : Bool) (v0 v1 : Int) : out2 o0 o1 v0 v1 = val3 (outV true o0 o1 v0 v1) := by
  cases o0 <;> cases o1 <;> rfl
theorem words4_le {a b c d : Int} (h : words4 a b c d = true) : a ≤ 9223372036854775807 ∧ b ≤ 9223372036854775807 ∧ c ≤ 9223372036854775807 ∧ d ≤ 9223372036854775807 := by
  unfold words4 word at h
  simp only [Bool.and_eq_true, decide_eq_true_eq] at h
  exact ⟨h.1.1, h.1.2, h.2.1, h.2.2⟩

theorem each_add_all (a b c d : Int) (h : words4 a b c d = true) (w : World) :
    Calls Try.prog 38 #[.agg #[.int .i64 a, .int .i64 b], .agg #[.int .i64 c, .int .i64 d], .func (.func 39) #[] #[]] w fun e w' => e = .returned (val3 (outV (rightB a b && rightB c d) (addOK a c) (addOK b d) (addV a c) (addV b d))) ∧ Below w.heap.size w w' := by
  obtain ⟨h1, h2, h3, h4⟩ := words4_le h
  cases hr : rightB a b with
  | false => exact each_E1 _ a b c d hr w
  | true =>
    cases hr2 : rightB c d with
    | false => exact each_E2 _ a b c d hr hr2 w
    | true =>
      rw [Bool.and_self, ← val_out]
      exact each_add a b c d hr hr2 h1 h2 h3 h4 _ _ _ _ rfl rfl rfl rfl w
set_option maxHeartbeats 1000000 in
set_option maxRecDepth 100000 in
theorem vec_Add.calls (a0_0 a0_1 a1_0 a1_1 : Int) (r1 r2 r3 : Int) (w : World) (h : vec_Add.f a0_0 a0_1 a1_0 a1_1 = some (r1, r2, r3)) :
    Calls Try.prog 33 #[.agg #[.int .i64 a0_0, .int .i64 a0_1], .agg #[.int .i64 a1_0, .int .i64 a1_1]] w fun e w' => e = .returned (.tuple #[.agg #[.int .i64 r1, .int .i64 r2], .int .i64 r3]) ∧ Below w.heap.size w w' := by
  unfold vec_Add.f at h
  cases hw : words4 a0_0 a0_1 a1_0 a1_1 with
  | false => rw [hw] at h; cases h
  | true =>
  rw [hw, if_pos rfl] at h
  have he := Side.mk (fun W => each_add_all a0_0 a0_1 a1_0 a1_1 hw W)
  rw [Option.some.inj h] at he
  clear h hw
  have hE : Side (∀ W, Calls Try.prog 38 #[.agg #[.int .i64 a0_0, .int .i64 a0_1], .agg #[.int .i64 a1_0, .int .i64 a1_1], .func (.func 39) #[] #[]] W fun e w' => e = .returned (.tuple #[.agg #[.int .i64 r1, .int .i64 r2], .int .i64 r3]) ∧ Below W.heap.size W w') := he
  clear he
  go_enter Try.func33, Try.ntmps33
  go_wp2_with fail
  refine (hE.out _).mono ?_
  rintro e w1 ⟨rfl, hb⟩
  obtain ⟨hc, hf⟩ := bcell hb
  have hz : w.heap.size + 1 + 1 < w1.heap.size := by have := hb.size; simp at this; omega
  have HB := Side.mk (below3 _ _ _ _ _ hb)
  clear hb
  go_wp2_with fail
  refine bodyPost_ret (v := .tuple #[.agg #[.int .i64 r1, .int .i64 r2], .int .i64 r3]) (by simp [results, Try.results33, go_sem, hc, hf, hz]) rfl ⟨rfl, ?_⟩
  exact ((HB.out).setCell (by simp; omega) _).setCell (by simp; omega) _
end Go.Proofs.Ytciedbaeenhgkaa.Base
