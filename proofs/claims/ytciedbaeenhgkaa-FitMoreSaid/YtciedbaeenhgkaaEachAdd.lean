/- What vec.each does with two pairs that are right: each part by the function value that it was handed. -/
import Derived.Test.YtciedbaeenhgkaaEach
set_option linter.unusedVariables false
set_option linter.unusedSimpArgs false
namespace Go.Proofs.Ytciedbaeenhgkaa.Base
open Go.RowKit Go.Proofs.YtciedbaeenhgkaaW.PrintWords

/-- What stands in memory ahead of the loop: the two rows, the row that is filled, the place of the answer. -/
structure Mid (n m p q : Nat) (a b c d : Int) (W : World) : Prop where
  p0 : W.cell? ⟨p, 0, none⟩ = some (.int .i64 a)
  p1 : W.cell? ⟨p, 1, none⟩ = some (.int .i64 b)
  q0 : W.cell? ⟨q, 0, none⟩ = some (.int .i64 c)
  q1 : W.cell? ⟨q, 1, none⟩ = some (.int .i64 d)
  m0 : W.cell? ⟨m, 0, none⟩ = some (.int .i64 0)
  m1 : W.cell? ⟨m, 1, none⟩ = some (.int .i64 0)
  e0 : W.frozen? ⟨m, 0, none⟩ = false
  e1 : W.frozen? ⟨m, 1, none⟩ = false
  c0 : W.cell? ⟨n + 1 + 1, 0, none⟩ = some (.int .i64 0)
  c1 : W.cell? ⟨n + 1 + 1, 1, none⟩ = some (.int .i64 0)
  f0 : W.frozen? ⟨n + 1 + 1, 0, none⟩ = false
  f1 : W.frozen? ⟨n + 1 + 1, 1, none⟩ = false
  mp : m < p
  mq : m < q
  nm : n + 1 + 1 < m
  sm : m < W.heap.size

/-- What the loop comes to. -/
def out2 (o0 o1 : Bool) (v0 v1 : Int) : Value := if o0 && o1 then .tuple #[.agg #[.int .i64 v0, .int .i64 v1], .int .i64 0] else .tuple #[.agg #[.int .i64 0, .int .i64 0], .int .i64 6]

set_option maxHeartbeats 30000000 in
set_option maxRecDepth 100000 in
theorem each_add (a b c d : Int) (h : rightB a b = true) (h2 : rightB c d = true) (ha : a ≤ 9223372036854775807) (hb : b ≤ 9223372036854775807) (hc : c ≤ 9223372036854775807) (hd : d ≤ 9223372036854775807) (o0 o1 : Bool) (v0 v1 : Int) (he0 : addOK a c = o0) (he1 : addOK b d = o1) (hv0 : addV a c = v0) (hv1 : addV b d = v1) (w : World) :
    Calls Try.prog 38 #[.agg #[.int .i64 a, .int .i64 b], .agg #[.int .i64 c, .int .i64 d], .func (.func 39) #[] #[]] w fun e w' => e = .returned (out2 o0 o1 v0 v1) ∧ Below w.heap.size w w' := by
  have hr := h
  have hr2 := h2
  unfold rightB at hr hr2
  simp only [Bool.and_eq_true, decide_eq_true_eq] at hr hr2
  have HC0 : Side (∀ W, Calls Try.prog 39 #[.int .i64 a, .int .i64 c] W fun e w' => e = .returned (.tuple #[.int .i64 v0, .bool o0]) ∧ w' = W) := ⟨fun W => by have := add_any a c hr.1 ha hr2.1 hc W; rwa [he0, hv0] at this⟩
  have HC1 : Side (∀ W, Calls Try.prog 39 #[.int .i64 b, .int .i64 d] W fun e w' => e = .returned (.tuple #[.int .i64 v1, .bool o1]) ∧ w' = W) := ⟨fun W => by have := add_any b d hr.2 hb hr2.2 hd W; rwa [he1, hv1] at this⟩
  clear he0 he1 hv0 hv1 hr hr2 ha hb hc hd
  have H := Side.mk h
  have H2 := Side.mk h2
  clear h h2
  have HX := Side.mk (Boxes.first w a b c d)
  go_enter Try.func38, Try.ntmps38
  go_wp2_with fail
  refine (Right_yes _ _ H.out _).mono ?_
  rintro e w1 ⟨rfl, hb⟩
  have HX1 := Side.mk (HX.out.next hb)
  have HB := Side.mk (below3 _ _ _ _ _ hb)
  clear hb HX
  obtain ⟨a0, a1, b0, b1, c0, c1, f0, f1, sz⟩ := HX1.out
  go_wp2_with fail
  refine (Right_yes _ _ H2.out _).mono ?_
  rintro e w2 ⟨rfl, hb⟩
  have HX2 := Side.mk (HX1.out.next hb)
  have HB2 := Side.mk (HB.out.trans (hb.mono HB.out.size))
  clear hb HX1 HB a0 a1 b0 b1 c0 c1 f0 f1 sz
  obtain ⟨a0, a1, b0, b1, c0, c1, f0, f1, sz⟩ := HX2.out
  have HC4 : Side (C4 w.heap.size a b c d w2) := ⟨a0, a1, b0, b1⟩
  go_upto_region 4 with fail
  go_cut [9, 10] (fun s9 s10 wx => ∃ g9 g10 : Nat, s9 = .pointer (some ⟨g9, 0, none⟩) ∧ s10 = .pointer (some ⟨g10, 0, none⟩) ∧ Side (Mid w.heap.size w2.heap.size g9 g10 a b c d wx) ∧ Side (Below w.heap.size w wx))
  case first =>
    go_region_held3 (fun w' => w'.cell? ⟨w.heap.size, 0, none⟩ = some (.int .i64 a) ∧ w'.cell? ⟨w.heap.size, 1, none⟩ = some (.int .i64 b) ∧ w'.cell? ⟨w.heap.size + 1, 0, none⟩ = some (.int .i64 c) ∧ w'.cell? ⟨w.heap.size + 1, 1, none⟩ = some (.int .i64 d)) ((show C4 w.heap.size a b c d _; repeat (first | exact HC4.out | apply C4.drew | apply C4.alloc | (refine C4.setCell ?_ _ _ (by simp; omega) _))))
      (first
        | (go_at_call 40; refine (parts_exact _ _ _).mono ?_; rintro e w' ⟨rfl, rfl⟩))
    all_goals
      go_wp2_with fail
      go_meet
      refine ⟨_, _, rfl, rfl, ⟨?_⟩, ⟨?_⟩⟩
      · constructor <;> first
          | (go_simp; done)
          | (refine (Below.cell (B := w2.heap.size) (w := w2) (by repeat (first | exact Below.refl _ _ | apply below_alloc | apply below_drew)) (by simp; omega)).trans ?_; assumption)
          | (refine (Below.frozen (B := w2.heap.size) (w := w2) (by repeat (first | exact Below.refl _ _ | apply below_alloc | apply below_drew)) (by simp; omega)).trans ?_; assumption)
          | (simp; omega)
      · exact HB2.out.trans (Below.mono (B := w2.heap.size) (by repeat (first | exact Below.refl _ _ | apply below_alloc | apply below_drew)) HB2.out.size)
  case rest =>
    obtain ⟨g9, g10, rfl, rfl, HM, HBx⟩ := hcut
    clear a0 a1 b0 b1 c0 c1 f0 f1 sz HC4 HX2
    obtain ⟨p0, p1, q0, q1, m0, m1, e0, e1, c0, c1, f0, f1, mp, mq, nm, sm⟩ := HM.out
    obtain ⟨m, hm⟩ : ∃ m, w2.heap.size = m := ⟨_, rfl⟩
    obtain ⟨n, hn⟩ : ∃ n, w.heap.size = n := ⟨_, rfl⟩
    have HN := Side.mk hn
    rw [hm] at HM m0 m1 e0 e1 mp mq nm sm ⊢
    rw [hn] at c0 c1 f0 f1 nm ⊢
    clear hm hn HB2 HM
    have hno : m ≠ n + 1 + 1 := by omega
    cases o0 with
    | false =>
      go_wp2
      refine wp_loop_rounds 3 ?_
      rw [rounds_succ]
      go_wp2
      go_quiet ((go_at_call 39; exact Calls.quiet_of_same (HC0.out _)))
      go_wp2
      refine bodyPost_ret (v := .tuple #[.agg #[.int .i64 0, .int .i64 0], .int .i64 6]) (by simp [results, Try.results38, go_sem, c0, c1, f0, f1]) rfl ⟨rfl, ?_⟩
      have hn := HN.out
      exact ((pw_below_drewN HBx.out _).setCell (by show _ ≤ n + 1 + 1; omega) _).setCell (by show _ ≤ n + 1 + 1; omega) _
    | true =>
      cases o1 with
      | false =>
        go_wp2
        refine wp_loop_rounds 3 ?_
        rw [rounds_succ]
        go_wp2
        go_quiet ((go_at_call 39; exact Calls.quiet_of_same (HC0.out _)))
        go_wp2
        rw [rounds_succ]
        go_wp2
        go_quiet ((go_at_call 39; exact Calls.quiet_of_same (HC1.out _)))
        go_wp2
        refine bodyPost_ret (v := .tuple #[.agg #[.int .i64 0, .int .i64 0], .int .i64 6]) (by simp [results, Try.results38, go_sem, c0, c1, f0, f1, hno]) rfl ⟨rfl, ?_⟩
        have hn := HN.out
        exact (by repeat (first | exact HBx.out | apply pw_below_drewN | (refine Below.setCell ?_ (by first | (show _ ≤ n + 1 + 1; omega) | (show _ ≤ m; omega)) _)))
      | true =>
        go_wp2
        refine wp_loop_rounds 3 ?_
        rw [rounds_succ]
        go_wp2
        go_quiet ((go_at_call 39; exact Calls.quiet_of_same (HC0.out _)))
        go_wp2
        rw [rounds_succ]
        go_wp2
        go_quiet ((go_at_call 39; exact Calls.quiet_of_same (HC1.out _)))
        go_wp2
        rw [rounds_succ]
        have sn : n + 1 + 1 < wc.heap.size := by omega
        go_wp2_with (go_at_call 43; refine (whole_any _ _ _).mono ?_; rintro e w3 ⟨rfl, hb3⟩; obtain ⟨hc3, hf3⟩ := bcell hb3; have hz3 : n + 1 + 1 < w3.heap.size := (by have hsz := hb3.size; (try simp at hsz); omega); have HB3 := Side.mk hb3; clear hb3)
        refine bodyPost_ret (v := .tuple #[.agg #[.int .i64 v0, .int .i64 v1], .int .i64 0]) (by simp [results, Try.results38, go_sem, c0, c1, f0, f1, hno, hc3, hf3, hz3, sn]) rfl ⟨rfl, ?_⟩
        have hn := HN.out
        refine Below.setCell (Below.setCell (Below.trans (b := _) (by repeat (first | exact HBx.out | apply pw_below_drewN | (refine Below.setCell ?_ (by first | (show _ ≤ n + 1 + 1; omega) | (show _ ≤ m; omega)) _))) (HB3.out.mono (by simp; omega))) (by show _ ≤ n + 1 + 1; omega) _) (by show _ ≤ n + 1 + 1; omega) _
end Go.Proofs.Ytciedbaeenhgkaa.Base
