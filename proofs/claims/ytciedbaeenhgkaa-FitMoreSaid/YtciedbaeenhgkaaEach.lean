/- What the machine's calls of vec.each come to, with the function values that vec.Add and vec.Sub hand it. -/
import Derived.Test.YtciedbaeenhgkaaBase
set_option linter.unusedVariables false
set_option linter.unusedSimpArgs false
namespace Go.Proofs.Ytciedbaeenhgkaa.Base
open Go.RowKit Go.Proofs.YtciedbaeenhgkaaW.PrintWords

theorem Right_yes (a b : Int) (h : rightB a b = true) (w : World) : Calls Try.prog 42 #[.agg #[.int .i64 a, .int .i64 b]] w fun e w' => e = .returned (.bool true) ∧ Below w.heap.size w w' := by
  have := Right_any a b w; rwa [h] at this
theorem Right_no (a b : Int) (h : rightB a b = false) (w : World) : Calls Try.prog 42 #[.agg #[.int .i64 a, .int .i64 b]] w fun e w' => e = .returned (.bool false) ∧ Below w.heap.size w w' := by
  have := Right_any a b w; rwa [h] at this

theorem bcell {W w1 : World} (hb : Below W.heap.size W w1) : (∀ b o, b < W.heap.size → w1.cell? ⟨b, o, none⟩ = W.cell? ⟨b, o, none⟩) ∧ (∀ b o, b < W.heap.size → w1.frozen? ⟨b, o, none⟩ = W.frozen? ⟨b, o, none⟩) :=
  ⟨fun b o h => hb.cell (p := ⟨b, o, none⟩) h, fun b o h => hb.frozen (p := ⟨b, o, none⟩) h⟩

theorem below3 (w : World) (o1 o2 o3 : Obj) (w1 : World) (hb : Below (((w.alloc o1).alloc o2).alloc o3).heap.size (((w.alloc o1).alloc o2).alloc o3) w1) : Below w.heap.size w w1 :=
  ((((Below.refl _ w).alloc (Nat.le_refl _) o1).alloc (by simp) o2).alloc (by simp; omega) o3).trans (hb.mono (by simp; omega))

set_option maxHeartbeats 1000000 in
set_option maxRecDepth 100000 in
theorem each_E1 (g : Value) (a b c d : Int) (h : rightB a b = false) (w : World) :
    Calls Try.prog 38 #[.agg #[.int .i64 a, .int .i64 b], .agg #[.int .i64 c, .int .i64 d], g] w fun e w' => e = .returned (.tuple #[.agg #[.int .i64 0, .int .i64 0], .int .i64 2]) ∧ Below w.heap.size w w' := by
  have H := Side.mk h
  clear h
  go_enter Try.func38, Try.ntmps38
  go_wp2_with fail
  refine (Right_no _ _ H.out _).mono ?_
  rintro e w1 ⟨rfl, hb⟩
  obtain ⟨hc, hf⟩ := bcell hb
  have hz : w.heap.size + 1 + 1 < w1.heap.size := by have := hb.size; simp at this; omega
  have HB := Side.mk hb
  clear hb
  go_wp2_with fail
  refine bodyPost_ret (v := .tuple #[.agg #[.int .i64 0, .int .i64 0], .int .i64 2]) (by simp [results, Try.results38, go_sem, hc, hf, hz]) rfl ⟨rfl, ?_⟩
  exact ((below3 _ _ _ _ _ HB.out).setCell (by simp; omega) _).setCell (by simp; omega) _

set_option maxHeartbeats 1000000 in
set_option maxRecDepth 100000 in
theorem each_E2 (g : Value) (a b c d : Int) (h : rightB a b = true) (h2 : rightB c d = false) (w : World) :
    Calls Try.prog 38 #[.agg #[.int .i64 a, .int .i64 b], .agg #[.int .i64 c, .int .i64 d], g] w fun e w' => e = .returned (.tuple #[.agg #[.int .i64 0, .int .i64 0], .int .i64 2]) ∧ Below w.heap.size w w' := by
  have H := Side.mk h
  have H2 := Side.mk h2
  clear h h2
  go_enter Try.func38, Try.ntmps38
  go_wp2_with fail
  refine (Right_yes _ _ H.out _).mono ?_
  rintro e w1 ⟨rfl, hb⟩
  obtain ⟨hc, hf⟩ := bcell hb
  have hz : w.heap.size + 1 + 1 < w1.heap.size := by have := hb.size; simp at this; omega
  have HB := Side.mk (below3 _ _ _ _ _ hb)
  clear hb
  go_wp2_with fail
  refine (Right_no _ _ H2.out _).mono ?_
  rintro e w2 ⟨rfl, hb⟩
  obtain ⟨hc2, hf2⟩ := bcell hb
  have hz2 : w.heap.size + 1 + 1 < w2.heap.size := by have := hb.size; omega
  have HB2 := Side.mk (HB.out.trans (hb.mono HB.out.size))
  clear hb
  go_wp2_with fail
  refine bodyPost_ret (v := .tuple #[.agg #[.int .i64 0, .int .i64 0], .int .i64 2]) (by simp [results, Try.results38, go_sem, hc, hf, hz, hc2, hf2, hz2]) rfl ⟨rfl, ?_⟩
  exact (HB2.out.setCell (by simp; omega) _).setCell (by simp; omega) _

/-- What stands in memory behind the two tests: the two boxes, the place of the answer. -/
structure Boxes (n : Nat) (a b c d : Int) (w : World) : Prop where
  a0 : w.cell? ⟨n, 0, none⟩ = some (.int .i64 a)
  a1 : w.cell? ⟨n, 1, none⟩ = some (.int .i64 b)
  b0 : w.cell? ⟨n + 1, 0, none⟩ = some (.int .i64 c)
  b1 : w.cell? ⟨n + 1, 1, none⟩ = some (.int .i64 d)
  c0 : w.cell? ⟨n + 1 + 1, 0, none⟩ = some (.int .i64 0)
  c1 : w.cell? ⟨n + 1 + 1, 1, none⟩ = some (.int .i64 0)
  f0 : w.frozen? ⟨n + 1 + 1, 0, none⟩ = false
  f1 : w.frozen? ⟨n + 1 + 1, 1, none⟩ = false
  sz : n + 1 + 1 < w.heap.size
theorem Boxes.next {n : Nat} {a b c d : Int} {w w1 : World} (h : Boxes n a b c d w) (hb : Below w.heap.size w w1) : Boxes n a b c d w1 := by
  have hs := h.sz
  have hz := hb.size
  exact ⟨(hb.cell (by show n < _; omega)).trans h.a0, (hb.cell (by show n < _; omega)).trans h.a1, (hb.cell (by show n + 1 < _; omega)).trans h.b0, (hb.cell (by show n + 1 < _; omega)).trans h.b1,
    (hb.cell (by show n + 1 + 1 < _; omega)).trans h.c0, (hb.cell (by show n + 1 + 1 < _; omega)).trans h.c1, (hb.frozen (by show n + 1 + 1 < _; omega)).trans h.f0, (hb.frozen (by show n + 1 + 1 < _; omega)).trans h.f1, by omega⟩
theorem Boxes.first (w : World) (a b c d : Int) : Boxes w.heap.size a b c d (((w.alloc (.cells #[.int .i64 a, .int .i64 b] 25)).alloc (.cells #[.int .i64 c, .int .i64 d] 25)).alloc (.cells #[.int .i64 0, .int .i64 0] 25)) := by
  constructor <;> simp [go_sem]

def C4 (n : Nat) (a b c d : Int) (W : World) : Prop :=
  W.cell? ⟨n, 0, none⟩ = some (.int .i64 a) ∧ W.cell? ⟨n, 1, none⟩ = some (.int .i64 b) ∧ W.cell? ⟨n + 1, 0, none⟩ = some (.int .i64 c) ∧ W.cell? ⟨n + 1, 1, none⟩ = some (.int .i64 d)
theorem C4.lt {n : Nat} {a b c d : Int} {W : World} (h : C4 n a b c d W) : n + 1 < W.heap.size := World.block_lt_of_cell? W _ h.2.2.1
theorem C4.next {n : Nat} {a b c d : Int} {W w' : World} (h : C4 n a b c d W) (hb : Below W.heap.size W w') : C4 n a b c d w' := by
  have hs := h.lt
  exact ⟨(hb.cell (by show n < _; omega)).trans h.1, (hb.cell (by show n < _; omega)).trans h.2.1, (hb.cell (by show n + 1 < _; omega)).trans h.2.2.1, (hb.cell (by show n + 1 < _; omega)).trans h.2.2.2⟩
theorem C4.alloc {n : Nat} {a b c d : Int} {W : World} (h : C4 n a b c d W) (o : Obj) : C4 n a b c d (W.alloc o) := h.next (below_alloc (Below.refl _ _) o)
theorem C4.setCell {n : Nat} {a b c d : Int} {W : World} (h : C4 n a b c d W) (g k : Nat) (hg : n + 1 < g) (u : Value) : C4 n a b c d (W.setCell ⟨g, k, none⟩ u) := by
  obtain ⟨h0, h1, h2, h3⟩ := h
  have e : ∀ m j, m ≤ n + 1 → (W.setCell ⟨g, k, none⟩ u).cell? ⟨m, j, none⟩ = W.cell? ⟨m, j, none⟩ := fun m j hm => World.cell?_of_block (Below.heap_setCell W _ u m (by show m ≠ g; omega))
  exact ⟨(e _ _ (by omega)).trans h0, (e _ _ (by omega)).trans h1, (e _ _ (by omega)).trans h2, (e _ _ (by omega)).trans h3⟩

theorem C4.drew {n : Nat} {a b c d : Int} {W : World} (h : C4 n a b c d W) : C4 n a b c d W.drew := h

set_option maxHeartbeats 1000000 in
theorem parts_exact (a b : Int) (w : World) : Calls Try.prog 40 #[.agg #[.int .i64 a, .int .i64 b]] w fun e w' => e = .returned (.agg #[.int .i64 a, .int .i64 b]) ∧ w' = (w.alloc (.cells #[.int .i64 a, .int .i64 b] 25)).alloc (.cells #[.int .i64 a, .int .i64 b] 69) := by
  go_enter Try.func40, Try.ntmps40
  go_wp2
  exact bodyPost_ret (v := .agg #[.int .i64 a, .int .i64 b]) (by simp [results, Try.results40, go_sem]) rfl ⟨rfl, rfl⟩

end Go.Proofs.Ytciedbaeenhgkaa.Base
