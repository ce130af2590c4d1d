-- Printed by wip/tools/gprint.py (the kit's print, hand-proved contracts laid in): functions of the program as Lean functions, each with the proof that the machine's call comes to its answer.
import Derived.Test.YtocndmgimcmfaaaPx0
import Derived.Test.YtocndmgimcmfaaaPx1
namespace Go.Proofs.Ytocndmgimcmfaaa.P
open Go.RowKit Go.Proofs.Ytocndmgimcmfaaa.Base Go.Proofs.YtocndmgimcmfaaaW.PrintWords Go.Proofs.YtocndmgimcmfaaaW.PrintLast Go.Proofs.YtocndmgimcmfaaaW.PrintMore
attribute [local go_sem] max2_int min2_int max_two min_two max_three min_three max_four min_four   -- for this text's walks alone
set_option linter.unusedVariables false
set_option linter.unusedSimpArgs false

/-! ### joinerylaw2_MarkKnown: function 4 -/
def joinerylaw2_MarkKnown.f (a0 : Int) : Option (Bool) := (joinerylaw2_known.f).bind fun t128 => (if t128 = true then ((some (([(⟨#[97]⟩ : ByteArray), (⟨#[122, 57]⟩ : ByteArray), (⟨#[206, 177, 206, 178, 206, 179, 206, 180, 206, 181, 206, 182, 206, 183, 206, 184]⟩ : ByteArray), (⟨#[97, 98, 99, 100, 101, 102, 103, 104]⟩ : ByteArray), (⟨#[97, 48, 98, 49, 99, 50, 100, 51]⟩ : ByteArray), (⟨#[207, 137]⟩ : ByteArray), (⟨#[207, 130]⟩ : ByteArray), (⟨#[206, 177, 206, 178, 206, 179, 206, 180, 206, 181, 206, 182, 206, 183, 206, 184, 206, 185]⟩ : ByteArray), (⟨#[97, 98, 99, 100, 101, 102, 103, 104, 105]⟩ : ByteArray), (⟨#[57, 97]⟩ : ByteArray), (⟨#[48]⟩ : ByteArray), (⟨#[65]⟩ : ByteArray), (⟨#[206, 145]⟩ : ByteArray), (⟨#[206, 172]⟩ : ByteArray), (⟨#[207, 138]⟩ : ByteArray), (⟨#[97, 32, 98]⟩ : ByteArray), (⟨#[97, 45, 98]⟩ : ByteArray), (⟨#[206]⟩ : ByteArray), (⟨#[97, 177]⟩ : ByteArray), (⟨#[97, 239, 191, 189]⟩ : ByteArray), (⟨#[]⟩ : ByteArray), (⟨#[195, 169]⟩ : ByteArray), (⟨#[206, 176]⟩ : ByteArray), (⟨#[207, 144]⟩ : ByteArray)] : List ByteArray) : List ByteArray)).bind fun y129 => ((joinerylaw2_within.f a0 (y129.length : Int)).bind fun t132 => (if 0 ≤ t132 then (if t132 < (y129.length : Int) then ((mark_Name.f (rdOf ByteArray.empty y129 t132)).bind fun t134 => (some (t134 == (decide (t132 < 7))))) else (none)) else (none)))) else (some false))
set_option maxHeartbeats 8000000 in
set_option maxRecDepth 100000 in
theorem joinerylaw2_MarkKnown.calls (a0 : Int) (r : Bool) (w : World) (h : joinerylaw2_MarkKnown.f a0 = some r) :
    Calls Try.prog 4 #[.int .i64 a0] w fun e w' => e = .returned (.bool r) ∧ Below w.heap.size w w' := by
  have HB := Aside0.mk (Below.refl w.heap.size w)
  have H : ((joinerylaw2_known.f).bind fun t128 => (if t128 = true then ((some (([(⟨#[97]⟩ : ByteArray), (⟨#[122, 57]⟩ : ByteArray), (⟨#[206, 177, 206, 178, 206, 179, 206, 180, 206, 181, 206, 182, 206, 183, 206, 184]⟩ : ByteArray), (⟨#[97, 98, 99, 100, 101, 102, 103, 104]⟩ : ByteArray), (⟨#[97, 48, 98, 49, 99, 50, 100, 51]⟩ : ByteArray), (⟨#[207, 137]⟩ : ByteArray), (⟨#[207, 130]⟩ : ByteArray), (⟨#[206, 177, 206, 178, 206, 179, 206, 180, 206, 181, 206, 182, 206, 183, 206, 184, 206, 185]⟩ : ByteArray), (⟨#[97, 98, 99, 100, 101, 102, 103, 104, 105]⟩ : ByteArray), (⟨#[57, 97]⟩ : ByteArray), (⟨#[48]⟩ : ByteArray), (⟨#[65]⟩ : ByteArray), (⟨#[206, 145]⟩ : ByteArray), (⟨#[206, 172]⟩ : ByteArray), (⟨#[207, 138]⟩ : ByteArray), (⟨#[97, 32, 98]⟩ : ByteArray), (⟨#[97, 45, 98]⟩ : ByteArray), (⟨#[206]⟩ : ByteArray), (⟨#[97, 177]⟩ : ByteArray), (⟨#[97, 239, 191, 189]⟩ : ByteArray), (⟨#[]⟩ : ByteArray), (⟨#[195, 169]⟩ : ByteArray), (⟨#[206, 176]⟩ : ByteArray), (⟨#[207, 144]⟩ : ByteArray)] : List ByteArray) : List ByteArray)).bind fun y129 => ((joinerylaw2_within.f a0 (y129.length : Int)).bind fun t132 => (if 0 ≤ t132 then (if t132 < (y129.length : Int) then ((mark_Name.f (rdOf ByteArray.empty y129 t132)).bind fun t134 => (some (t134 == (decide (t132 < 7))))) else (none)) else (none)))) else (some false))) = some r := h
  clear h
  replace H := Option.bind_eq_some_iff.mp H
  obtain ⟨t128, A20, H⟩ := H
  replace H : (if t128 = true then ((some (([(⟨#[97]⟩ : ByteArray), (⟨#[122, 57]⟩ : ByteArray), (⟨#[206, 177, 206, 178, 206, 179, 206, 180, 206, 181, 206, 182, 206, 183, 206, 184]⟩ : ByteArray), (⟨#[97, 98, 99, 100, 101, 102, 103, 104]⟩ : ByteArray), (⟨#[97, 48, 98, 49, 99, 50, 100, 51]⟩ : ByteArray), (⟨#[207, 137]⟩ : ByteArray), (⟨#[207, 130]⟩ : ByteArray), (⟨#[206, 177, 206, 178, 206, 179, 206, 180, 206, 181, 206, 182, 206, 183, 206, 184, 206, 185]⟩ : ByteArray), (⟨#[97, 98, 99, 100, 101, 102, 103, 104, 105]⟩ : ByteArray), (⟨#[57, 97]⟩ : ByteArray), (⟨#[48]⟩ : ByteArray), (⟨#[65]⟩ : ByteArray), (⟨#[206, 145]⟩ : ByteArray), (⟨#[206, 172]⟩ : ByteArray), (⟨#[207, 138]⟩ : ByteArray), (⟨#[97, 32, 98]⟩ : ByteArray), (⟨#[97, 45, 98]⟩ : ByteArray), (⟨#[206]⟩ : ByteArray), (⟨#[97, 177]⟩ : ByteArray), (⟨#[97, 239, 191, 189]⟩ : ByteArray), (⟨#[]⟩ : ByteArray), (⟨#[195, 169]⟩ : ByteArray), (⟨#[206, 176]⟩ : ByteArray), (⟨#[207, 144]⟩ : ByteArray)] : List ByteArray) : List ByteArray)).bind fun y129 => ((joinerylaw2_within.f a0 (y129.length : Int)).bind fun t132 => (if 0 ≤ t132 then (if t132 < (y129.length : Int) then ((mark_Name.f (rdOf ByteArray.empty y129 t132)).bind fun t134 => (some (t134 == (decide (t132 < 7))))) else (none)) else (none)))) else (some false)) = some r := H
  have A2 := Aside0.mk A20
  clear A20
  by_cases c3 : t128 = true
  · subst c3
    have H1 : ((some (([(⟨#[97]⟩ : ByteArray), (⟨#[122, 57]⟩ : ByteArray), (⟨#[206, 177, 206, 178, 206, 179, 206, 180, 206, 181, 206, 182, 206, 183, 206, 184]⟩ : ByteArray), (⟨#[97, 98, 99, 100, 101, 102, 103, 104]⟩ : ByteArray), (⟨#[97, 48, 98, 49, 99, 50, 100, 51]⟩ : ByteArray), (⟨#[207, 137]⟩ : ByteArray), (⟨#[207, 130]⟩ : ByteArray), (⟨#[206, 177, 206, 178, 206, 179, 206, 180, 206, 181, 206, 182, 206, 183, 206, 184, 206, 185]⟩ : ByteArray), (⟨#[97, 98, 99, 100, 101, 102, 103, 104, 105]⟩ : ByteArray), (⟨#[57, 97]⟩ : ByteArray), (⟨#[48]⟩ : ByteArray), (⟨#[65]⟩ : ByteArray), (⟨#[206, 145]⟩ : ByteArray), (⟨#[206, 172]⟩ : ByteArray), (⟨#[207, 138]⟩ : ByteArray), (⟨#[97, 32, 98]⟩ : ByteArray), (⟨#[97, 45, 98]⟩ : ByteArray), (⟨#[206]⟩ : ByteArray), (⟨#[97, 177]⟩ : ByteArray), (⟨#[97, 239, 191, 189]⟩ : ByteArray), (⟨#[]⟩ : ByteArray), (⟨#[195, 169]⟩ : ByteArray), (⟨#[206, 176]⟩ : ByteArray), (⟨#[207, 144]⟩ : ByteArray)] : List ByteArray) : List ByteArray)).bind fun y129 => ((joinerylaw2_within.f a0 (y129.length : Int)).bind fun t132 => (if 0 ≤ t132 then (if t132 < (y129.length : Int) then ((mark_Name.f (rdOf ByteArray.empty y129 t132)).bind fun t134 => (some (t134 == (decide (t132 < 7))))) else (none)) else (none)))) = some r := by rw [if_pos rfl] at H; exact H
    clear H
    have H := H1
    clear H1
    obtain ⟨y129, hy129⟩ : ∃ y_ : List ByteArray, y_ = (([(⟨#[97]⟩ : ByteArray), (⟨#[122, 57]⟩ : ByteArray), (⟨#[206, 177, 206, 178, 206, 179, 206, 180, 206, 181, 206, 182, 206, 183, 206, 184]⟩ : ByteArray), (⟨#[97, 98, 99, 100, 101, 102, 103, 104]⟩ : ByteArray), (⟨#[97, 48, 98, 49, 99, 50, 100, 51]⟩ : ByteArray), (⟨#[207, 137]⟩ : ByteArray), (⟨#[207, 130]⟩ : ByteArray), (⟨#[206, 177, 206, 178, 206, 179, 206, 180, 206, 181, 206, 182, 206, 183, 206, 184, 206, 185]⟩ : ByteArray), (⟨#[97, 98, 99, 100, 101, 102, 103, 104, 105]⟩ : ByteArray), (⟨#[57, 97]⟩ : ByteArray), (⟨#[48]⟩ : ByteArray), (⟨#[65]⟩ : ByteArray), (⟨#[206, 145]⟩ : ByteArray), (⟨#[206, 172]⟩ : ByteArray), (⟨#[207, 138]⟩ : ByteArray), (⟨#[97, 32, 98]⟩ : ByteArray), (⟨#[97, 45, 98]⟩ : ByteArray), (⟨#[206]⟩ : ByteArray), (⟨#[97, 177]⟩ : ByteArray), (⟨#[97, 239, 191, 189]⟩ : ByteArray), (⟨#[]⟩ : ByteArray), (⟨#[195, 169]⟩ : ByteArray), (⟨#[206, 176]⟩ : ByteArray), (⟨#[207, 144]⟩ : ByteArray)] : List ByteArray)) := ⟨_, rfl⟩
    replace H : ((joinerylaw2_within.f a0 (y129.length : Int)).bind fun t132 => (if 0 ≤ t132 then (if t132 < (y129.length : Int) then ((mark_Name.f (rdOf ByteArray.empty y129 t132)).bind fun t134 => (some (t134 == (decide (t132 < 7))))) else (none)) else (none))) = some r := by first | (rw [hy129]; with_reducible exact H) | (have H2_ := (Option.bind_some _ _).symm.trans H; rw [hy129]; with_reducible exact H2_) | (have H2_ := (Option.bind_some _ _).symm.trans H; with_reducible exact H2_) | with_reducible exact H | (rw [hy129]; exact H) | exact H
    have Ny129 := Aside0.mk hy129
    clear hy129
    replace H := Option.bind_eq_some_iff.mp H
    obtain ⟨t132, A40, H⟩ := H
    replace H : (if 0 ≤ t132 then (if t132 < (y129.length : Int) then ((mark_Name.f (rdOf ByteArray.empty y129 t132)).bind fun t134 => (some (t134 == (decide (t132 < 7))))) else (none)) else (none)) = some r := H
    have A4 := Aside0.mk A40
    clear A40
    by_cases c5 : 0 ≤ t132
    · rw [if_pos c5] at H
      have c5b0 : decide (0 ≤ t132) = true := decide_eq_true c5
      clear c5
      by_cases c6 : t132 < (y129.length : Int)
      · rw [if_pos c6] at H
        have c6b0 : decide (t132 < (y129.length : Int)) = true := decide_eq_true c6
        clear c6
        replace H := Option.bind_eq_some_iff.mp H
        obtain ⟨t134, A70, H⟩ := H
        replace H : (some (t134 == (decide (t132 < 7)))) = some r := H
        have A7 := Aside0.mk A70
        clear A70
        obtain rfl := Option.some.inj H
        go_enter Try.func4, Try.ntmps4
        go_wp2_with (first | ((with_reducible refine gate_callee (f := 13) rfl ?_); refine goesL_ (some 5) rfl rfl Try.func13 (by kernel_rfl) rfl #[] rfl (by (try simp only [List.map_toArray, List.map_cons, List.map_nil]); first | done | rfl | (simp only [List.length_drop, List.length_take]; rfl)) ?_; (with_reducible refine (joinerylaw2_known.calls  true _ A2.out).mono ?_); rintro e w8 ⟨rfl, hb⟩; refine ⟨_, rfl, ?_⟩; have n0_ := Aside0.mk (below_step (by repeat (first | (with_reducible first | exact HB.out | apply below_alloc | apply pw_below_drewN | apply below_drew1) | exact HB.out)) hb); clear HB; have HB := n0_; clear n0_; (try clear hb); (try clear hb2); (try clear hk); (try clear hi)) | ((with_reducible refine gate_dst (N := 7) rfl ?_); refine Kd.R_lit Kd.string _ 9 ?hg (N := 7) ?hd (xs := ([(⟨#[97]⟩ : ByteArray), (⟨#[122, 57]⟩ : ByteArray), (⟨#[206, 177, 206, 178, 206, 179, 206, 180, 206, 181, 206, 182, 206, 183, 206, 184]⟩ : ByteArray), (⟨#[97, 98, 99, 100, 101, 102, 103, 104]⟩ : ByteArray), (⟨#[97, 48, 98, 49, 99, 50, 100, 51]⟩ : ByteArray), (⟨#[207, 137]⟩ : ByteArray), (⟨#[207, 130]⟩ : ByteArray), (⟨#[206, 177, 206, 178, 206, 179, 206, 180, 206, 181, 206, 182, 206, 183, 206, 184, 206, 185]⟩ : ByteArray), (⟨#[97, 98, 99, 100, 101, 102, 103, 104, 105]⟩ : ByteArray), (⟨#[57, 97]⟩ : ByteArray), (⟨#[48]⟩ : ByteArray), (⟨#[65]⟩ : ByteArray), (⟨#[206, 145]⟩ : ByteArray), (⟨#[206, 172]⟩ : ByteArray), (⟨#[207, 138]⟩ : ByteArray), (⟨#[97, 32, 98]⟩ : ByteArray), (⟨#[97, 45, 98]⟩ : ByteArray), (⟨#[206]⟩ : ByteArray), (⟨#[97, 177]⟩ : ByteArray), (⟨#[97, 239, 191, 189]⟩ : ByteArray), (⟨#[]⟩ : ByteArray), (⟨#[195, 169]⟩ : ByteArray), (⟨#[206, 176]⟩ : ByteArray), (⟨#[207, 144]⟩ : ByteArray)] : List ByteArray)) (inner := [.string (⟨#[97]⟩ : ByteArray), .string (⟨#[122, 57]⟩ : ByteArray), .string (⟨#[206, 177, 206, 178, 206, 179, 206, 180, 206, 181, 206, 182, 206, 183, 206, 184]⟩ : ByteArray), .string (⟨#[97, 98, 99, 100, 101, 102, 103, 104]⟩ : ByteArray), .string (⟨#[97, 48, 98, 49, 99, 50, 100, 51]⟩ : ByteArray), .string (⟨#[207, 137]⟩ : ByteArray), .string (⟨#[207, 130]⟩ : ByteArray), .string (⟨#[206, 177, 206, 178, 206, 179, 206, 180, 206, 181, 206, 182, 206, 183, 206, 184, 206, 185]⟩ : ByteArray), .string (⟨#[97, 98, 99, 100, 101, 102, 103, 104, 105]⟩ : ByteArray), .string (⟨#[57, 97]⟩ : ByteArray), .string (⟨#[48]⟩ : ByteArray), .string (⟨#[65]⟩ : ByteArray), .string (⟨#[206, 145]⟩ : ByteArray), .string (⟨#[206, 172]⟩ : ByteArray), .string (⟨#[207, 138]⟩ : ByteArray), .string (⟨#[97, 32, 98]⟩ : ByteArray), .string (⟨#[97, 45, 98]⟩ : ByteArray), .string (⟨#[206]⟩ : ByteArray), .string (⟨#[97, 177]⟩ : ByteArray), .string (⟨#[97, 239, 191, 189]⟩ : ByteArray), .string (⟨#[]⟩ : ByteArray), .string (⟨#[195, 169]⟩ : ByteArray), .string (⟨#[206, 176]⟩ : ByteArray), .string (⟨#[207, 144]⟩ : ByteArray)]) (ok := fun _ => True) (okp := fun _ => True) ?hr ?hp (fun _ hk => hk) trivial (Below.refl _ _) (Nat.le_refl _) (by simp) ?_; (case hd => rfl); (case hg => rfl); (case hr => first | (go_simp; done) | (go_simp; rfl)); (case hp => exact (Reps.one (show Kd.M Kd.string _ _ _ (⟨#[97]⟩ : ByteArray) [.string (⟨#[97]⟩ : ByteArray)] from rfl) (Reps.one (show Kd.M Kd.string _ _ _ (⟨#[122, 57]⟩ : ByteArray) [.string (⟨#[122, 57]⟩ : ByteArray)] from rfl) (Reps.one (show Kd.M Kd.string _ _ _ (⟨#[206, 177, 206, 178, 206, 179, 206, 180, 206, 181, 206, 182, 206, 183, 206, 184]⟩ : ByteArray) [.string (⟨#[206, 177, 206, 178, 206, 179, 206, 180, 206, 181, 206, 182, 206, 183, 206, 184]⟩ : ByteArray)] from rfl) (Reps.one (show Kd.M Kd.string _ _ _ (⟨#[97, 98, 99, 100, 101, 102, 103, 104]⟩ : ByteArray) [.string (⟨#[97, 98, 99, 100, 101, 102, 103, 104]⟩ : ByteArray)] from rfl) (Reps.one (show Kd.M Kd.string _ _ _ (⟨#[97, 48, 98, 49, 99, 50, 100, 51]⟩ : ByteArray) [.string (⟨#[97, 48, 98, 49, 99, 50, 100, 51]⟩ : ByteArray)] from rfl) (Reps.one (show Kd.M Kd.string _ _ _ (⟨#[207, 137]⟩ : ByteArray) [.string (⟨#[207, 137]⟩ : ByteArray)] from rfl) (Reps.one (show Kd.M Kd.string _ _ _ (⟨#[207, 130]⟩ : ByteArray) [.string (⟨#[207, 130]⟩ : ByteArray)] from rfl) (Reps.one (show Kd.M Kd.string _ _ _ (⟨#[206, 177, 206, 178, 206, 179, 206, 180, 206, 181, 206, 182, 206, 183, 206, 184, 206, 185]⟩ : ByteArray) [.string (⟨#[206, 177, 206, 178, 206, 179, 206, 180, 206, 181, 206, 182, 206, 183, 206, 184, 206, 185]⟩ : ByteArray)] from rfl) (Reps.one (show Kd.M Kd.string _ _ _ (⟨#[97, 98, 99, 100, 101, 102, 103, 104, 105]⟩ : ByteArray) [.string (⟨#[97, 98, 99, 100, 101, 102, 103, 104, 105]⟩ : ByteArray)] from rfl) (Reps.one (show Kd.M Kd.string _ _ _ (⟨#[57, 97]⟩ : ByteArray) [.string (⟨#[57, 97]⟩ : ByteArray)] from rfl) (Reps.one (show Kd.M Kd.string _ _ _ (⟨#[48]⟩ : ByteArray) [.string (⟨#[48]⟩ : ByteArray)] from rfl) (Reps.one (show Kd.M Kd.string _ _ _ (⟨#[65]⟩ : ByteArray) [.string (⟨#[65]⟩ : ByteArray)] from rfl) (Reps.one (show Kd.M Kd.string _ _ _ (⟨#[206, 145]⟩ : ByteArray) [.string (⟨#[206, 145]⟩ : ByteArray)] from rfl) (Reps.one (show Kd.M Kd.string _ _ _ (⟨#[206, 172]⟩ : ByteArray) [.string (⟨#[206, 172]⟩ : ByteArray)] from rfl) (Reps.one (show Kd.M Kd.string _ _ _ (⟨#[207, 138]⟩ : ByteArray) [.string (⟨#[207, 138]⟩ : ByteArray)] from rfl) (Reps.one (show Kd.M Kd.string _ _ _ (⟨#[97, 32, 98]⟩ : ByteArray) [.string (⟨#[97, 32, 98]⟩ : ByteArray)] from rfl) (Reps.one (show Kd.M Kd.string _ _ _ (⟨#[97, 45, 98]⟩ : ByteArray) [.string (⟨#[97, 45, 98]⟩ : ByteArray)] from rfl) (Reps.one (show Kd.M Kd.string _ _ _ (⟨#[206]⟩ : ByteArray) [.string (⟨#[206]⟩ : ByteArray)] from rfl) (Reps.one (show Kd.M Kd.string _ _ _ (⟨#[97, 177]⟩ : ByteArray) [.string (⟨#[97, 177]⟩ : ByteArray)] from rfl) (Reps.one (show Kd.M Kd.string _ _ _ (⟨#[97, 239, 191, 189]⟩ : ByteArray) [.string (⟨#[97, 239, 191, 189]⟩ : ByteArray)] from rfl) (Reps.one (show Kd.M Kd.string _ _ _ (⟨#[]⟩ : ByteArray) [.string (⟨#[]⟩ : ByteArray)] from rfl) (Reps.one (show Kd.M Kd.string _ _ _ (⟨#[195, 169]⟩ : ByteArray) [.string (⟨#[195, 169]⟩ : ByteArray)] from rfl) (Reps.one (show Kd.M Kd.string _ _ _ (⟨#[206, 176]⟩ : ByteArray) [.string (⟨#[206, 176]⟩ : ByteArray)] from rfl) (Reps.one (show Kd.M Kd.string _ _ _ (⟨#[207, 144]⟩ : ByteArray) [.string (⟨#[207, 144]⟩ : ByteArray)] from rfl) (Reps.none _ _)))))))))))))))))))))))))); intro v130 w9 ho10 hb hg_ hnew_; clear hg_ hnew_; (first | rw [← Ny129.out] at ho10 | (simp only [Int.reduceToNat] at ho10; rw [← Ny129.out] at ho10)); have n0_ := Aside0.mk (Kd.R_lower ho10 (below_size (by repeat (first | (with_reducible first | exact HB.out | apply below_alloc | apply pw_below_drewN | apply below_drew1) | exact HB.out)))); have n1_ := Aside0.mk (below_step (by repeat (first | (with_reducible first | exact HB.out | apply below_alloc | apply pw_below_drewN | apply below_drew1) | exact HB.out)) hb); clear HB; have HO131 := n0_; have HB := n1_; clear n0_ n1_; clear hb ho10; obtain ⟨Ao11, co11, eo11⟩ := Kd.R_slice HO131.out; subst eo11) | ((with_reducible refine gate_callee (f := 15) rfl ?_); refine goesL_ (some 11) rfl rfl Try.func15 (by kernel_rfl) rfl #[.int .i64 a0, .int .i64 (y129.length : Int)] rfl (by (try simp only [List.map_toArray, List.map_cons, List.map_nil]); first | done | rfl | (simp only [List.length_drop, List.length_take]; rfl)) ?_; (with_reducible refine (joinerylaw2_within.calls a0 (y129.length : Int) t132 _ A4.out).mono ?_); rintro e w' ⟨rfl, ⟨nd, rfl⟩⟩; refine ⟨_, rfl, ?_⟩; have p133 : 0 ≤ (t132 : Int) := of_decide_eq_true (by first | (with_reducible assumption) | assumption); have q133 : t132 < (y129.length : Int) := of_decide_eq_true (by first | (with_reducible assumption) | assumption); obtain ⟨ad133, e133, hx133_0⟩ := Kd.at_string (Kd.R_reads' HO131.out).2.2 t132 p133 q133; cases e133; replace p133 := eq_true p133; replace q133 := eq_true q133) | ((with_reducible refine gate_callee (f := 16) rfl ?_); refine goesL_ (some 16) rfl rfl Try.func16 (by kernel_rfl) rfl #[.string (rdOf ByteArray.empty y129 t132)] rfl (by (try simp only [List.map_toArray, List.map_cons, List.map_nil]); first | done | rfl | (simp only [List.length_drop, List.length_take]; rfl)) ?_; (with_reducible refine (mark_Name.calls (rdOf ByteArray.empty y129 t132) t134 _ A7.out).mono ?_); rintro e w12 ⟨rfl, hb⟩; refine ⟨_, rfl, ?_⟩; have n0_ := Aside0.mk (Kd.R_below (by (with_reducible repeat (first | apply Kd.R_alloc | apply Kd.R_drewN | apply Kd.R_drew)); exact HO131.out) hb); have n1_ := Aside0.mk (below_step (by repeat (first | (with_reducible first | exact HB.out | apply below_alloc | apply pw_below_drewN | apply below_drew1) | exact HB.out)) hb); clear HO131; clear HB; have HO131 := n0_; have HB := n1_; clear n0_ n1_; (try clear hb); (try clear hb2); (try clear hk); (try clear hi)))
        go_ret
        exact ⟨by first | rfl | (simp [errW_none, errW_some] <;> rfl) | (simp [*, errW_none, errW_some] <;> rfl), by repeat (first | (with_reducible first | exact HB.out | apply below_alloc | apply pw_below_drewN | apply below_drew1) | exact HB.out)⟩
      · rw [if_neg c6] at H
        exact absurd H (by simp)
    · rw [if_neg c5] at H
      exact absurd H (by simp)
  · replace c3 := Bool.eq_false_iff.mpr c3
    subst c3
    have H1 : (some false) = some r := by rw [if_neg (show ¬ (false = true) by decide)] at H; exact H
    clear H
    have H := H1
    clear H1
    obtain rfl := Option.some.inj H
    go_enter Try.func4, Try.ntmps4
    go_wp2_with (first | ((with_reducible refine gate_callee (f := 13) rfl ?_); refine goesL_ (some 5) rfl rfl Try.func13 (by kernel_rfl) rfl #[] rfl (by (try simp only [List.map_toArray, List.map_cons, List.map_nil]); first | done | rfl | (simp only [List.length_drop, List.length_take]; rfl)) ?_; (with_reducible refine (joinerylaw2_known.calls  false _ A2.out).mono ?_); rintro e w13 ⟨rfl, hb⟩; refine ⟨_, rfl, ?_⟩; have n0_ := Aside0.mk (below_step (by repeat (first | (with_reducible first | exact HB.out | apply below_alloc | apply pw_below_drewN | apply below_drew1) | exact HB.out)) hb); clear HB; have HB := n0_; clear n0_; (try clear hb); (try clear hb2); (try clear hk); (try clear hi)))
    go_ret
    exact ⟨by first | rfl | (simp [errW_none, errW_some] <;> rfl) | (simp [*, errW_none, errW_some] <;> rfl), by repeat (first | (with_reducible first | exact HB.out | apply below_alloc | apply pw_below_drewN | apply below_drew1) | exact HB.out)⟩

/-- THE ONE PURE STATEMENT of joinerylaw2_MarkKnown: yours. -/
def joinerylaw2_MarkKnown.Pure : Prop := ∀ (a0 : Int), (Lit.int .i64 a0).wf = true → joinerylaw2_MarkKnown.f a0 = some true
theorem joinerylaw2_MarkKnown.walk (P : joinerylaw2_MarkKnown.Pure) (a0 : Int) (w : World) (w0 : (Lit.int .i64 a0).wf = true) :
    Calls Try.prog 4 #[.int .i64 a0] w fun e w' => e = .returned (.bool true) ∧ Below w.heap.size w w' := by
  have h := P a0 w0
  refine (joinerylaw2_MarkKnown.calls a0 true w h).mono ?_
  rintro e w' ⟨rfl, hd⟩
  exact ⟨rfl, hd⟩

/-! ### joinerylaw2_MarkRunes: function 5 -/
mutual
def joinerylaw2_MarkRunes.j1 : Nat → List Int → Int → ByteArray → Int → Option (Bool)
  | 0, _, _, _, _ => none
  | k + 1, x1, x2, x7, x8 => joinerylaw2_MarkRunes.l1 k x1 x2 x7 x8 (⟨#[]⟩ : ByteArray) 0
def joinerylaw2_MarkRunes.j3 : Nat → Int → ByteArray → Int → ByteArray → Option (Bool)
  | 0, _, _, _, _ => none
  | k + 1, x2, x7, x8, x10 => (joinerylaw2_within.f x2 7).bind fun t148 => ((mark_Runes.f x7).bind fun t149 => (if t149 = x8 then (if x7.size + x10.size ≤ 9223372036854775807 then ((mark_Runes.f (x7 ++ x10)).bind fun t150 => ((mark_Runes.f x10).bind fun t151 => (if t150 = (wrap64 (x8 + t151)) then (if 0 ≤ t148 then (if t148 ≤ 6 then ((mark_Runes.f ((⟨#[206, 177, 206, 178, 206, 179]⟩ : ByteArray).extract 0 (t148 : Int).toNat)).bind fun t152 => (some (t152 == (wrap64 (Int.tdiv (wrap64 (t148 + 1)) 2))))) else (none)) else (none)) else (some false)))) else (none)) else (some false)))
def joinerylaw2_MarkRunes.l1 : Nat → List Int → Int → ByteArray → Int → ByteArray → Int → Option (Bool)
  | 0, _, _, _, _, _, _ => none
  | k + 1, x1, x2, x7, x8, x10, x11 => if x11 < (x1.length : Int) then (if x11 < 30 then ((some (([(⟨#[98]⟩ : ByteArray), (⟨#[207, 137]⟩ : ByteArray), (⟨#[237, 149, 156]⟩ : ByteArray), (⟨#[240, 157, 132, 158]⟩ : ByteArray)] : List ByteArray) : List ByteArray)).bind fun y142 => (if 0 ≤ x11 then ((joinerylaw2_within.f (rd x1 x11) 4).bind fun t146 => (if 0 ≤ t146 then (if t146 < (y142.length : Int) then (if x10.size + (rdOf ByteArray.empty y142 t146).size ≤ 9223372036854775807 then (joinerylaw2_MarkRunes.l1 k x1 x2 x7 x8 (x10 ++ (rdOf ByteArray.empty y142 t146)) (wrap64 (x11 + 1))) else (none)) else (none)) else (none))) else (none))) else (joinerylaw2_MarkRunes.j3 k x2 x7 x8 x10)) else (joinerylaw2_MarkRunes.j3 k x2 x7 x8 x10)
def joinerylaw2_MarkRunes.l0 : Nat → List Int → List Int → Int → ByteArray → Int → Int → Option (Bool)
  | 0, _, _, _, _, _, _ => none
  | k + 1, x0, x1, x2, x7, x8, x9 => if x9 < (x0.length : Int) then (if x9 < 30 then ((some (([(⟨#[97]⟩ : ByteArray), (⟨#[206, 177]⟩ : ByteArray), (⟨#[226, 130, 172]⟩ : ByteArray), (⟨#[240, 159, 152, 128]⟩ : ByteArray), (⟨#[255]⟩ : ByteArray), (⟨#[32]⟩ : ByteArray)] : List ByteArray) : List ByteArray)).bind fun y136 => (if 0 ≤ x9 then ((joinerylaw2_within.f (rd x0 x9) 6).bind fun t140 => (if 0 ≤ t140 then (if t140 < (y136.length : Int) then (if x7.size + (rdOf ByteArray.empty y136 t140).size ≤ 9223372036854775807 then (joinerylaw2_MarkRunes.l0 k x0 x1 x2 (x7 ++ (rdOf ByteArray.empty y136 t140)) (wrap64 (x8 + 1)) (wrap64 (x9 + 1))) else (none)) else (none)) else (none))) else (none))) else (joinerylaw2_MarkRunes.j1 k x1 x2 x7 x8)) else (joinerylaw2_MarkRunes.j1 k x1 x2 x7 x8)
end
def joinerylaw2_MarkRunes.f (k : Nat) (l0 : List Int) (l1 : List Int) (a2 : Int) : Option (Bool) := (joinerylaw2_known.f).bind fun t135 => (if t135 = true then (joinerylaw2_MarkRunes.l0 k l0 l1 a2 (⟨#[]⟩ : ByteArray) 0 0) else (some false))
theorem joinerylaw2_MarkRunes.mono_l : ∀ k, (∀ y0 y1 y2 y3, LeO (joinerylaw2_MarkRunes.j1 k y0 y1 y2 y3) (joinerylaw2_MarkRunes.j1 (k + 1) y0 y1 y2 y3)) ∧ (∀ y0 y1 y2 y3, LeO (joinerylaw2_MarkRunes.j3 k y0 y1 y2 y3) (joinerylaw2_MarkRunes.j3 (k + 1) y0 y1 y2 y3)) ∧ (∀ y0 y1 y2 y3 y4 y5, LeO (joinerylaw2_MarkRunes.l1 k y0 y1 y2 y3 y4 y5) (joinerylaw2_MarkRunes.l1 (k + 1) y0 y1 y2 y3 y4 y5)) ∧ (∀ y0 y1 y2 y3 y4 y5, LeO (joinerylaw2_MarkRunes.l0 k y0 y1 y2 y3 y4 y5) (joinerylaw2_MarkRunes.l0 (k + 1) y0 y1 y2 y3 y4 y5))
  | 0 => ⟨fun _ _ _ _ r h => by simp [joinerylaw2_MarkRunes.j1] at h, fun _ _ _ _ r h => by simp [joinerylaw2_MarkRunes.j3] at h, fun _ _ _ _ _ _ r h => by simp [joinerylaw2_MarkRunes.l1] at h, fun _ _ _ _ _ _ r h => by simp [joinerylaw2_MarkRunes.l0] at h⟩
  | k + 1 => by
    obtain ⟨ih0, ih1, ih2, ih3⟩ := joinerylaw2_MarkRunes.mono_l k
    refine ⟨?_, ?_, ?_, ?_⟩
    · intro y0 y1 y2 y3
      unfold joinerylaw2_MarkRunes.j1
      repeat' first
      | (with_reducible exact ih0 _ _ _ _)
      | (with_reducible exact ih1 _ _ _ _)
      | (with_reducible exact ih2 _ _ _ _ _ _)
      | (with_reducible exact ih3 _ _ _ _ _ _)
      | (with_reducible exact LeO.refl _)
      | (with_reducible exact LeO.none _)
      | (with_reducible refine LeO.ite ?_ ?_)
      | (with_reducible refine LeO.bind ?_ (fun _ => ?_))
      | exact ih0 _ _ _ _
      | exact ih1 _ _ _ _
      | exact ih2 _ _ _ _ _ _
      | exact ih3 _ _ _ _ _ _
      | exact LeO.none _
      | refine LeO.ite ?_ ?_
      | refine LeO.bind ?_ (fun _ => ?_)
    · intro y0 y1 y2 y3
      unfold joinerylaw2_MarkRunes.j3
      repeat' first
      | (with_reducible exact ih0 _ _ _ _)
      | (with_reducible exact ih1 _ _ _ _)
      | (with_reducible exact ih2 _ _ _ _ _ _)
      | (with_reducible exact ih3 _ _ _ _ _ _)
      | (with_reducible exact LeO.refl _)
      | (with_reducible exact LeO.none _)
      | (with_reducible refine LeO.ite ?_ ?_)
      | (with_reducible refine LeO.bind ?_ (fun _ => ?_))
      | exact ih0 _ _ _ _
      | exact ih1 _ _ _ _
      | exact ih2 _ _ _ _ _ _
      | exact ih3 _ _ _ _ _ _
      | exact LeO.none _
      | refine LeO.ite ?_ ?_
      | refine LeO.bind ?_ (fun _ => ?_)
    · intro y0 y1 y2 y3 y4 y5
      unfold joinerylaw2_MarkRunes.l1
      repeat' first
      | (with_reducible exact ih0 _ _ _ _)
      | (with_reducible exact ih1 _ _ _ _)
      | (with_reducible exact ih2 _ _ _ _ _ _)
      | (with_reducible exact ih3 _ _ _ _ _ _)
      | (with_reducible exact LeO.refl _)
      | (with_reducible exact LeO.none _)
      | (with_reducible refine LeO.ite ?_ ?_)
      | (with_reducible refine LeO.bind ?_ (fun _ => ?_))
      | exact ih0 _ _ _ _
      | exact ih1 _ _ _ _
      | exact ih2 _ _ _ _ _ _
      | exact ih3 _ _ _ _ _ _
      | exact LeO.none _
      | refine LeO.ite ?_ ?_
      | refine LeO.bind ?_ (fun _ => ?_)
    · intro y0 y1 y2 y3 y4 y5
      unfold joinerylaw2_MarkRunes.l0
      repeat' first
      | (with_reducible exact ih0 _ _ _ _)
      | (with_reducible exact ih1 _ _ _ _)
      | (with_reducible exact ih2 _ _ _ _ _ _)
      | (with_reducible exact ih3 _ _ _ _ _ _)
      | (with_reducible exact LeO.refl _)
      | (with_reducible exact LeO.none _)
      | (with_reducible refine LeO.ite ?_ ?_)
      | (with_reducible refine LeO.bind ?_ (fun _ => ?_))
      | exact ih0 _ _ _ _
      | exact ih1 _ _ _ _
      | exact ih2 _ _ _ _ _ _
      | exact ih3 _ _ _ _ _ _
      | exact LeO.none _
      | refine LeO.ite ?_ ?_
      | refine LeO.bind ?_ (fun _ => ?_)
theorem joinerylaw2_MarkRunes.mono : ∀ a0 a1 a2 k, LeO (joinerylaw2_MarkRunes.f k a0 a1 a2) (joinerylaw2_MarkRunes.f (k + 1) a0 a1 a2) := by
  intro a0 a1 a2 k
  obtain ⟨ih0, ih1, ih2, ih3⟩ := joinerylaw2_MarkRunes.mono_l k
  unfold joinerylaw2_MarkRunes.f
  repeat' first
      | (with_reducible exact ih0 _ _ _ _)
      | (with_reducible exact ih1 _ _ _ _)
      | (with_reducible exact ih2 _ _ _ _ _ _)
      | (with_reducible exact ih3 _ _ _ _ _ _)
      | (with_reducible exact LeO.refl _)
      | (with_reducible exact LeO.none _)
      | (with_reducible refine LeO.ite ?_ ?_)
      | (with_reducible refine LeO.bind ?_ (fun _ => ?_))
      | exact ih0 _ _ _ _
      | exact ih1 _ _ _ _
      | exact ih2 _ _ _ _ _ _
      | exact ih3 _ _ _ _ _ _
      | exact LeO.none _
      | refine LeO.ite ?_ ?_
      | refine LeO.bind ?_ (fun _ => ?_)
set_option maxHeartbeats 8000000 in
set_option maxRecDepth 100000 in
theorem joinerylaw2_MarkRunes.calls (k : Nat) (A0 : Option Addr) (c0 : Nat) (l0 : List Int) (A1 : Option Addr) (c1 : Nat) (l1 : List Int) (a2 : Int) (r : Bool) (w : World) (hr0 : Kd.C (Kd.int .i64) w A0 l0.length l0) (hc0 : l0.length ≤ c0) (hr1 : Kd.C (Kd.int .i64) w A1 l1.length l1) (hc1 : l1.length ≤ c1) (h : joinerylaw2_MarkRunes.f k l0 l1 a2 = some r) :
    Calls Try.prog 5 #[.slice A0 l0.length c0, .slice A1 l1.length c1, .int .i64 a2] w fun e w' => e = .returned (.bool r) ∧ Below w.heap.size w w' := by
  have HR0 := Aside0.mk hr0
  have HC0 := Aside0.mk hc0
  clear hr0 hc0
  have HR1 := Aside0.mk hr1
  have HC1 := Aside0.mk hc1
  clear hr1 hc1
  have HB := Aside0.mk (Below.refl w.heap.size w)
  have H : ((joinerylaw2_known.f).bind fun t135 => (if t135 = true then (joinerylaw2_MarkRunes.l0 k l0 l1 a2 (⟨#[]⟩ : ByteArray) 0 0) else (some false))) = some r := h
  clear h
  replace H := Option.bind_eq_some_iff.mp H
  obtain ⟨t135, A40, H⟩ := H
  replace H : (if t135 = true then (joinerylaw2_MarkRunes.l0 k l0 l1 a2 (⟨#[]⟩ : ByteArray) 0 0) else (some false)) = some r := H
  have A4 := Aside0.mk A40
  clear A40
  by_cases c5 : t135 = true
  · subst c5
    have H1 : (joinerylaw2_MarkRunes.l0 k l0 l1 a2 (⟨#[]⟩ : ByteArray) 0 0) = some r := by rw [if_pos rfl] at H; exact H
    clear H
    have H := H1
    clear H1
    have HC6 := Aside0.mk H
    clear H
    go_enter Try.func5, Try.ntmps5
    go_upto_block 0 with (first | ((with_reducible refine gate_callee (f := 13) rfl ?_); refine goesL_ (some 13) rfl rfl Try.func13 (by kernel_rfl) rfl #[] rfl (by (try simp only [List.map_toArray, List.map_cons, List.map_nil]); first | done | rfl | (simp only [List.length_drop, List.length_take]; rfl)) ?_; (with_reducible refine (joinerylaw2_known.calls  true _ A4.out).mono ?_); rintro e w7 ⟨rfl, hb⟩; refine ⟨_, rfl, ?_⟩; have n0_ := Aside0.mk (below_step (by repeat (first | (with_reducible first | exact HB.out | apply below_alloc | apply pw_below_drewN | apply below_drew1) | exact HB.out)) hb); clear HB; have HB := n0_; clear n0_; (try clear hb); (try clear hb2); (try clear hk); (try clear hi)))
    (try simp only [Act.put, List.setIfInBounds_toArray, List.set_cons_zero, List.set_cons_succ])
    go_cut [7, 8] (fun v7 v8 wc => ∃ (kq : Nat) (x7_5 : ByteArray) (x8_5 : Int), v7 = .string x7_5 ∧ v8 = .int .i64 x8_5 ∧ Aside0 (joinerylaw2_MarkRunes.j1 kq l1 a2 x7_5 x8_5 = some r) ∧ Aside0 (kq ≤ k) ∧ Aside0 (Below w.heap.size w wc))
    case first =>
      have H := HC6.out
      clear HC6
      have H' := Aside0.mk H
      clear H
      go_wp2
      go_loopg [7, 8, 9] k (fun kq v7 v8 v9 w' => ∃ (x7_1 : ByteArray) (x8_1 : Int) (x9_1 : Int), v7 = .string x7_1 ∧ v8 = .int .i64 x8_1 ∧ v9 = .int .i64 x9_1 ∧ Aside0 (joinerylaw2_MarkRunes.l0 kq l0 l1 a2 x7_1 x8_1 x9_1 = some r) ∧ Aside0 (kq ≤ k) ∧ Aside0 (Below w.heap.size w w'))
      case atStart => exact ⟨((⟨#[]⟩ : ByteArray)), (0), (0), (by first | rfl | (simp; done) | (simp [*]; done)), (by first | rfl | (simp; done) | (simp [*]; done)), (by first | rfl | (simp; done) | (simp [*]; done)), H', ⟨Nat.le_refl _⟩, ⟨by repeat (first | (with_reducible first | exact HB.out | apply below_alloc | apply pw_below_drewN | apply below_drew1) | exact HB.out)⟩⟩
      case round =>
        clear H'
        try clear c1
        try clear p2
        try clear c5
        obtain ⟨x7_1, x8_1, x9_1, rfl, rfl, rfl, HA, HK1, HB⟩ := hrel
        cases gk with
        | zero => exact absurd HA.out (by simp [joinerylaw2_MarkRunes.l0])
        | succ k1 =>
          have H := HA.out
          clear HA
          simp only [joinerylaw2_MarkRunes.l0] at H
          by_cases c8 : x9_1 < (l0.length : Int)
          · rw [if_pos c8] at H
            have c8b0 : decide (x9_1 < (l0.length : Int)) = true := decide_eq_true c8
            clear c8
            (first | rw [c8b0] | (simp only [i64_w, i32_w]; rw [c8b0]) | skip)
            by_cases c9 : x9_1 < 30
            · rw [if_pos c9] at H
              have c9b0 : decide (x9_1 < 30) = true := decide_eq_true c9
              clear c9
              obtain ⟨y136, hy136⟩ : ∃ y_ : List ByteArray, y_ = (([(⟨#[97]⟩ : ByteArray), (⟨#[206, 177]⟩ : ByteArray), (⟨#[226, 130, 172]⟩ : ByteArray), (⟨#[240, 159, 152, 128]⟩ : ByteArray), (⟨#[255]⟩ : ByteArray), (⟨#[32]⟩ : ByteArray)] : List ByteArray)) := ⟨_, rfl⟩
              replace H : (if 0 ≤ x9_1 then ((joinerylaw2_within.f (rd l0 x9_1) 6).bind fun t140 => (if 0 ≤ t140 then (if t140 < (y136.length : Int) then (if x7_1.size + (rdOf ByteArray.empty y136 t140).size ≤ 9223372036854775807 then (joinerylaw2_MarkRunes.l0 k1 l0 l1 a2 (x7_1 ++ (rdOf ByteArray.empty y136 t140)) (wrap64 (x8_1 + 1)) (wrap64 (x9_1 + 1))) else (none)) else (none)) else (none))) else (none)) = some r := by first | (rw [hy136]; with_reducible exact H) | (have H2_ := (Option.bind_some _ _).symm.trans H; rw [hy136]; with_reducible exact H2_) | (have H2_ := (Option.bind_some _ _).symm.trans H; with_reducible exact H2_) | with_reducible exact H | (rw [hy136]; exact H) | exact H
              have Ny136 := Aside0.mk hy136
              clear hy136
              by_cases c10 : 0 ≤ x9_1
              · rw [if_pos c10] at H
                have c10b0 : decide (0 ≤ x9_1) = true := decide_eq_true c10
                clear c10
                replace H := Option.bind_eq_some_iff.mp H
                obtain ⟨t140, A110, H⟩ := H
                replace H : (if 0 ≤ t140 then (if t140 < (y136.length : Int) then (if x7_1.size + (rdOf ByteArray.empty y136 t140).size ≤ 9223372036854775807 then (joinerylaw2_MarkRunes.l0 k1 l0 l1 a2 (x7_1 ++ (rdOf ByteArray.empty y136 t140)) (wrap64 (x8_1 + 1)) (wrap64 (x9_1 + 1))) else (none)) else (none)) else (none)) = some r := H
                have A11 := Aside0.mk A110
                clear A110
                by_cases c12 : 0 ≤ t140
                · rw [if_pos c12] at H
                  have c12b0 : decide (0 ≤ t140) = true := decide_eq_true c12
                  clear c12
                  by_cases c13 : t140 < (y136.length : Int)
                  · rw [if_pos c13] at H
                    have c13b0 : decide (t140 < (y136.length : Int)) = true := decide_eq_true c13
                    clear c13
                    by_cases c14 : x7_1.size + (rdOf ByteArray.empty y136 t140).size ≤ 9223372036854775807
                    · rw [if_pos c14] at H
                      have c14b0 := eq_true c14
                      have c14b1 : decide (x7_1.size + (rdOf ByteArray.empty y136 t140).size ≤ 9223372036854775807) = true := decide_eq_true c14
                      try have c14b2 : (9223372036854775807 < x7_1.size + (rdOf ByteArray.empty y136 t140).size) = False := eq_false (Nat.not_lt.2 c14)
                      have H' := Aside0.mk H
                      clear H
                      go_wp2_with (first | ((with_reducible refine gate_dst (N := 26) rfl ?_); refine Kd.R_lit Kd.string _ 9 ?hg (N := 26) ?hd (xs := ([(⟨#[97]⟩ : ByteArray), (⟨#[206, 177]⟩ : ByteArray), (⟨#[226, 130, 172]⟩ : ByteArray), (⟨#[240, 159, 152, 128]⟩ : ByteArray), (⟨#[255]⟩ : ByteArray), (⟨#[32]⟩ : ByteArray)] : List ByteArray)) (inner := [.string (⟨#[97]⟩ : ByteArray), .string (⟨#[206, 177]⟩ : ByteArray), .string (⟨#[226, 130, 172]⟩ : ByteArray), .string (⟨#[240, 159, 152, 128]⟩ : ByteArray), .string (⟨#[255]⟩ : ByteArray), .string (⟨#[32]⟩ : ByteArray)]) (ok := fun _ => True) (okp := fun _ => True) ?hr ?hp (fun _ hk => hk) trivial (Below.refl _ _) (Nat.le_refl _) (by simp) ?_; (case hd => rfl); (case hg => rfl); (case hr => first | (go_simp; done) | (go_simp; rfl)); (case hp => exact (Reps.one (show Kd.M Kd.string _ _ _ (⟨#[97]⟩ : ByteArray) [.string (⟨#[97]⟩ : ByteArray)] from rfl) (Reps.one (show Kd.M Kd.string _ _ _ (⟨#[206, 177]⟩ : ByteArray) [.string (⟨#[206, 177]⟩ : ByteArray)] from rfl) (Reps.one (show Kd.M Kd.string _ _ _ (⟨#[226, 130, 172]⟩ : ByteArray) [.string (⟨#[226, 130, 172]⟩ : ByteArray)] from rfl) (Reps.one (show Kd.M Kd.string _ _ _ (⟨#[240, 159, 152, 128]⟩ : ByteArray) [.string (⟨#[240, 159, 152, 128]⟩ : ByteArray)] from rfl) (Reps.one (show Kd.M Kd.string _ _ _ (⟨#[255]⟩ : ByteArray) [.string (⟨#[255]⟩ : ByteArray)] from rfl) (Reps.one (show Kd.M Kd.string _ _ _ (⟨#[32]⟩ : ByteArray) [.string (⟨#[32]⟩ : ByteArray)] from rfl) (Reps.none _ _)))))))); intro v137 w15 ho16 hb hg_ hnew_; clear hg_ hnew_; (first | rw [← Ny136.out] at ho16 | (simp only [Int.reduceToNat] at ho16; rw [← Ny136.out] at ho16)); have n0_ := Aside0.mk (Kd.R_lower ho16 (below_size (by repeat (first | (with_reducible first | exact HB.out | apply below_alloc | apply pw_below_drewN | apply below_drew1) | exact HB.out)))); have n1_ := Aside0.mk (below_step (by repeat (first | (with_reducible first | exact HB.out | apply below_alloc | apply pw_below_drewN | apply below_drew1) | exact HB.out)) hb); clear HB; have HO138 := n0_; have HB := n1_; clear n0_ n1_; clear hb ho16; have p139 : 0 ≤ (x9_1 : Int) := of_decide_eq_true (by first | (with_reducible assumption) | assumption); have q139 : x9_1 < (l0.length : Int) := of_decide_eq_true (by first | (with_reducible assumption) | assumption); obtain ⟨ad139, e139, hx139_0⟩ := Kd.at_int HR0.out x9_1 p139 q139; cases e139; replace hx139_0 := (HB.out.cell (World.block_lt_of_cell? w _ hx139_0)).trans hx139_0; replace p139 := eq_true p139; replace q139 := eq_true q139) | ((with_reducible refine gate_callee (f := 15) rfl ?_); refine goesL_ (some 31) rfl rfl Try.func15 (by kernel_rfl) rfl #[.int .i64 (rd l0 x9_1), .int .i64 6] rfl (by (try simp only [List.map_toArray, List.map_cons, List.map_nil]); first | done | rfl | (simp only [List.length_drop, List.length_take]; rfl)) ?_; (with_reducible refine (joinerylaw2_within.calls (rd l0 x9_1) 6 t140 _ A11.out).mono ?_); rintro e w' ⟨rfl, ⟨nd, rfl⟩⟩; refine ⟨_, rfl, ?_⟩; obtain ⟨Ao17, co17, eo17⟩ := Kd.R_slice HO138.out; subst eo17; have p141 : 0 ≤ (t140 : Int) := of_decide_eq_true (by first | (with_reducible assumption) | assumption); have q141 : t140 < (y136.length : Int) := of_decide_eq_true (by first | (with_reducible assumption) | assumption); obtain ⟨ad141, e141, hx141_0⟩ := Kd.at_string (Kd.R_reads' HO138.out).2.2 t140 p141 q141; cases e141; replace p141 := eq_true p141; replace q141 := eq_true q141))
                      go_roundg k1
                      case measure => have := HK1.out; omega
                      case rel => exact ⟨(x7_1 ++ (rdOf ByteArray.empty y136 t140)), (wrap64 (x8_1 + 1)), (wrap64 (x9_1 + 1)), (by first | rfl | (simp; done) | (simp [*]; done)), (by first | rfl | (simp; done) | (simp [*]; done)), (by first | rfl | (simp; done) | (simp [*]; done)), H', ⟨by have := HK1.out; omega⟩, ⟨by repeat (first | (with_reducible first | exact HB.out | apply below_alloc | apply pw_below_drewN | apply below_drew1) | exact HB.out)⟩⟩
                    · rw [if_neg c14] at H
                      exact absurd H (by simp)
                  · rw [if_neg c13] at H
                    exact absurd H (by simp)
                · rw [if_neg c12] at H
                  exact absurd H (by simp)
              · rw [if_neg c10] at H
                exact absurd H (by simp)
            · rw [if_neg c9] at H
              have c9b0 : decide (x9_1 < 30) = false := decide_eq_false c9
              clear c9
              have H' := Aside0.mk H
              clear H
              go_wp2
              go_meet
              case rel => exact ⟨_, (x7_1), (x8_1), (by first | rfl | (simp; done) | (simp [*]; done)), (by first | rfl | (simp; done) | (simp [*]; done)), H', ⟨by have := HK1.out; first | omega | exact Nat.le_refl _⟩, ⟨by repeat (first | (with_reducible first | exact HB.out | apply below_alloc | apply pw_below_drewN | apply below_drew1) | exact HB.out)⟩⟩
          · rw [if_neg c8] at H
            have c8b0 : decide (x9_1 < (l0.length : Int)) = false := decide_eq_false c8
            clear c8
            (first | rw [c8b0] | (simp only [i64_w, i32_w]; rw [c8b0]) | skip)
            have H' := Aside0.mk H
            clear H
            go_wp2
            go_meet
            case rel => exact ⟨_, (x7_1), (x8_1), (by first | rfl | (simp; done) | (simp [*]; done)), (by first | rfl | (simp; done) | (simp [*]; done)), H', ⟨by have := HK1.out; first | omega | exact Nat.le_refl _⟩, ⟨by repeat (first | (with_reducible first | exact HB.out | apply below_alloc | apply pw_below_drewN | apply below_drew1) | exact HB.out)⟩⟩
    case rest =>
      clear HC6
      try clear c1
      try clear p1
      try clear q1
      try clear hx1
      try clear p2
      try clear c5
      try clear p6
      try clear c8
      try clear c8b0
      try clear c9
      try clear c9b0
      try clear c10
      try clear c10b0
      try clear c12
      try clear c12b0
      try clear c13
      try clear c13b0
      try clear p13
      try clear q13
      try clear hx13
      try clear c14
      try clear c14b0
      try clear c14b1
      try clear c14b2
      try clear p14
      try clear q14
      try clear hx14
      try clear c15
      try clear hx139_0
      try clear hx141_0
      try clear p139
      try clear p141
      try clear p2
      try clear q139
      try clear q141
      obtain ⟨kq, x7_5, x8_5, rfl, rfl, HA, HJ5, HB⟩ := hcut
      cases kq with
      | zero => exact absurd HA.out (by simp [joinerylaw2_MarkRunes.j1])
      | succ kj5 =>
        have H := HA.out
        clear HA
        simp only [joinerylaw2_MarkRunes.j1] at H
        have HC18 := Aside0.mk H
        clear H
        go_upto_block 2 with (fail)
        go_cut [10] (fun v10 wc => ∃ (kq : Nat) (x10_17 : ByteArray), v10 = .string x10_17 ∧ Aside0 (joinerylaw2_MarkRunes.j3 kq a2 x7_5 x8_5 x10_17 = some r) ∧ Aside0 (kq ≤ kj5) ∧ Aside0 (Below w.heap.size w wc))
        case first =>
          have H := HC18.out
          clear HC18
          have H' := Aside0.mk H
          clear H
          go_wp2
          go_loopg [10, 11] kj5 (fun kq v10 v11 w' => ∃ (x10_2 : ByteArray) (x11_2 : Int), v10 = .string x10_2 ∧ v11 = .int .i64 x11_2 ∧ Aside0 (joinerylaw2_MarkRunes.l1 kq l1 a2 x7_5 x8_5 x10_2 x11_2 = some r) ∧ Aside0 (kq ≤ kj5) ∧ Aside0 (Below w.heap.size w w'))
          case atStart => exact ⟨((⟨#[]⟩ : ByteArray)), (0), (by first | rfl | (simp; done) | (simp [*]; done)), (by first | rfl | (simp; done) | (simp [*]; done)), H', ⟨Nat.le_refl _⟩, ⟨by repeat (first | (with_reducible first | exact HB.out | apply below_alloc | apply pw_below_drewN | apply below_drew1) | exact HB.out)⟩⟩
          case round =>
            clear H'
            try clear c1
            try clear p1
            try clear q1
            try clear hx1
            try clear p2
            try clear c5
            try clear p6
            try clear c8
            try clear c8b0
            try clear c9
            try clear c9b0
            try clear c10
            try clear c10b0
            try clear c12
            try clear c12b0
            try clear c13
            try clear c13b0
            try clear p13
            try clear q13
            try clear hx13
            try clear c14
            try clear c14b0
            try clear c14b1
            try clear c14b2
            try clear p14
            try clear q14
            try clear hx14
            try clear c15
            try clear hx139_0
            try clear hx141_0
            try clear p1
            try clear p13
            try clear p139
            try clear p14
            try clear p141
            try clear p2
            try clear p6
            try clear q1
            try clear q13
            try clear q139
            try clear q14
            try clear q141
            obtain ⟨x10_2, x11_2, rfl, rfl, HA, HK2, HB⟩ := hrel
            cases gk with
            | zero => exact absurd HA.out (by simp [joinerylaw2_MarkRunes.l1])
            | succ k2 =>
              have H := HA.out
              clear HA
              simp only [joinerylaw2_MarkRunes.l1] at H
              by_cases c19 : x11_2 < (l1.length : Int)
              · rw [if_pos c19] at H
                have c19b0 : decide (x11_2 < (l1.length : Int)) = true := decide_eq_true c19
                clear c19
                (first | rw [c19b0] | (simp only [i64_w, i32_w]; rw [c19b0]) | skip)
                by_cases c20 : x11_2 < 30
                · rw [if_pos c20] at H
                  have c20b0 : decide (x11_2 < 30) = true := decide_eq_true c20
                  clear c20
                  obtain ⟨y142, hy142⟩ : ∃ y_ : List ByteArray, y_ = (([(⟨#[98]⟩ : ByteArray), (⟨#[207, 137]⟩ : ByteArray), (⟨#[237, 149, 156]⟩ : ByteArray), (⟨#[240, 157, 132, 158]⟩ : ByteArray)] : List ByteArray)) := ⟨_, rfl⟩
                  replace H : (if 0 ≤ x11_2 then ((joinerylaw2_within.f (rd l1 x11_2) 4).bind fun t146 => (if 0 ≤ t146 then (if t146 < (y142.length : Int) then (if x10_2.size + (rdOf ByteArray.empty y142 t146).size ≤ 9223372036854775807 then (joinerylaw2_MarkRunes.l1 k2 l1 a2 x7_5 x8_5 (x10_2 ++ (rdOf ByteArray.empty y142 t146)) (wrap64 (x11_2 + 1))) else (none)) else (none)) else (none))) else (none)) = some r := by first | (rw [hy142]; with_reducible exact H) | (have H2_ := (Option.bind_some _ _).symm.trans H; rw [hy142]; with_reducible exact H2_) | (have H2_ := (Option.bind_some _ _).symm.trans H; with_reducible exact H2_) | with_reducible exact H | (rw [hy142]; exact H) | exact H
                  have Ny142 := Aside0.mk hy142
                  clear hy142
                  by_cases c21 : 0 ≤ x11_2
                  · rw [if_pos c21] at H
                    have c21b0 : decide (0 ≤ x11_2) = true := decide_eq_true c21
                    clear c21
                    replace H := Option.bind_eq_some_iff.mp H
                    obtain ⟨t146, A220, H⟩ := H
                    replace H : (if 0 ≤ t146 then (if t146 < (y142.length : Int) then (if x10_2.size + (rdOf ByteArray.empty y142 t146).size ≤ 9223372036854775807 then (joinerylaw2_MarkRunes.l1 k2 l1 a2 x7_5 x8_5 (x10_2 ++ (rdOf ByteArray.empty y142 t146)) (wrap64 (x11_2 + 1))) else (none)) else (none)) else (none)) = some r := H
                    have A22 := Aside0.mk A220
                    clear A220
                    by_cases c23 : 0 ≤ t146
                    · rw [if_pos c23] at H
                      have c23b0 : decide (0 ≤ t146) = true := decide_eq_true c23
                      clear c23
                      by_cases c24 : t146 < (y142.length : Int)
                      · rw [if_pos c24] at H
                        have c24b0 : decide (t146 < (y142.length : Int)) = true := decide_eq_true c24
                        clear c24
                        by_cases c25 : x10_2.size + (rdOf ByteArray.empty y142 t146).size ≤ 9223372036854775807
                        · rw [if_pos c25] at H
                          have c25b0 := eq_true c25
                          have c25b1 : decide (x10_2.size + (rdOf ByteArray.empty y142 t146).size ≤ 9223372036854775807) = true := decide_eq_true c25
                          try have c25b2 : (9223372036854775807 < x10_2.size + (rdOf ByteArray.empty y142 t146).size) = False := eq_false (Nat.not_lt.2 c25)
                          have H' := Aside0.mk H
                          clear H
                          go_wp2_with (first | ((with_reducible refine gate_dst (N := 48) rfl ?_); refine Kd.R_lit Kd.string _ 9 ?hg (N := 48) ?hd (xs := ([(⟨#[98]⟩ : ByteArray), (⟨#[207, 137]⟩ : ByteArray), (⟨#[237, 149, 156]⟩ : ByteArray), (⟨#[240, 157, 132, 158]⟩ : ByteArray)] : List ByteArray)) (inner := [.string (⟨#[98]⟩ : ByteArray), .string (⟨#[207, 137]⟩ : ByteArray), .string (⟨#[237, 149, 156]⟩ : ByteArray), .string (⟨#[240, 157, 132, 158]⟩ : ByteArray)]) (ok := fun _ => True) (okp := fun _ => True) ?hr ?hp (fun _ hk => hk) trivial (Below.refl _ _) (Nat.le_refl _) (by simp) ?_; (case hd => rfl); (case hg => rfl); (case hr => first | (go_simp; done) | (go_simp; rfl)); (case hp => exact (Reps.one (show Kd.M Kd.string _ _ _ (⟨#[98]⟩ : ByteArray) [.string (⟨#[98]⟩ : ByteArray)] from rfl) (Reps.one (show Kd.M Kd.string _ _ _ (⟨#[207, 137]⟩ : ByteArray) [.string (⟨#[207, 137]⟩ : ByteArray)] from rfl) (Reps.one (show Kd.M Kd.string _ _ _ (⟨#[237, 149, 156]⟩ : ByteArray) [.string (⟨#[237, 149, 156]⟩ : ByteArray)] from rfl) (Reps.one (show Kd.M Kd.string _ _ _ (⟨#[240, 157, 132, 158]⟩ : ByteArray) [.string (⟨#[240, 157, 132, 158]⟩ : ByteArray)] from rfl) (Reps.none _ _)))))); intro v143 w26 ho27 hb hg_ hnew_; clear hg_ hnew_; (first | rw [← Ny142.out] at ho27 | (simp only [Int.reduceToNat] at ho27; rw [← Ny142.out] at ho27)); have n0_ := Aside0.mk (Kd.R_lower ho27 (below_size (by repeat (first | (with_reducible first | exact HB.out | apply below_alloc | apply pw_below_drewN | apply below_drew1) | exact HB.out)))); have n1_ := Aside0.mk (below_step (by repeat (first | (with_reducible first | exact HB.out | apply below_alloc | apply pw_below_drewN | apply below_drew1) | exact HB.out)) hb); clear HB; have HO144 := n0_; have HB := n1_; clear n0_ n1_; clear hb ho27; have p145 : 0 ≤ (x11_2 : Int) := of_decide_eq_true (by first | (with_reducible assumption) | assumption); have q145 : x11_2 < (l1.length : Int) := of_decide_eq_true (by first | (with_reducible assumption) | assumption); obtain ⟨ad145, e145, hx145_0⟩ := Kd.at_int HR1.out x11_2 p145 q145; cases e145; replace hx145_0 := (HB.out.cell (World.block_lt_of_cell? w _ hx145_0)).trans hx145_0; replace p145 := eq_true p145; replace q145 := eq_true q145) | ((with_reducible refine gate_callee (f := 15) rfl ?_); refine goesL_ (some 53) rfl rfl Try.func15 (by kernel_rfl) rfl #[.int .i64 (rd l1 x11_2), .int .i64 4] rfl (by (try simp only [List.map_toArray, List.map_cons, List.map_nil]); first | done | rfl | (simp only [List.length_drop, List.length_take]; rfl)) ?_; (with_reducible refine (joinerylaw2_within.calls (rd l1 x11_2) 4 t146 _ A22.out).mono ?_); rintro e w' ⟨rfl, ⟨nd, rfl⟩⟩; refine ⟨_, rfl, ?_⟩; obtain ⟨Ao28, co28, eo28⟩ := Kd.R_slice HO144.out; subst eo28; have p147 : 0 ≤ (t146 : Int) := of_decide_eq_true (by first | (with_reducible assumption) | assumption); have q147 : t146 < (y142.length : Int) := of_decide_eq_true (by first | (with_reducible assumption) | assumption); obtain ⟨ad147, e147, hx147_0⟩ := Kd.at_string (Kd.R_reads' HO144.out).2.2 t146 p147 q147; cases e147; replace p147 := eq_true p147; replace q147 := eq_true q147))
                          go_roundg k2
                          case measure => have := HJ5.out; have := HK2.out; omega
                          case rel => exact ⟨(x10_2 ++ (rdOf ByteArray.empty y142 t146)), (wrap64 (x11_2 + 1)), (by first | rfl | (simp; done) | (simp [*]; done)), (by first | rfl | (simp; done) | (simp [*]; done)), H', ⟨by have := HJ5.out; have := HK2.out; omega⟩, ⟨by repeat (first | (with_reducible first | exact HB.out | apply below_alloc | apply pw_below_drewN | apply below_drew1) | exact HB.out)⟩⟩
                        · rw [if_neg c25] at H
                          exact absurd H (by simp)
                      · rw [if_neg c24] at H
                        exact absurd H (by simp)
                    · rw [if_neg c23] at H
                      exact absurd H (by simp)
                  · rw [if_neg c21] at H
                    exact absurd H (by simp)
                · rw [if_neg c20] at H
                  have c20b0 : decide (x11_2 < 30) = false := decide_eq_false c20
                  clear c20
                  have H' := Aside0.mk H
                  clear H
                  go_wp2
                  go_meet
                  case rel => exact ⟨_, (x10_2), (by first | rfl | (simp; done) | (simp [*]; done)), H', ⟨by have := HJ5.out; have := HK2.out; first | omega | exact Nat.le_refl _⟩, ⟨by repeat (first | (with_reducible first | exact HB.out | apply below_alloc | apply pw_below_drewN | apply below_drew1) | exact HB.out)⟩⟩
              · rw [if_neg c19] at H
                have c19b0 : decide (x11_2 < (l1.length : Int)) = false := decide_eq_false c19
                clear c19
                (first | rw [c19b0] | (simp only [i64_w, i32_w]; rw [c19b0]) | skip)
                have H' := Aside0.mk H
                clear H
                go_wp2
                go_meet
                case rel => exact ⟨_, (x10_2), (by first | rfl | (simp; done) | (simp [*]; done)), H', ⟨by have := HJ5.out; have := HK2.out; first | omega | exact Nat.le_refl _⟩, ⟨by repeat (first | (with_reducible first | exact HB.out | apply below_alloc | apply pw_below_drewN | apply below_drew1) | exact HB.out)⟩⟩
        case rest =>
          clear HC18
          try clear c1
          try clear p1
          try clear q1
          try clear hx1
          try clear c2
          try clear p2
          try clear c5
          try clear p6
          try clear c8
          try clear c8b0
          try clear c9
          try clear c9b0
          try clear c10
          try clear c10b0
          try clear c12
          try clear c12b0
          try clear c13
          try clear c13b0
          try clear p13
          try clear q13
          try clear hx13
          try clear c14
          try clear c14b0
          try clear c14b1
          try clear c14b2
          try clear p14
          try clear q14
          try clear hx14
          try clear c15
          try clear c19
          try clear c19b0
          try clear c20
          try clear c20b0
          try clear c21
          try clear c21b0
          try clear c23
          try clear c23b0
          try clear c24
          try clear c24b0
          try clear c25
          try clear c25b0
          try clear c25b1
          try clear c25b2
          try clear hx139_0
          try clear hx141_0
          try clear hx145_0
          try clear hx147_0
          try clear p1
          try clear p13
          try clear p139
          try clear p14
          try clear p141
          try clear p145
          try clear p147
          try clear p2
          try clear p6
          try clear q1
          try clear q13
          try clear q139
          try clear q14
          try clear q141
          try clear q145
          try clear q147
          obtain ⟨kq, x10_17, rfl, HA, HJ17, HB⟩ := hcut
          cases kq with
          | zero => exact absurd HA.out (by simp [joinerylaw2_MarkRunes.j3])
          | succ kj17 =>
            have H := HA.out
            clear HA
            simp only [joinerylaw2_MarkRunes.j3] at H
            replace H := Option.bind_eq_some_iff.mp H
            obtain ⟨t148, A290, H⟩ := H
            replace H : ((mark_Runes.f x7_5).bind fun t149 => (if t149 = x8_5 then (if x7_5.size + x10_17.size ≤ 9223372036854775807 then ((mark_Runes.f (x7_5 ++ x10_17)).bind fun t150 => ((mark_Runes.f x10_17).bind fun t151 => (if t150 = (wrap64 (x8_5 + t151)) then (if 0 ≤ t148 then (if t148 ≤ 6 then ((mark_Runes.f ((⟨#[206, 177, 206, 178, 206, 179]⟩ : ByteArray).extract 0 (t148 : Int).toNat)).bind fun t152 => (some (t152 == (wrap64 (Int.tdiv (wrap64 (t148 + 1)) 2))))) else (none)) else (none)) else (some false)))) else (none)) else (some false))) = some r := H
            have A29 := Aside0.mk A290
            clear A290
            replace H := Option.bind_eq_some_iff.mp H
            obtain ⟨t149, A300, H⟩ := H
            replace H : (if t149 = x8_5 then (if x7_5.size + x10_17.size ≤ 9223372036854775807 then ((mark_Runes.f (x7_5 ++ x10_17)).bind fun t150 => ((mark_Runes.f x10_17).bind fun t151 => (if t150 = (wrap64 (x8_5 + t151)) then (if 0 ≤ t148 then (if t148 ≤ 6 then ((mark_Runes.f ((⟨#[206, 177, 206, 178, 206, 179]⟩ : ByteArray).extract 0 (t148 : Int).toNat)).bind fun t152 => (some (t152 == (wrap64 (Int.tdiv (wrap64 (t148 + 1)) 2))))) else (none)) else (none)) else (some false)))) else (none)) else (some false)) = some r := H
            have A30 := Aside0.mk A300
            clear A300
            by_cases c31 : t149 = x8_5
            · rw [if_pos c31] at H
              have c31b0 : (t149 == x8_5) = true := beq_iff_eq.mpr c31
              have c31b1 : (t149 != x8_5) = false := bne_eq_false_iff_eq.mpr c31
              clear c31
              by_cases c32 : x7_5.size + x10_17.size ≤ 9223372036854775807
              · rw [if_pos c32] at H
                have c32b0 := eq_true c32
                have c32b1 : decide (x7_5.size + x10_17.size ≤ 9223372036854775807) = true := decide_eq_true c32
                try have c32b2 : (9223372036854775807 < x7_5.size + x10_17.size) = False := eq_false (Nat.not_lt.2 c32)
                replace H := Option.bind_eq_some_iff.mp H
                obtain ⟨t150, A330, H⟩ := H
                replace H : ((mark_Runes.f x10_17).bind fun t151 => (if t150 = (wrap64 (x8_5 + t151)) then (if 0 ≤ t148 then (if t148 ≤ 6 then ((mark_Runes.f ((⟨#[206, 177, 206, 178, 206, 179]⟩ : ByteArray).extract 0 (t148 : Int).toNat)).bind fun t152 => (some (t152 == (wrap64 (Int.tdiv (wrap64 (t148 + 1)) 2))))) else (none)) else (none)) else (some false))) = some r := H
                have A33 := Aside0.mk A330
                clear A330
                replace H := Option.bind_eq_some_iff.mp H
                obtain ⟨t151, A340, H⟩ := H
                replace H : (if t150 = (wrap64 (x8_5 + t151)) then (if 0 ≤ t148 then (if t148 ≤ 6 then ((mark_Runes.f ((⟨#[206, 177, 206, 178, 206, 179]⟩ : ByteArray).extract 0 (t148 : Int).toNat)).bind fun t152 => (some (t152 == (wrap64 (Int.tdiv (wrap64 (t148 + 1)) 2))))) else (none)) else (none)) else (some false)) = some r := H
                have A34 := Aside0.mk A340
                clear A340
                by_cases c35 : t150 = (wrap64 (x8_5 + t151))
                · rw [if_pos c35] at H
                  have c35b0 : (t150 == (wrap64 (x8_5 + t151))) = true := beq_iff_eq.mpr c35
                  have c35b1 : (t150 != (wrap64 (x8_5 + t151))) = false := bne_eq_false_iff_eq.mpr c35
                  clear c35
                  by_cases c36 : 0 ≤ t148
                  · rw [if_pos c36] at H
                    have c36b0 := eq_true c36
                    have c36b1 : decide (0 ≤ t148) = true := decide_eq_true c36
                    clear c36
                    by_cases c37 : t148 ≤ 6
                    · rw [if_pos c37] at H
                      have c37b0 := eq_true c37
                      have c37b1 : decide (t148 ≤ 6) = true := decide_eq_true c37
                      clear c37
                      replace H := Option.bind_eq_some_iff.mp H
                      obtain ⟨t152, A380, H⟩ := H
                      replace H : (some (t152 == (wrap64 (Int.tdiv (wrap64 (t148 + 1)) 2)))) = some r := H
                      have A38 := Aside0.mk A380
                      clear A380
                      obtain rfl := Option.some.inj H
                      go_wp2_with (first | ((with_reducible refine gate_callee (f := 15) rfl ?_); refine goesL_ (some 58) rfl rfl Try.func15 (by kernel_rfl) rfl #[.int .i64 a2, .int .i64 7] rfl (by (try simp only [List.map_toArray, List.map_cons, List.map_nil]); first | done | rfl | (simp only [List.length_drop, List.length_take]; rfl)) ?_; (with_reducible refine (joinerylaw2_within.calls a2 7 t148 _ A29.out).mono ?_); rintro e w' ⟨rfl, ⟨nd, rfl⟩⟩; refine ⟨_, rfl, ?_⟩) | ((with_reducible refine gate_callee (f := 18) rfl ?_); refine goesL_ (some 60) rfl rfl Try.func18 (by kernel_rfl) rfl #[.string x7_5] rfl (by (try simp only [List.map_toArray, List.map_cons, List.map_nil]); first | done | rfl | (simp only [List.length_drop, List.length_take]; rfl)) ?_; (with_reducible refine (mark_Runes.calls x7_5 t149 _ A30.out).mono ?_); rintro e w39 ⟨rfl, hb⟩; refine ⟨_, rfl, ?_⟩; have n0_ := Aside0.mk (below_step (by repeat (first | (with_reducible first | exact HB.out | apply below_alloc | apply pw_below_drewN | apply below_drew1) | exact HB.out)) hb); clear HB; have HB := n0_; clear n0_; (try clear hb); (try clear hb2); (try clear hk); (try clear hi)) | (go_at_call 18; (with_reducible refine (mark_Runes.calls (x7_5 ++ x10_17) t150 _ A33.out).mono ?_); rintro e w40 ⟨rfl, hb⟩; have n0_ := Aside0.mk (below_step (by repeat (first | (with_reducible first | exact HB.out | apply below_alloc | apply pw_below_drewN | apply below_drew1) | exact HB.out)) hb); clear HB; have HB := n0_; clear n0_; (try clear hb); (try clear hb2); (try clear hk); (try clear hi)) | (go_at_call 18; (with_reducible refine (mark_Runes.calls x10_17 t151 _ A34.out).mono ?_); rintro e w41 ⟨rfl, hb⟩; have n0_ := Aside0.mk (below_step (by repeat (first | (with_reducible first | exact HB.out | apply below_alloc | apply pw_below_drewN | apply below_drew1) | exact HB.out)) hb); clear HB; have HB := n0_; clear n0_; (try clear hb); (try clear hb2); (try clear hk); (try clear hi)) | (go_at_call 18; (with_reducible refine (mark_Runes.calls ((⟨#[206, 177, 206, 178, 206, 179]⟩ : ByteArray).extract 0 (t148 : Int).toNat) t152 _ A38.out).mono ?_); rintro e w42 ⟨rfl, hb⟩; have n0_ := Aside0.mk (below_step (by repeat (first | (with_reducible first | exact HB.out | apply below_alloc | apply pw_below_drewN | apply below_drew1) | exact HB.out)) hb); clear HB; have HB := n0_; clear n0_; (try clear hb); (try clear hb2); (try clear hk); (try clear hi)))
                      go_ret
                      exact ⟨by first | rfl | (simp [errW_none, errW_some] <;> rfl) | (simp [*, errW_none, errW_some] <;> rfl), by repeat (first | (with_reducible first | exact HB.out | apply below_alloc | apply pw_below_drewN | apply below_drew1) | exact HB.out)⟩
                    · rw [if_neg c37] at H
                      exact absurd H (by simp)
                  · rw [if_neg c36] at H
                    exact absurd H (by simp)
                · rw [if_neg c35] at H
                  have c35b0 : (t150 == (wrap64 (x8_5 + t151))) = false := beq_eq_false_iff_ne.mpr c35
                  have c35b1 : (t150 != (wrap64 (x8_5 + t151))) = true := bne_iff_ne.mpr c35
                  obtain rfl := Option.some.inj H
                  go_wp2_with (first | ((with_reducible refine gate_callee (f := 15) rfl ?_); refine goesL_ (some 58) rfl rfl Try.func15 (by kernel_rfl) rfl #[.int .i64 a2, .int .i64 7] rfl (by (try simp only [List.map_toArray, List.map_cons, List.map_nil]); first | done | rfl | (simp only [List.length_drop, List.length_take]; rfl)) ?_; (with_reducible refine (joinerylaw2_within.calls a2 7 t148 _ A29.out).mono ?_); rintro e w' ⟨rfl, ⟨nd, rfl⟩⟩; refine ⟨_, rfl, ?_⟩) | ((with_reducible refine gate_callee (f := 18) rfl ?_); refine goesL_ (some 60) rfl rfl Try.func18 (by kernel_rfl) rfl #[.string x7_5] rfl (by (try simp only [List.map_toArray, List.map_cons, List.map_nil]); first | done | rfl | (simp only [List.length_drop, List.length_take]; rfl)) ?_; (with_reducible refine (mark_Runes.calls x7_5 t149 _ A30.out).mono ?_); rintro e w43 ⟨rfl, hb⟩; refine ⟨_, rfl, ?_⟩; have n0_ := Aside0.mk (below_step (by repeat (first | (with_reducible first | exact HB.out | apply below_alloc | apply pw_below_drewN | apply below_drew1) | exact HB.out)) hb); clear HB; have HB := n0_; clear n0_; (try clear hb); (try clear hb2); (try clear hk); (try clear hi)) | (go_at_call 18; (with_reducible refine (mark_Runes.calls (x7_5 ++ x10_17) t150 _ A33.out).mono ?_); rintro e w44 ⟨rfl, hb⟩; have n0_ := Aside0.mk (below_step (by repeat (first | (with_reducible first | exact HB.out | apply below_alloc | apply pw_below_drewN | apply below_drew1) | exact HB.out)) hb); clear HB; have HB := n0_; clear n0_; (try clear hb); (try clear hb2); (try clear hk); (try clear hi)) | (go_at_call 18; (with_reducible refine (mark_Runes.calls x10_17 t151 _ A34.out).mono ?_); rintro e w45 ⟨rfl, hb⟩; have n0_ := Aside0.mk (below_step (by repeat (first | (with_reducible first | exact HB.out | apply below_alloc | apply pw_below_drewN | apply below_drew1) | exact HB.out)) hb); clear HB; have HB := n0_; clear n0_; (try clear hb); (try clear hb2); (try clear hk); (try clear hi)))
                  go_ret
                  exact ⟨by first | rfl | (simp [errW_none, errW_some] <;> rfl) | (simp [*, errW_none, errW_some] <;> rfl), by repeat (first | (with_reducible first | exact HB.out | apply below_alloc | apply pw_below_drewN | apply below_drew1) | exact HB.out)⟩
              · rw [if_neg c32] at H
                exact absurd H (by simp)
            · rw [if_neg c31] at H
              have c31b0 : (t149 == x8_5) = false := beq_eq_false_iff_ne.mpr c31
              have c31b1 : (t149 != x8_5) = true := bne_iff_ne.mpr c31
              obtain rfl := Option.some.inj H
              go_wp2_with (first | ((with_reducible refine gate_callee (f := 15) rfl ?_); refine goesL_ (some 58) rfl rfl Try.func15 (by kernel_rfl) rfl #[.int .i64 a2, .int .i64 7] rfl (by (try simp only [List.map_toArray, List.map_cons, List.map_nil]); first | done | rfl | (simp only [List.length_drop, List.length_take]; rfl)) ?_; (with_reducible refine (joinerylaw2_within.calls a2 7 t148 _ A29.out).mono ?_); rintro e w' ⟨rfl, ⟨nd, rfl⟩⟩; refine ⟨_, rfl, ?_⟩) | ((with_reducible refine gate_callee (f := 18) rfl ?_); refine goesL_ (some 60) rfl rfl Try.func18 (by kernel_rfl) rfl #[.string x7_5] rfl (by (try simp only [List.map_toArray, List.map_cons, List.map_nil]); first | done | rfl | (simp only [List.length_drop, List.length_take]; rfl)) ?_; (with_reducible refine (mark_Runes.calls x7_5 t149 _ A30.out).mono ?_); rintro e w46 ⟨rfl, hb⟩; refine ⟨_, rfl, ?_⟩; have n0_ := Aside0.mk (below_step (by repeat (first | (with_reducible first | exact HB.out | apply below_alloc | apply pw_below_drewN | apply below_drew1) | exact HB.out)) hb); clear HB; have HB := n0_; clear n0_; (try clear hb); (try clear hb2); (try clear hk); (try clear hi)))
              go_ret
              exact ⟨by first | rfl | (simp [errW_none, errW_some] <;> rfl) | (simp [*, errW_none, errW_some] <;> rfl), by repeat (first | (with_reducible first | exact HB.out | apply below_alloc | apply pw_below_drewN | apply below_drew1) | exact HB.out)⟩
  · replace c5 := Bool.eq_false_iff.mpr c5
    subst c5
    have H1 : (some false) = some r := by rw [if_neg (show ¬ (false = true) by decide)] at H; exact H
    clear H
    have H := H1
    clear H1
    obtain rfl := Option.some.inj H
    go_enter Try.func5, Try.ntmps5
    go_wp2_with (first | ((with_reducible refine gate_callee (f := 13) rfl ?_); refine goesL_ (some 13) rfl rfl Try.func13 (by kernel_rfl) rfl #[] rfl (by (try simp only [List.map_toArray, List.map_cons, List.map_nil]); first | done | rfl | (simp only [List.length_drop, List.length_take]; rfl)) ?_; (with_reducible refine (joinerylaw2_known.calls  false _ A4.out).mono ?_); rintro e w47 ⟨rfl, hb⟩; refine ⟨_, rfl, ?_⟩; have n0_ := Aside0.mk (below_step (by repeat (first | (with_reducible first | exact HB.out | apply below_alloc | apply pw_below_drewN | apply below_drew1) | exact HB.out)) hb); clear HB; have HB := n0_; clear n0_; (try clear hb); (try clear hb2); (try clear hk); (try clear hi)))
    go_ret
    exact ⟨by first | rfl | (simp [errW_none, errW_some] <;> rfl) | (simp [*, errW_none, errW_some] <;> rfl), by repeat (first | (with_reducible first | exact HB.out | apply below_alloc | apply pw_below_drewN | apply below_drew1) | exact HB.out)⟩

/-- THE ONE PURE STATEMENT of joinerylaw2_MarkRunes: yours. -/
def joinerylaw2_MarkRunes.Pure : Prop := ∀ (l0 : List Int) (l1 : List Int) (a2 : Int), l0.length ≤ maxLen → l0.length * 8 ≤ 140737488351232 → (∀ x ∈ l0, (Lit.int .i64 x).wf = true) → l1.length ≤ maxLen → l1.length * 8 ≤ 140737488351232 → (∀ x ∈ l1, (Lit.int .i64 x).wf = true) → (Lit.int .i64 a2).wf = true → ∃ k, joinerylaw2_MarkRunes.f k l0 l1 a2 = some true
theorem joinerylaw2_MarkRunes.walk (P : joinerylaw2_MarkRunes.Pure) (a0 : Option Addr) (len0 cap0 : Nat) (z0 : List Int) (a1 : Option Addr) (len1 cap1 : Nat) (z1 : List Int) (a2 : Int) (w : World) (w0 : (a0 = none ∧ len0 = 0 ∧ cap0 = 0 ∧ z0 = []) ∨ ∃ x, a0 = some x ∧ len0 ≤ cap0 ∧ cap0 ≤ maxLen ∧ z0.length = cap0 ∧ (∀ i, i < z0.length → w.cell? (x.add i) = some (.int .i64 (z0.getD i 0))) ∧ ∀ n ∈ z0, (Lit.int .i64 n).wf = true) (y0 : len0 * 8 ≤ 140737488351232) (w1 : (a1 = none ∧ len1 = 0 ∧ cap1 = 0 ∧ z1 = []) ∨ ∃ x, a1 = some x ∧ len1 ≤ cap1 ∧ cap1 ≤ maxLen ∧ z1.length = cap1 ∧ (∀ i, i < z1.length → w.cell? (x.add i) = some (.int .i64 (z1.getD i 0))) ∧ ∀ n ∈ z1, (Lit.int .i64 n).wf = true) (y1 : len1 * 8 ≤ 140737488351232) (w2 : (Lit.int .i64 a2).wf = true) :
    Calls Try.prog 5 #[.slice a0 len0 cap0, .slice a1 len1 cap1, .int .i64 a2] w fun e w' => e = .returned (.bool true) ∧ Below w.heap.size w w' := by
  obtain ⟨l0, rfl, hr0, hm0, hw0, hc0⟩ := ReadsInt.ofRowC w0
  obtain ⟨l1, rfl, hr1, hm1, hw1, hc1⟩ := ReadsInt.ofRowC w1
  obtain ⟨k, h⟩ := P l0 l1 a2 hm0 y0 hw0 hm1 y1 hw1 w2
  refine (joinerylaw2_MarkRunes.calls k _ _ l0 _ _ l1 a2 true w (Kd.C_of_reads (d := (0 : Int)) (h1 := fun _ => rfl) hr0) hc0 (Kd.C_of_reads (d := (0 : Int)) (h1 := fun _ => rfl) hr1) hc1 h).mono ?_
  rintro e w' ⟨rfl, hd⟩
  exact ⟨rfl, hd⟩

/-! ### joinerylaw2_MarkLong: function 6 -/
def joinerylaw2_MarkLong.l0 : Nat → List Int → Int → ByteArray → Int → Option (Bool)
  | 0, _, _, _, _ => none
  | k + 1, x1, x5, x6, x7 => if x7 < x5 then (if x7 < (x1.length : Int) then (if 0 ≤ x7 then ((some (([(⟨#[97]⟩ : ByteArray), (⟨#[206, 177]⟩ : ByteArray), (⟨#[207, 137]⟩ : ByteArray), (⟨#[107]⟩ : ByteArray)] : List ByteArray) : List ByteArray)).bind fun y156 => ((joinerylaw2_within.f (rd x1 x7) 4).bind fun t159 => (if 0 ≤ t159 then (if t159 < (y156.length : Int) then (if x6.size + (rdOf ByteArray.empty y156 t159).size ≤ 9223372036854775807 then (joinerylaw2_MarkLong.l0 k x1 x5 (x6 ++ (rdOf ByteArray.empty y156 t159)) (wrap64 (x7 + 1))) else (none)) else (none)) else (none)))) else (none)) else ((some (([(⟨#[97]⟩ : ByteArray), (⟨#[206, 177]⟩ : ByteArray), (⟨#[207, 137]⟩ : ByteArray), (⟨#[107]⟩ : ByteArray)] : List ByteArray) : List ByteArray)).bind fun y161 => ((joinerylaw2_within.f x7 4).bind fun t164 => (if 0 ≤ t164 then (if t164 < (y161.length : Int) then (if x6.size + (rdOf ByteArray.empty y161 t164).size ≤ 9223372036854775807 then (joinerylaw2_MarkLong.l0 k x1 x5 (x6 ++ (rdOf ByteArray.empty y161 t164)) (wrap64 (x7 + 1))) else (none)) else (none)) else (none))))) else ((mark_Name.f x6).bind fun t166 => (if x5 ≥ 1 then (if (t166 == (decide (x5 ≤ 8))) = true then ((mark_Runes.f x6).bind fun t167 => (some (t167 == x5))) else (some false)) else (if (t166 == false) = true then ((mark_Runes.f x6).bind fun t168 => (some (t168 == x5))) else (some false))))
def joinerylaw2_MarkLong.f (k : Nat) (a0 : Int) (l1 : List Int) : Option (Bool) := (joinerylaw2_known.f).bind fun t153 => (if t153 = true then ((joinerylaw2_within.f a0 14).bind fun t154 => (joinerylaw2_MarkLong.l0 k l1 t154 (⟨#[]⟩ : ByteArray) 0)) else (some false))
theorem joinerylaw2_MarkLong.mono_l : ∀ k, (∀ y0 y1 y2 y3, LeO (joinerylaw2_MarkLong.l0 k y0 y1 y2 y3) (joinerylaw2_MarkLong.l0 (k + 1) y0 y1 y2 y3))
  | 0 => fun _ _ _ _ r h => by simp [joinerylaw2_MarkLong.l0] at h
  | k + 1 => by
    have ih0 := joinerylaw2_MarkLong.mono_l k
    · intro y0 y1 y2 y3
      unfold joinerylaw2_MarkLong.l0
      repeat' first
      | (with_reducible exact ih0 _ _ _ _)
      | (with_reducible exact LeO.refl _)
      | (with_reducible exact LeO.none _)
      | (with_reducible refine LeO.ite ?_ ?_)
      | (with_reducible refine LeO.bind ?_ (fun _ => ?_))
      | exact ih0 _ _ _ _
      | exact LeO.none _
      | refine LeO.ite ?_ ?_
      | refine LeO.bind ?_ (fun _ => ?_)
theorem joinerylaw2_MarkLong.mono : ∀ a0 a1 k, LeO (joinerylaw2_MarkLong.f k a0 a1) (joinerylaw2_MarkLong.f (k + 1) a0 a1) := by
  intro a0 a1 k
  have ih0 := joinerylaw2_MarkLong.mono_l k
  unfold joinerylaw2_MarkLong.f
  repeat' first
      | (with_reducible exact ih0 _ _ _ _)
      | (with_reducible exact LeO.refl _)
      | (with_reducible exact LeO.none _)
      | (with_reducible refine LeO.ite ?_ ?_)
      | (with_reducible refine LeO.bind ?_ (fun _ => ?_))
      | exact ih0 _ _ _ _
      | exact LeO.none _
      | refine LeO.ite ?_ ?_
      | refine LeO.bind ?_ (fun _ => ?_)
set_option maxHeartbeats 8000000 in
set_option maxRecDepth 100000 in
theorem joinerylaw2_MarkLong.calls (k : Nat) (a0 : Int) (A1 : Option Addr) (c1 : Nat) (l1 : List Int) (r : Bool) (w : World) (hr1 : Kd.C (Kd.int .i64) w A1 l1.length l1) (hc1 : l1.length ≤ c1) (h : joinerylaw2_MarkLong.f k a0 l1 = some r) :
    Calls Try.prog 6 #[.int .i64 a0, .slice A1 l1.length c1] w fun e w' => e = .returned (.bool r) ∧ Below w.heap.size w w' := by
  have HR1 := Aside0.mk hr1
  have HC1 := Aside0.mk hc1
  clear hr1 hc1
  have HB := Aside0.mk (Below.refl w.heap.size w)
  have H : ((joinerylaw2_known.f).bind fun t153 => (if t153 = true then ((joinerylaw2_within.f a0 14).bind fun t154 => (joinerylaw2_MarkLong.l0 k l1 t154 (⟨#[]⟩ : ByteArray) 0)) else (some false))) = some r := h
  clear h
  replace H := Option.bind_eq_some_iff.mp H
  obtain ⟨t153, A30, H⟩ := H
  replace H : (if t153 = true then ((joinerylaw2_within.f a0 14).bind fun t154 => (joinerylaw2_MarkLong.l0 k l1 t154 (⟨#[]⟩ : ByteArray) 0)) else (some false)) = some r := H
  have A3 := Aside0.mk A30
  clear A30
  by_cases c4 : t153 = true
  · subst c4
    have H1 : ((joinerylaw2_within.f a0 14).bind fun t154 => (joinerylaw2_MarkLong.l0 k l1 t154 (⟨#[]⟩ : ByteArray) 0)) = some r := by rw [if_pos rfl] at H; exact H
    clear H
    have H := H1
    clear H1
    replace H := Option.bind_eq_some_iff.mp H
    obtain ⟨t154, A50, H⟩ := H
    replace H : (joinerylaw2_MarkLong.l0 k l1 t154 (⟨#[]⟩ : ByteArray) 0) = some r := H
    have A5 := Aside0.mk A50
    clear A50
    have H' := Aside0.mk H
    clear H
    go_enter Try.func6, Try.ntmps6
    go_wp2_with (first | ((with_reducible refine gate_callee (f := 13) rfl ?_); refine goesL_ (some 9) rfl rfl Try.func13 (by kernel_rfl) rfl #[] rfl (by (try simp only [List.map_toArray, List.map_cons, List.map_nil]); first | done | rfl | (simp only [List.length_drop, List.length_take]; rfl)) ?_; (with_reducible refine (joinerylaw2_known.calls  true _ A3.out).mono ?_); rintro e w6 ⟨rfl, hb⟩; refine ⟨_, rfl, ?_⟩; have n0_ := Aside0.mk (below_step (by repeat (first | (with_reducible first | exact HB.out | apply below_alloc | apply pw_below_drewN | apply below_drew1) | exact HB.out)) hb); clear HB; have HB := n0_; clear n0_; (try clear hb); (try clear hb2); (try clear hk); (try clear hi)) | ((with_reducible refine gate_callee (f := 15) rfl ?_); refine goesL_ (some 12) rfl rfl Try.func15 (by kernel_rfl) rfl #[.int .i64 a0, .int .i64 14] rfl (by (try simp only [List.map_toArray, List.map_cons, List.map_nil]); first | done | rfl | (simp only [List.length_drop, List.length_take]; rfl)) ?_; (with_reducible refine (joinerylaw2_within.calls a0 14 t154 _ A5.out).mono ?_); rintro e w' ⟨rfl, ⟨nd, rfl⟩⟩; refine ⟨_, rfl, ?_⟩))
    go_loopg [6, 7] k (fun kq v6 v7 w' => ∃ (x6_1 : ByteArray) (x7_1 : Int), v6 = .string x6_1 ∧ v7 = .int .i64 x7_1 ∧ Aside0 (joinerylaw2_MarkLong.l0 kq l1 t154 x6_1 x7_1 = some r) ∧ Aside0 (kq ≤ k) ∧ Aside0 (Below w.heap.size w w'))
    case atStart => exact ⟨((⟨#[]⟩ : ByteArray)), (0), (by first | rfl | (simp; done) | (simp [*]; done)), (by first | rfl | (simp; done) | (simp [*]; done)), H', ⟨Nat.le_refl _⟩, ⟨by repeat (first | (with_reducible first | exact HB.out | apply below_alloc | apply pw_below_drewN | apply below_drew1) | exact HB.out)⟩⟩
    case round =>
      clear H'
      try clear c1
      try clear p2
      try clear c4
      try clear c6
      obtain ⟨x6_1, x7_1, rfl, rfl, HA, HK1, HB⟩ := hrel
      cases gk with
      | zero => exact absurd HA.out (by simp [joinerylaw2_MarkLong.l0])
      | succ k1 =>
        have H := HA.out
        clear HA
        simp only [joinerylaw2_MarkLong.l0] at H
        by_cases c7 : x7_1 < t154
        · rw [if_pos c7] at H
          have c7b0 : decide (x7_1 < t154) = true := decide_eq_true c7
          clear c7
          by_cases c8 : x7_1 < (l1.length : Int)
          · rw [if_pos c8] at H
            have c8b0 : decide (x7_1 < (l1.length : Int)) = true := decide_eq_true c8
            clear c8
            by_cases c9 : 0 ≤ x7_1
            · rw [if_pos c9] at H
              have c9b0 : decide (0 ≤ x7_1) = true := decide_eq_true c9
              clear c9
              obtain ⟨y156, hy156⟩ : ∃ y_ : List ByteArray, y_ = (([(⟨#[97]⟩ : ByteArray), (⟨#[206, 177]⟩ : ByteArray), (⟨#[207, 137]⟩ : ByteArray), (⟨#[107]⟩ : ByteArray)] : List ByteArray)) := ⟨_, rfl⟩
              replace H : ((joinerylaw2_within.f (rd l1 x7_1) 4).bind fun t159 => (if 0 ≤ t159 then (if t159 < (y156.length : Int) then (if x6_1.size + (rdOf ByteArray.empty y156 t159).size ≤ 9223372036854775807 then (joinerylaw2_MarkLong.l0 k1 l1 t154 (x6_1 ++ (rdOf ByteArray.empty y156 t159)) (wrap64 (x7_1 + 1))) else (none)) else (none)) else (none))) = some r := by first | (rw [hy156]; with_reducible exact H) | (have H2_ := (Option.bind_some _ _).symm.trans H; rw [hy156]; with_reducible exact H2_) | (have H2_ := (Option.bind_some _ _).symm.trans H; with_reducible exact H2_) | with_reducible exact H | (rw [hy156]; exact H) | exact H
              have Ny156 := Aside0.mk hy156
              clear hy156
              replace H := Option.bind_eq_some_iff.mp H
              obtain ⟨t159, A100, H⟩ := H
              replace H : (if 0 ≤ t159 then (if t159 < (y156.length : Int) then (if x6_1.size + (rdOf ByteArray.empty y156 t159).size ≤ 9223372036854775807 then (joinerylaw2_MarkLong.l0 k1 l1 t154 (x6_1 ++ (rdOf ByteArray.empty y156 t159)) (wrap64 (x7_1 + 1))) else (none)) else (none)) else (none)) = some r := H
              have A10 := Aside0.mk A100
              clear A100
              by_cases c11 : 0 ≤ t159
              · rw [if_pos c11] at H
                have c11b0 : decide (0 ≤ t159) = true := decide_eq_true c11
                clear c11
                by_cases c12 : t159 < (y156.length : Int)
                · rw [if_pos c12] at H
                  have c12b0 : decide (t159 < (y156.length : Int)) = true := decide_eq_true c12
                  clear c12
                  by_cases c13 : x6_1.size + (rdOf ByteArray.empty y156 t159).size ≤ 9223372036854775807
                  · rw [if_pos c13] at H
                    have c13b0 := eq_true c13
                    have c13b1 : decide (x6_1.size + (rdOf ByteArray.empty y156 t159).size ≤ 9223372036854775807) = true := decide_eq_true c13
                    try have c13b2 : (9223372036854775807 < x6_1.size + (rdOf ByteArray.empty y156 t159).size) = False := eq_false (Nat.not_lt.2 c13)
                    have H' := Aside0.mk H
                    clear H
                    have p155 : 0 ≤ (x7_1 : Int) := of_decide_eq_true (by first | (with_reducible assumption) | assumption)
                    have q155 : x7_1 < (l1.length : Int) := of_decide_eq_true (by first | (with_reducible assumption) | assumption)
                    obtain ⟨ad155, e155, hx155_0⟩ := Kd.at_int HR1.out x7_1 p155 q155
                    cases e155
                    replace hx155_0 := (HB.out.cell (World.block_lt_of_cell? w _ hx155_0)).trans hx155_0
                    replace p155 := eq_true p155
                    replace q155 := eq_true q155
                    go_wp2_with (first | ((with_reducible refine gate_dst (N := 28) rfl ?_); refine Kd.R_lit Kd.string _ 9 ?hg (N := 28) ?hd (xs := ([(⟨#[97]⟩ : ByteArray), (⟨#[206, 177]⟩ : ByteArray), (⟨#[207, 137]⟩ : ByteArray), (⟨#[107]⟩ : ByteArray)] : List ByteArray)) (inner := [.string (⟨#[97]⟩ : ByteArray), .string (⟨#[206, 177]⟩ : ByteArray), .string (⟨#[207, 137]⟩ : ByteArray), .string (⟨#[107]⟩ : ByteArray)]) (ok := fun _ => True) (okp := fun _ => True) ?hr ?hp (fun _ hk => hk) trivial (Below.refl _ _) (Nat.le_refl _) (by simp) ?_; (case hd => rfl); (case hg => rfl); (case hr => first | (go_simp; done) | (go_simp; rfl)); (case hp => exact (Reps.one (show Kd.M Kd.string _ _ _ (⟨#[97]⟩ : ByteArray) [.string (⟨#[97]⟩ : ByteArray)] from rfl) (Reps.one (show Kd.M Kd.string _ _ _ (⟨#[206, 177]⟩ : ByteArray) [.string (⟨#[206, 177]⟩ : ByteArray)] from rfl) (Reps.one (show Kd.M Kd.string _ _ _ (⟨#[207, 137]⟩ : ByteArray) [.string (⟨#[207, 137]⟩ : ByteArray)] from rfl) (Reps.one (show Kd.M Kd.string _ _ _ (⟨#[107]⟩ : ByteArray) [.string (⟨#[107]⟩ : ByteArray)] from rfl) (Reps.none _ _)))))); intro v157 w14 ho15 hb hg_ hnew_; clear hg_ hnew_; (first | rw [← Ny156.out] at ho15 | (simp only [Int.reduceToNat] at ho15; rw [← Ny156.out] at ho15)); have n0_ := Aside0.mk (Kd.R_lower ho15 (below_size (by repeat (first | (with_reducible first | exact HB.out | apply below_alloc | apply pw_below_drewN | apply below_drew1) | exact HB.out)))); have n1_ := Aside0.mk (below_step (by repeat (first | (with_reducible first | exact HB.out | apply below_alloc | apply pw_below_drewN | apply below_drew1) | exact HB.out)) hb); clear HB; have HO158 := n0_; have HB := n1_; clear n0_ n1_; clear hb ho15) | ((with_reducible refine gate_callee (f := 15) rfl ?_); refine goesL_ (some 30) rfl rfl Try.func15 (by kernel_rfl) rfl #[.int .i64 (rd l1 x7_1), .int .i64 4] rfl (by (try simp only [List.map_toArray, List.map_cons, List.map_nil]); first | done | rfl | (simp only [List.length_drop, List.length_take]; rfl)) ?_; (with_reducible refine (joinerylaw2_within.calls (rd l1 x7_1) 4 t159 _ A10.out).mono ?_); rintro e w' ⟨rfl, ⟨nd, rfl⟩⟩; refine ⟨_, rfl, ?_⟩; obtain ⟨Ao16, co16, eo16⟩ := Kd.R_slice HO158.out; subst eo16; have p160 : 0 ≤ (t159 : Int) := of_decide_eq_true (by first | (with_reducible assumption) | assumption); have q160 : t159 < (y156.length : Int) := of_decide_eq_true (by first | (with_reducible assumption) | assumption); obtain ⟨ad160, e160, hx160_0⟩ := Kd.at_string (Kd.R_reads' HO158.out).2.2 t159 p160 q160; cases e160; replace p160 := eq_true p160; replace q160 := eq_true q160))
                    go_roundg k1
                    case measure => have := HK1.out; omega
                    case rel => exact ⟨(x6_1 ++ (rdOf ByteArray.empty y156 t159)), (wrap64 (x7_1 + 1)), (by first | rfl | (simp; done) | (simp [*]; done)), (by first | rfl | (simp; done) | (simp [*]; done)), H', ⟨by have := HK1.out; omega⟩, ⟨by repeat (first | (with_reducible first | exact HB.out | apply below_alloc | apply pw_below_drewN | apply below_drew1) | exact HB.out)⟩⟩
                  · rw [if_neg c13] at H
                    exact absurd H (by simp)
                · rw [if_neg c12] at H
                  exact absurd H (by simp)
              · rw [if_neg c11] at H
                exact absurd H (by simp)
            · rw [if_neg c9] at H
              exact absurd H (by simp)
          · rw [if_neg c8] at H
            have c8b0 : decide (x7_1 < (l1.length : Int)) = false := decide_eq_false c8
            clear c8
            obtain ⟨y161, hy161⟩ : ∃ y_ : List ByteArray, y_ = (([(⟨#[97]⟩ : ByteArray), (⟨#[206, 177]⟩ : ByteArray), (⟨#[207, 137]⟩ : ByteArray), (⟨#[107]⟩ : ByteArray)] : List ByteArray)) := ⟨_, rfl⟩
            replace H : ((joinerylaw2_within.f x7_1 4).bind fun t164 => (if 0 ≤ t164 then (if t164 < (y161.length : Int) then (if x6_1.size + (rdOf ByteArray.empty y161 t164).size ≤ 9223372036854775807 then (joinerylaw2_MarkLong.l0 k1 l1 t154 (x6_1 ++ (rdOf ByteArray.empty y161 t164)) (wrap64 (x7_1 + 1))) else (none)) else (none)) else (none))) = some r := by first | (rw [hy161]; with_reducible exact H) | (have H2_ := (Option.bind_some _ _).symm.trans H; rw [hy161]; with_reducible exact H2_) | (have H2_ := (Option.bind_some _ _).symm.trans H; with_reducible exact H2_) | with_reducible exact H | (rw [hy161]; exact H) | exact H
            have Ny161 := Aside0.mk hy161
            clear hy161
            replace H := Option.bind_eq_some_iff.mp H
            obtain ⟨t164, A170, H⟩ := H
            replace H : (if 0 ≤ t164 then (if t164 < (y161.length : Int) then (if x6_1.size + (rdOf ByteArray.empty y161 t164).size ≤ 9223372036854775807 then (joinerylaw2_MarkLong.l0 k1 l1 t154 (x6_1 ++ (rdOf ByteArray.empty y161 t164)) (wrap64 (x7_1 + 1))) else (none)) else (none)) else (none)) = some r := H
            have A17 := Aside0.mk A170
            clear A170
            by_cases c18 : 0 ≤ t164
            · rw [if_pos c18] at H
              have c18b0 : decide (0 ≤ t164) = true := decide_eq_true c18
              clear c18
              by_cases c19 : t164 < (y161.length : Int)
              · rw [if_pos c19] at H
                have c19b0 : decide (t164 < (y161.length : Int)) = true := decide_eq_true c19
                clear c19
                by_cases c20 : x6_1.size + (rdOf ByteArray.empty y161 t164).size ≤ 9223372036854775807
                · rw [if_pos c20] at H
                  have c20b0 := eq_true c20
                  have c20b1 : decide (x6_1.size + (rdOf ByteArray.empty y161 t164).size ≤ 9223372036854775807) = true := decide_eq_true c20
                  try have c20b2 : (9223372036854775807 < x6_1.size + (rdOf ByteArray.empty y161 t164).size) = False := eq_false (Nat.not_lt.2 c20)
                  have H' := Aside0.mk H
                  clear H
                  go_wp2_with (first | ((with_reducible refine gate_dst (N := 28) rfl ?_); refine Kd.R_lit Kd.string _ 9 ?hg (N := 28) ?hd (xs := ([(⟨#[97]⟩ : ByteArray), (⟨#[206, 177]⟩ : ByteArray), (⟨#[207, 137]⟩ : ByteArray), (⟨#[107]⟩ : ByteArray)] : List ByteArray)) (inner := [.string (⟨#[97]⟩ : ByteArray), .string (⟨#[206, 177]⟩ : ByteArray), .string (⟨#[207, 137]⟩ : ByteArray), .string (⟨#[107]⟩ : ByteArray)]) (ok := fun _ => True) (okp := fun _ => True) ?hr ?hp (fun _ hk => hk) trivial (Below.refl _ _) (Nat.le_refl _) (by simp) ?_; (case hd => rfl); (case hg => rfl); (case hr => first | (go_simp; done) | (go_simp; rfl)); (case hp => exact (Reps.one (show Kd.M Kd.string _ _ _ (⟨#[97]⟩ : ByteArray) [.string (⟨#[97]⟩ : ByteArray)] from rfl) (Reps.one (show Kd.M Kd.string _ _ _ (⟨#[206, 177]⟩ : ByteArray) [.string (⟨#[206, 177]⟩ : ByteArray)] from rfl) (Reps.one (show Kd.M Kd.string _ _ _ (⟨#[207, 137]⟩ : ByteArray) [.string (⟨#[207, 137]⟩ : ByteArray)] from rfl) (Reps.one (show Kd.M Kd.string _ _ _ (⟨#[107]⟩ : ByteArray) [.string (⟨#[107]⟩ : ByteArray)] from rfl) (Reps.none _ _)))))); intro v162 w21 ho22 hb hg_ hnew_; clear hg_ hnew_; (first | rw [← Ny161.out] at ho22 | (simp only [Int.reduceToNat] at ho22; rw [← Ny161.out] at ho22)); have n0_ := Aside0.mk (Kd.R_lower ho22 (below_size (by repeat (first | (with_reducible first | exact HB.out | apply below_alloc | apply pw_below_drewN | apply below_drew1) | exact HB.out)))); have n1_ := Aside0.mk (below_step (by repeat (first | (with_reducible first | exact HB.out | apply below_alloc | apply pw_below_drewN | apply below_drew1) | exact HB.out)) hb); clear HB; have HO163 := n0_; have HB := n1_; clear n0_ n1_; clear hb ho22) | ((with_reducible refine gate_callee (f := 15) rfl ?_); refine goesL_ (some 30) rfl rfl Try.func15 (by kernel_rfl) rfl #[.int .i64 x7_1, .int .i64 4] rfl (by (try simp only [List.map_toArray, List.map_cons, List.map_nil]); first | done | rfl | (simp only [List.length_drop, List.length_take]; rfl)) ?_; (with_reducible refine (joinerylaw2_within.calls x7_1 4 t164 _ A17.out).mono ?_); rintro e w' ⟨rfl, ⟨nd, rfl⟩⟩; refine ⟨_, rfl, ?_⟩; obtain ⟨Ao23, co23, eo23⟩ := Kd.R_slice HO163.out; subst eo23; have p165 : 0 ≤ (t164 : Int) := of_decide_eq_true (by first | (with_reducible assumption) | assumption); have q165 : t164 < (y161.length : Int) := of_decide_eq_true (by first | (with_reducible assumption) | assumption); obtain ⟨ad165, e165, hx165_0⟩ := Kd.at_string (Kd.R_reads' HO163.out).2.2 t164 p165 q165; cases e165; replace p165 := eq_true p165; replace q165 := eq_true q165))
                  go_roundg k1
                  case measure => have := HK1.out; omega
                  case rel => exact ⟨(x6_1 ++ (rdOf ByteArray.empty y161 t164)), (wrap64 (x7_1 + 1)), (by first | rfl | (simp; done) | (simp [*]; done)), (by first | rfl | (simp; done) | (simp [*]; done)), H', ⟨by have := HK1.out; omega⟩, ⟨by repeat (first | (with_reducible first | exact HB.out | apply below_alloc | apply pw_below_drewN | apply below_drew1) | exact HB.out)⟩⟩
                · rw [if_neg c20] at H
                  exact absurd H (by simp)
              · rw [if_neg c19] at H
                exact absurd H (by simp)
            · rw [if_neg c18] at H
              exact absurd H (by simp)
        · rw [if_neg c7] at H
          have c7b0 : decide (x7_1 < t154) = false := decide_eq_false c7
          clear c7
          replace H := Option.bind_eq_some_iff.mp H
          obtain ⟨t166, A240, H⟩ := H
          replace H : (if t154 ≥ 1 then (if (t166 == (decide (t154 ≤ 8))) = true then ((mark_Runes.f x6_1).bind fun t167 => (some (t167 == t154))) else (some false)) else (if (t166 == false) = true then ((mark_Runes.f x6_1).bind fun t168 => (some (t168 == t154))) else (some false))) = some r := H
          have A24 := Aside0.mk A240
          clear A240
          by_cases c25 : t154 ≥ 1
          · rw [if_pos c25] at H
            have c25b0 : decide (1 ≤ t154) = true := decide_eq_true c25
            clear c25
            by_cases c26 : (t166 == (decide (t154 ≤ 8))) = true
            · rw [if_pos c26] at H
              have c26b0 : (t166 == (decide (t154 ≤ 8))) = true := c26
              (try (have c26b1 : decide (t166 = (decide (t154 ≤ 8))) = true := by simpa using c26))
              (try (have c26b2 : (t166 == (decide (t154 ≤ 8))) = true := by simpa using c26))
              clear c26
              replace H := Option.bind_eq_some_iff.mp H
              obtain ⟨t167, A270, H⟩ := H
              replace H : (some (t167 == t154)) = some r := H
              have A27 := Aside0.mk A270
              clear A270
              obtain rfl := Option.some.inj H
              go_wp2_with (first | ((with_reducible refine gate_callee (f := 16) rfl ?_); refine goesL_ (some 35) rfl rfl Try.func16 (by kernel_rfl) rfl #[.string x6_1] rfl (by (try simp only [List.map_toArray, List.map_cons, List.map_nil]); first | done | rfl | (simp only [List.length_drop, List.length_take]; rfl)) ?_; (with_reducible refine (mark_Name.calls x6_1 t166 _ A24.out).mono ?_); rintro e w28 ⟨rfl, hb⟩; refine ⟨_, rfl, ?_⟩; have n0_ := Aside0.mk (below_step (by repeat (first | (with_reducible first | exact HB.out | apply below_alloc | apply pw_below_drewN | apply below_drew1) | exact HB.out)) hb); clear HB; have HB := n0_; clear n0_; (try clear hb); (try clear hb2); (try clear hk); (try clear hi)) | (go_at_call 18; (with_reducible refine (mark_Runes.calls x6_1 t167 _ A27.out).mono ?_); rintro e w29 ⟨rfl, hb⟩; have n0_ := Aside0.mk (below_step (by repeat (first | (with_reducible first | exact HB.out | apply below_alloc | apply pw_below_drewN | apply below_drew1) | exact HB.out)) hb); clear HB; have HB := n0_; clear n0_; (try clear hb); (try clear hb2); (try clear hk); (try clear hi)))
              go_ret
              exact ⟨by first | rfl | (simp [errW_none, errW_some] <;> rfl) | (simp [*, errW_none, errW_some] <;> rfl), by repeat (first | (with_reducible first | exact HB.out | apply below_alloc | apply pw_below_drewN | apply below_drew1) | exact HB.out)⟩
            · rw [if_neg c26] at H
              have c26b0 : (t166 == (decide (t154 ≤ 8))) = false := by simpa using c26
              (try (have c26b1 : decide (t166 = (decide (t154 ≤ 8))) = false := by simpa using c26))
              (try (have c26b2 : (t166 == (decide (t154 ≤ 8))) = false := by simpa using c26))
              (try (have c26b3 : ¬ (t166 = (decide (t154 ≤ 8))) := by simpa using c26))
              clear c26
              obtain rfl := Option.some.inj H
              go_wp2_with (first | ((with_reducible refine gate_callee (f := 16) rfl ?_); refine goesL_ (some 35) rfl rfl Try.func16 (by kernel_rfl) rfl #[.string x6_1] rfl (by (try simp only [List.map_toArray, List.map_cons, List.map_nil]); first | done | rfl | (simp only [List.length_drop, List.length_take]; rfl)) ?_; (with_reducible refine (mark_Name.calls x6_1 t166 _ A24.out).mono ?_); rintro e w30 ⟨rfl, hb⟩; refine ⟨_, rfl, ?_⟩; have n0_ := Aside0.mk (below_step (by repeat (first | (with_reducible first | exact HB.out | apply below_alloc | apply pw_below_drewN | apply below_drew1) | exact HB.out)) hb); clear HB; have HB := n0_; clear n0_; (try clear hb); (try clear hb2); (try clear hk); (try clear hi)))
              go_ret
              exact ⟨by first | rfl | (simp [errW_none, errW_some] <;> rfl) | (simp [*, errW_none, errW_some] <;> rfl), by repeat (first | (with_reducible first | exact HB.out | apply below_alloc | apply pw_below_drewN | apply below_drew1) | exact HB.out)⟩
          · rw [if_neg c25] at H
            have c25b0 : decide (1 ≤ t154) = false := decide_eq_false c25
            clear c25
            by_cases c31 : (t166 == false) = true
            · rw [if_pos c31] at H
              have c31b0 : (t166 == false) = true := c31
              (try (have c31b1 : decide (t166 = false) = true := by simpa using c31))
              (try (have c31b2 : (t166 == false) = true := by simpa using c31))
              clear c31
              replace H := Option.bind_eq_some_iff.mp H
              obtain ⟨t168, A320, H⟩ := H
              replace H : (some (t168 == t154)) = some r := H
              have A32 := Aside0.mk A320
              clear A320
              obtain rfl := Option.some.inj H
              go_wp2_with (first | ((with_reducible refine gate_callee (f := 16) rfl ?_); refine goesL_ (some 35) rfl rfl Try.func16 (by kernel_rfl) rfl #[.string x6_1] rfl (by (try simp only [List.map_toArray, List.map_cons, List.map_nil]); first | done | rfl | (simp only [List.length_drop, List.length_take]; rfl)) ?_; (with_reducible refine (mark_Name.calls x6_1 t166 _ A24.out).mono ?_); rintro e w33 ⟨rfl, hb⟩; refine ⟨_, rfl, ?_⟩; have n0_ := Aside0.mk (below_step (by repeat (first | (with_reducible first | exact HB.out | apply below_alloc | apply pw_below_drewN | apply below_drew1) | exact HB.out)) hb); clear HB; have HB := n0_; clear n0_; (try clear hb); (try clear hb2); (try clear hk); (try clear hi)) | (go_at_call 18; (with_reducible refine (mark_Runes.calls x6_1 t168 _ A32.out).mono ?_); rintro e w34 ⟨rfl, hb⟩; have n0_ := Aside0.mk (below_step (by repeat (first | (with_reducible first | exact HB.out | apply below_alloc | apply pw_below_drewN | apply below_drew1) | exact HB.out)) hb); clear HB; have HB := n0_; clear n0_; (try clear hb); (try clear hb2); (try clear hk); (try clear hi)))
              go_ret
              exact ⟨by first | rfl | (simp [errW_none, errW_some] <;> rfl) | (simp [*, errW_none, errW_some] <;> rfl), by repeat (first | (with_reducible first | exact HB.out | apply below_alloc | apply pw_below_drewN | apply below_drew1) | exact HB.out)⟩
            · rw [if_neg c31] at H
              have c31b0 : (t166 == false) = false := by simpa using c31
              (try (have c31b1 : decide (t166 = false) = false := by simpa using c31))
              (try (have c31b2 : (t166 == false) = false := by simpa using c31))
              (try (have c31b3 : ¬ (t166 = false) := by simpa using c31))
              clear c31
              obtain rfl := Option.some.inj H
              go_wp2_with (first | ((with_reducible refine gate_callee (f := 16) rfl ?_); refine goesL_ (some 35) rfl rfl Try.func16 (by kernel_rfl) rfl #[.string x6_1] rfl (by (try simp only [List.map_toArray, List.map_cons, List.map_nil]); first | done | rfl | (simp only [List.length_drop, List.length_take]; rfl)) ?_; (with_reducible refine (mark_Name.calls x6_1 t166 _ A24.out).mono ?_); rintro e w35 ⟨rfl, hb⟩; refine ⟨_, rfl, ?_⟩; have n0_ := Aside0.mk (below_step (by repeat (first | (with_reducible first | exact HB.out | apply below_alloc | apply pw_below_drewN | apply below_drew1) | exact HB.out)) hb); clear HB; have HB := n0_; clear n0_; (try clear hb); (try clear hb2); (try clear hk); (try clear hi)))
              go_ret
              exact ⟨by first | rfl | (simp [errW_none, errW_some] <;> rfl) | (simp [*, errW_none, errW_some] <;> rfl), by repeat (first | (with_reducible first | exact HB.out | apply below_alloc | apply pw_below_drewN | apply below_drew1) | exact HB.out)⟩
  · replace c4 := Bool.eq_false_iff.mpr c4
    subst c4
    have H1 : (some false) = some r := by rw [if_neg (show ¬ (false = true) by decide)] at H; exact H
    clear H
    have H := H1
    clear H1
    obtain rfl := Option.some.inj H
    go_enter Try.func6, Try.ntmps6
    go_wp2_with (first | ((with_reducible refine gate_callee (f := 13) rfl ?_); refine goesL_ (some 9) rfl rfl Try.func13 (by kernel_rfl) rfl #[] rfl (by (try simp only [List.map_toArray, List.map_cons, List.map_nil]); first | done | rfl | (simp only [List.length_drop, List.length_take]; rfl)) ?_; (with_reducible refine (joinerylaw2_known.calls  false _ A3.out).mono ?_); rintro e w36 ⟨rfl, hb⟩; refine ⟨_, rfl, ?_⟩; have n0_ := Aside0.mk (below_step (by repeat (first | (with_reducible first | exact HB.out | apply below_alloc | apply pw_below_drewN | apply below_drew1) | exact HB.out)) hb); clear HB; have HB := n0_; clear n0_; (try clear hb); (try clear hb2); (try clear hk); (try clear hi)))
    go_ret
    exact ⟨by first | rfl | (simp [errW_none, errW_some] <;> rfl) | (simp [*, errW_none, errW_some] <;> rfl), by repeat (first | (with_reducible first | exact HB.out | apply below_alloc | apply pw_below_drewN | apply below_drew1) | exact HB.out)⟩

/-- THE ONE PURE STATEMENT of joinerylaw2_MarkLong: yours. -/
def joinerylaw2_MarkLong.Pure : Prop := ∀ (a0 : Int) (l1 : List Int), (Lit.int .i64 a0).wf = true → l1.length ≤ maxLen → l1.length * 8 ≤ 140737488351232 → (∀ x ∈ l1, (Lit.int .i64 x).wf = true) → ∃ k, joinerylaw2_MarkLong.f k a0 l1 = some true
theorem joinerylaw2_MarkLong.walk (P : joinerylaw2_MarkLong.Pure) (a0 : Int) (a1 : Option Addr) (len1 cap1 : Nat) (z1 : List Int) (w : World) (w0 : (Lit.int .i64 a0).wf = true) (w1 : (a1 = none ∧ len1 = 0 ∧ cap1 = 0 ∧ z1 = []) ∨ ∃ x, a1 = some x ∧ len1 ≤ cap1 ∧ cap1 ≤ maxLen ∧ z1.length = cap1 ∧ (∀ i, i < z1.length → w.cell? (x.add i) = some (.int .i64 (z1.getD i 0))) ∧ ∀ n ∈ z1, (Lit.int .i64 n).wf = true) (y1 : len1 * 8 ≤ 140737488351232) :
    Calls Try.prog 6 #[.int .i64 a0, .slice a1 len1 cap1] w fun e w' => e = .returned (.bool true) ∧ Below w.heap.size w w' := by
  obtain ⟨l1, rfl, hr1, hm1, hw1, hc1⟩ := ReadsInt.ofRowC w1
  obtain ⟨k, h⟩ := P a0 l1 w0 hm1 y1 hw1
  refine (joinerylaw2_MarkLong.calls k a0 _ _ l1 true w (Kd.C_of_reads (d := (0 : Int)) (h1 := fun _ => rfl) hr1) hc1 h).mono ?_
  rintro e w' ⟨rfl, hd⟩
  exact ⟨rfl, hd⟩

end Go.Proofs.Ytocndmgimcmfaaa.P
