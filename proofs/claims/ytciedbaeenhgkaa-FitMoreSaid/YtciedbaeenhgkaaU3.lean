-- Printed by wip/tools/gprint.py (the kit's print, hand-proved contracts laid in): functions of the program as Lean functions, each with the proof that the machine's call comes to its answer.
import Derived.Test.YtciedbaeenhgkaaQx0
import Derived.Test.YtciedbaeenhgkaaQx4
import Derived.Test.YtciedbaeenhgkaaQx5
import Derived.Test.YtciedbaeenhgkaaCut
import Derived.Test.YtciedbaeenhgkaaCut
import Derived.Test.YtciedbaeenhgkaaU0
import Derived.Test.YtciedbaeenhgkaaU1
import Derived.Test.YtciedbaeenhgkaaU2
namespace Go.Proofs.Ytciedbaeenhgkaa.M
open Go.RowKit Go.Proofs.Ytciedbaeenhgkaa Go.Proofs.Ytciedbaeenhgkaa.Base Go.Proofs.Ytciedbaeenhgkaa.BaseM Go.Proofs.Ytciedbaeenhgkaa.BaseR Go.Proofs.Ytciedbaeenhgkaa.Q Go.Proofs.YtciedbaeenhgkaaW.PrintWords Go.Proofs.YtciedbaeenhgkaaW.PrintLast Go.Proofs.YtciedbaeenhgkaaW.PrintMore
attribute [local go_sem] fwd_normal fwd_ret fwd_exit fwd_panic max2_int min2_int max_two min_two max_three min_three max_four min_four   -- for this text's walks alone
set_option linter.unusedVariables false
set_option linter.unusedSimpArgs false


set_option maxHeartbeats 8000000 in
set_option maxRecDepth 100000 in
theorem joinerylaw5_FitMore.part1 (k : Nat) (a0 : Int) (a1 : Int) (a2 : Int) (a3 : Int) (a4 : Int) (a5 : Int) (A6 : Option Addr) (c6 : Nat) (l6 : List Int) (r : Bool) (w : World) (hT_ : Aside0 (r = true)) (HR6 : Aside0 ((Kd.int IntKind.i64).C w A6 l6.length l6)) (HC6 : Aside0 (l6.length ≤ c6)) (A8 : Aside0 (joinerylaw5_known.f k = some true)) (t124 : ByteArray) (t125 : Int) (t126 : Int) (t127 : Int) (t128 : List ByteArray) (t131 : List ByteArray) (t134 : Bool) (A10 : Aside0 (joinerylaw3_Pod.f k 0 a0 4 = some (t124, t125, t126, t127, t128, t131, t134))) (t135 : ByteArray) (t136 : Int) (t137 : Int) (t138 : List ByteArray) (t141 : List ByteArray) (t144 : Bool) (A11 : Aside0 (joinerylaw3_Node.f k a1 a2 = some (t135, t136, t137, t138, t141, t144))) (t147 : Int) (A12 : Aside0 (joinerylaw5_within.f a3 12 = some t147)) (t148 : Int) (A13 : Aside0 (joinerylaw5_within.f a4 12 = some t148)) (t150 : List S41) (A14 : Aside0 (joinerylaw5_beside.f k l6 = some t150)) (t153 : Int) (A15 : Aside0 (fit_Why.f k t124 t125 t126 t127 t128 t131 t134 t135 t136 t137 t138 t141 t144 t147 t148 t150 = some t153)) (t155 : Int) (A16 : Aside0 (joinerylaw5_within.f a5 5 = some t155)) (t156 : Int) (A17 : Aside0 (joinerylaw5_within.f (wrap64 (a5.tdiv 5)) 5 = some t156)) (t157 : Int) (A18 : Aside0 (joinerylaw5_within.f a5 5 = some t157)) (ji19 : Int) (hji19 : mx 0 (wrap64 (t147 - t157)) = ji19) (hji19l : 0 ≤ ji19) (hji19m : 0 ≤ ji19) (hji19_ : (if 0 < wrap64 (t147 - t157) then wrap64 (t147 - t157) else 0) = ji19) (t158 : Int) (A20 : Aside0 (joinerylaw5_within.f (wrap64 (a5.tdiv 5)) 5 = some t158)) (ji21 : Int) (hji21 : mx 0 (wrap64 (t148 - t158)) = ji21) (hji21l : 0 ≤ ji21) (hji21m : 0 ≤ ji21) (hji21_ : (if 0 < wrap64 (t148 - t158) then wrap64 (t148 - t158) else 0) = ji21) (HC22 : Aside0 ((if t153 = 0 then (joinerylaw5_beside.f k l6).bind fun t160 => (fit_Why.f k t124 t125 t126 t127 t128 t131 t134 t135 (wrap64 (t136 + t155)) (wrap64 (t137 + t156)) t138 t141 t144 t147 t148 t160).bind fun t163 => if t163 = 0 then (joinerylaw5_beside.f k l6).bind fun t164 => (fit_Why.f k t124 t125 t126 t127 t128 t131 t134 t135 t136 t137 t138 t141 t144 ji19 ji21 t164).bind fun t167 => if t167 = 0 then (fit_Why.f k t124 t125 t126 t127 t128 t131 t134 t135 t136 t137 t138 t141 t144 t147 t148 []).bind fun t168 => j0 k l6 (t168 != 0) t124 t125 t126 t127 t128 t131 t134 t135 t136 t137 t138 t141 t144 t147 t148 else j0 k l6 true t124 t125 t126 t127 t128 t131 t134 t135 t136 t137 t138 t141 t144 t147 t148 else j0 k l6 true t124 t125 t126 t127 t128 t131 t134 t135 t136 t137 t138 t141 t144 t147 t148 else j0 k l6 false t124 t125 t126 t127 t128 t131 t134 t135 t136 t137 t138 t141 t144 t147 t148) = some r)) (gb145 : Nat) (GE145 : Aside0 (w.heap.size ≤ gb145)) (gb146 : Nat) (GE146 : Aside0 (w.heap.size ≤ gb146)) (NB145_146 : Aside0 (gb145 ≠ gb146)) (NB146_145 : Aside0 (gb146 ≠ gb145)) (Ao30 : Option Addr) (co30 : Nat) (Ao31 : Option Addr) (co31 : Nat) (Ao33 : Option Addr) (co33 : Nat) (Ao34 : Option Addr) (co34 : Nat) (gb149 : Nat) (GE149 : Aside0 (w.heap.size ≤ gb149)) (NB145_149 : Aside0 (gb145 ≠ gb149)) (NB149_145 : Aside0 (gb149 ≠ gb145)) (NB146_149 : Aside0 (gb146 ≠ gb149)) (NB149_146 : Aside0 (gb149 ≠ gb146)) (Ao42 : Option Addr) (co42 : Nat) (gb154 : Nat) (GE154 : Aside0 (w.heap.size ≤ gb154)) (NB145_154 : Aside0 (gb145 ≠ gb154)) (NB154_145 : Aside0 (gb154 ≠ gb145)) (NB146_154 : Aside0 (gb146 ≠ gb154)) (NB154_146 : Aside0 (gb154 ≠ gb146)) (nd : Nat) (w54 : World) (HO130 : Aside0 (Kd.string.R 9 w54.drew w.heap.size (fun k_ => some k_ ≠ (Value.slice Ao31 t131.length co31).ownBlock ∧ some k_ ≠ (Value.slice Ao33 t138.length co33).ownBlock ∧ some k_ ≠ (Value.slice Ao34 t141.length co34).ownBlock) (Value.slice Ao30 t128.length co30) t128)) (HO133 : Aside0 (Kd.string.R 9 w54.drew w.heap.size (fun k_ => some k_ ≠ (Value.slice Ao30 t128.length co30).ownBlock ∧ some k_ ≠ (Value.slice Ao33 t138.length co33).ownBlock ∧ some k_ ≠ (Value.slice Ao34 t141.length co34).ownBlock) (Value.slice Ao31 t131.length co31) t131)) (HO140 : Aside0 (Kd.string.R 9 w54.drew w.heap.size (fun k_ => some k_ ≠ (Value.slice Ao30 t128.length co30).ownBlock ∧ some k_ ≠ (Value.slice Ao31 t131.length co31).ownBlock ∧ some k_ ≠ (Value.slice Ao34 t141.length co34).ownBlock) (Value.slice Ao33 t138.length co33) t138)) (HO143 : Aside0 (Kd.string.R 9 w54.drew w.heap.size (fun k_ => some k_ ≠ (Value.slice Ao30 t128.length co30).ownBlock ∧ some k_ ≠ (Value.slice Ao31 t131.length co31).ownBlock ∧ some k_ ≠ (Value.slice Ao33 t138.length co33).ownBlock) (Value.slice Ao34 t141.length co34) t141)) (HO152 : Aside0 (k41.R 41 w54.drew w.heap.size (fun x => True) (Value.slice Ao42 t150.length co42) t150)) (BK145 : Aside0 (w54.drew.heap[gb145]? = some (Obj.cells #[Value.string t124, Value.int IntKind.i64 t125, Value.int IntKind.i64 t126, Value.int IntKind.i64 t127, Value.slice Ao30 t128.length co30, Value.slice Ao31 t131.length co31, Value.bool t134] 28))) (BK146 : Aside0 (w54.drew.heap[gb146]? = some (Obj.cells #[Value.string t135, Value.int IntKind.i64 t136, Value.int IntKind.i64 t137, Value.slice Ao33 t138.length co33, Value.slice Ao34 t141.length co34, Value.bool t144] 31))) (BK149 : Aside0 (w54.drew.heap[gb149]? = some (Obj.cells #[Value.int IntKind.i64 t147, Value.int IntKind.i64 t148] 25))) (BK154 : Aside0 (w54.drew.heap[gb154]? = some (Obj.cells #[Value.string t135, Value.int IntKind.i64 (wrap64 (t136 + t155)), Value.int IntKind.i64 (wrap64 (t137 + t156)), Value.slice Ao33 t138.length co33, Value.slice Ao34 t141.length co34, Value.bool t144] 31))) (HB : Aside0 (Below w.heap.size w w54.drew)) (Kc0 : Act → World → Prop) (hKc0 : ∀ (a_0 : Act) (w_0 : World), Code.wp Try.prog ((Try.f5.body.bind (fromRegion 9)).getD .skip) (bodyPost Try.prog Try.f5 fun e w' => e = Ending.returned (Value.bool r) ∧ Below w.heap.size w w') a_0 w_0 → Kc0 a_0 w_0) :
    Code.wp Try.prog ((Try.f5.body.bind (regionAt 8)).getD .skip) (Exit.then Kc0 (bodyPost Try.prog Try.f5 fun e w' => e = Ending.returned (Value.bool r) ∧ Below w.heap.size w w')) (Act.mk (List.toArray (Value.int IntKind.i64 a0 :: Value.int IntKind.i64 a1 :: Value.int IntKind.i64 a2 :: Value.int IntKind.i64 a3 :: Value.int IntKind.i64 a4 :: Value.int IntKind.i64 a5 :: Value.slice A6 l6.length c6 :: undef :: undef :: undef :: undef :: undef :: undef :: undef :: Value.bool false :: Value.pointer (some (Addr.mk gb145 0 none)) :: Value.pointer (some (Addr.mk gb146 0 none)) :: Value.pointer (some (Addr.mk gb149 0 none)) :: Value.int IntKind.i64 t153 :: Value.pointer (some (Addr.mk gb154 0 none)) :: undef :: undef :: undef :: Value.bool true :: Value.bool false :: Value.int IntKind.i64 a0 :: Value.agg #[Value.string t124, Value.int IntKind.i64 t125, Value.int IntKind.i64 t126, Value.int IntKind.i64 t127, Value.slice Ao30 t128.length co30, Value.slice Ao31 t131.length co31, Value.bool t134] :: Value.int IntKind.i64 a1 :: Value.int IntKind.i64 a2 :: Value.agg #[Value.string t135, Value.int IntKind.i64 t136, Value.int IntKind.i64 t137, Value.slice Ao33 t138.length co33, Value.slice Ao34 t141.length co34, Value.bool t144] :: Value.int IntKind.i64 a3 :: Value.int IntKind.i64 t147 :: Value.int IntKind.i64 a4 :: Value.int IntKind.i64 t148 :: Value.agg #[Value.int IntKind.i64 t147, Value.int IntKind.i64 t148] :: Value.agg #[Value.string t124, Value.int IntKind.i64 t125, Value.int IntKind.i64 t126, Value.int IntKind.i64 t127, Value.slice Ao30 t128.length co30, Value.slice Ao31 t131.length co31, Value.bool t134] :: Value.agg #[Value.string t135, Value.int IntKind.i64 t136, Value.int IntKind.i64 t137, Value.slice Ao33 t138.length co33, Value.slice Ao34 t141.length co34, Value.bool t144] :: Value.agg #[Value.int IntKind.i64 t147, Value.int IntKind.i64 t148] :: Value.slice A6 l6.length c6 :: Value.slice Ao42 t150.length co42 :: Value.int IntKind.i64 t153 :: Value.agg #[Value.string t135, Value.int IntKind.i64 t136, Value.int IntKind.i64 t137, Value.slice Ao33 t138.length co33, Value.slice Ao34 t141.length co34, Value.bool t144] :: Value.pointer (some (Addr.mk gb146 1 none)) :: Value.pointer (some (Addr.mk gb146 1 none)) :: Value.int IntKind.i64 t136 :: Value.int IntKind.i64 a5 :: Value.int IntKind.i64 t155 :: Value.int IntKind.i64 (wrap64 (t136 + t155)) :: Value.pointer (some (Addr.mk gb146 1 none)) :: Value.pointer (some (Addr.mk gb146 2 none)) :: Value.int IntKind.i64 t137 :: Value.int IntKind.i64 a5 :: Value.int IntKind.i64 (wrap64 (a5.tdiv 5)) :: Value.int IntKind.i64 t156 :: Value.int IntKind.i64 (wrap64 (t137 + t156)) :: Value.agg #[Value.int IntKind.i64 (wrap64 (t136 + t155)), Value.int IntKind.i64 (wrap64 (t137 + t156))] :: Value.pointer (some (Addr.mk gb154 1 none)) :: undef :: undef :: undef :: undef :: undef :: undef :: undef :: undef :: undef :: undef :: undef :: undef :: undef :: undef :: undef :: undef :: undef :: undef :: undef :: undef :: undef :: undef :: undef :: undef :: undef :: undef :: undef :: undef :: undef :: undef :: undef :: undef :: undef :: undef :: undef :: undef :: undef :: undef :: undef :: undef :: undef :: undef :: undef :: undef :: undef :: undef :: undef :: undef :: undef :: undef :: undef :: undef :: undef :: undef :: undef :: undef :: undef :: undef :: undef :: undef :: undef :: undef :: undef :: undef :: undef :: [])) []) w54 := by
  have hu28 := Try.underlying28
  have hu31 := Try.underlying31
  have hu25 := Try.underlying25
  conv => arg 2; whnf
  conv at hKc0 => enter [a_0, w_0, 1, 2]; whnf
  refine start_ (n := 16) (S := fun w' => w'.cell? ⟨gb149, 0, none⟩ = some (.int .i64 t147) ∧ w'.cell? ⟨gb149, 1, none⟩ = some (.int .i64 t148)) (ds := []) #[false, false, false, false, false, false, false, false, false, false, false, false, false, false, false, false] (by kernel_rfl) rfl rfl ⟨(blk_cell BK149.out 0).trans rfl, (blk_cell BK149.out 1).trans rfl⟩ (fun hHeld => ?_); refine with_tabW joinerylaw5_FitMore.tab8 joinerylaw5_FitMore.bits8 (fun HT_ HW_ => ?_)
  generalize w54.drew = w55 at HO130 HO133 HO140 HO143 HO152 BK145 BK146 BK149 BK154 HB hHeld ⊢
  refine pure_ (i := 0) (N := some 57) (v := ?_) (a' := ?_) #[true, false, false, false, false, false, false, false, false, false, false, false, false, false, false, false] rfl rfl (any_of HT_.out (by kernel_rfl)) (fun _ _ _ h => h) (Or.inl ⟨by rfl, ?_⟩) ?_ ?_
  rotate_left
  · intro w'
    go_simp
    with_reducible rfl
  rotate_left
  · simp only [Act.put, List.setIfInBounds_toArray, List.set_cons_zero, List.set_cons_succ, i64_w, i32_w]
    rfl
  refine pure_ (i := 2) (N := some 59) (v := ?_) (a' := ?_) #[true, false, true, false, false, false, false, false, false, false, false, false, false, false, false, false] rfl rfl (any_of HT_.out (by kernel_rfl)) (fun _ _ _ h => h) (Or.inl ⟨by rfl, ?_⟩) ?_ ?_
  rotate_left
  · intro w'
    go_simp
    with_reducible rfl
  rotate_left
  · simp only [Act.put, List.setIfInBounds_toArray, List.set_cons_zero, List.set_cons_succ, i64_w, i32_w]
    rfl
  refine pure_ (i := 6) (N := some 63) (v := ?_) (a' := ?_) #[true, false, true, false, false, false, true, false, false, false, false, false, false, false, false, false] rfl rfl (any_of HT_.out (by kernel_rfl)) (fun _ _ _ h => h) (Or.inl ⟨by rfl, ?_⟩) ?_ ?_
  rotate_left
  · intro w'
    go_simp
    with_reducible rfl
  rotate_left
  · simp only [Act.put, List.setIfInBounds_toArray, List.set_cons_zero, List.set_cons_succ, i64_w, i32_w]
    rfl
  refine pure_ (i := 8) (N := some 65) (v := ?_) (a' := ?_) #[true, false, true, false, false, false, true, false, true, false, false, false, false, false, false, false] rfl rfl (any_of HT_.out (by kernel_rfl)) (fun _ _ _ h => h) (Or.inl ⟨by rfl, ?_⟩) ?_ ?_
  rotate_left
  · intro w'
    go_simp
    with_reducible rfl
  rotate_left
  · simp only [Act.put, List.setIfInBounds_toArray, List.set_cons_zero, List.set_cons_succ, i64_w, i32_w]
    rfl
  refine pure_ (i := 9) (N := some 66) (v := ?_) (a' := ?_) #[true, false, true, false, false, false, true, false, true, true, false, false, false, false, false, false] rfl rfl (any_of HT_.out (by kernel_rfl)) (fun _ _ _ h => h) (Or.inl ⟨by rfl, ?_⟩) ?_ ?_
  rotate_left
  · intro w'
    go_simp
    with_reducible rfl
  rotate_left
  · simp only [Act.put, List.setIfInBounds_toArray, List.set_cons_zero, List.set_cons_succ, i64_w, i32_w]
    rfl
  refine take_ (i := 1) (N := some 58) (v := ?_) (a' := ?_) #[true, true, true, false, false, false, true, false, true, true, false, false, false, false, false, false] rfl rfl (take_ofW HT_.out HW_.out (by kernel_rfl)) (fun _ _ _ h => h) (Or.inl ⟨by rfl, ?_⟩) hHeld ?_ ?_
  rotate_left
  · rintro w' ⟨s0, s1⟩
    go_simp
    with_reducible rfl
  rotate_left
  · simp only [Act.put, List.setIfInBounds_toArray, List.set_cons_zero, List.set_cons_succ, i64_w, i32_w]
    rfl
  refine take_ (i := 7) (N := some 64) (v := ?_) (a' := ?_) #[true, true, true, false, false, false, true, true, true, true, false, false, false, false, false, false] rfl rfl (take_ofW HT_.out HW_.out (by kernel_rfl)) (fun _ _ _ h => h) (Or.inl ⟨by rfl, ?_⟩) hHeld ?_ ?_
  rotate_left
  · rintro w' ⟨s0, s1⟩
    go_simp
    with_reducible rfl
  rotate_left
  · simp only [Act.put, List.setIfInBounds_toArray, List.set_cons_zero, List.set_cons_succ, i64_w, i32_w]
    rfl
  refine join_ (σ := Nat) 1 #[true, true, true, true, true, true, true, true, true, true, true, true, true, true, true, false] (fun s_ => [(60, .int .i64 t157), (67, .int .i64 t158), (20, .pointer (some ⟨s_, 0, none⟩)), (61, .int .i64 (wrap64 (t147 - t157))), (62, .int .i64 ji19), (68, .int .i64 (wrap64 (t148 - t158))), (69, .int .i64 ji21), (70, .agg #[.int .i64 ji19, .int .i64 ji21])]) (fun s_ w' => (w'.cell? ⟨gb149, 0, none⟩ = some (.int .i64 t147) ∧ w'.cell? ⟨gb149, 1, none⟩ = some (.int .i64 t148)) ∧ (Kd.R Kd.string 9 w' w.heap.size (fun k_ => some k_ ≠ (.slice Ao31 t131.length co31 : Value).ownBlock ∧ some k_ ≠ (.slice Ao33 t138.length co33 : Value).ownBlock ∧ some k_ ≠ (.slice Ao34 t141.length co34 : Value).ownBlock) (.slice Ao30 t128.length co30) t128) ∧ (Kd.R Kd.string 9 w' w.heap.size (fun k_ => some k_ ≠ (.slice Ao30 t128.length co30 : Value).ownBlock ∧ some k_ ≠ (.slice Ao33 t138.length co33 : Value).ownBlock ∧ some k_ ≠ (.slice Ao34 t141.length co34 : Value).ownBlock) (.slice Ao31 t131.length co31) t131) ∧ (Kd.R Kd.string 9 w' w.heap.size (fun k_ => some k_ ≠ (.slice Ao30 t128.length co30 : Value).ownBlock ∧ some k_ ≠ (.slice Ao31 t131.length co31 : Value).ownBlock ∧ some k_ ≠ (.slice Ao34 t141.length co34 : Value).ownBlock) (.slice Ao33 t138.length co33) t138) ∧ (Kd.R Kd.string 9 w' w.heap.size (fun k_ => some k_ ≠ (.slice Ao30 t128.length co30 : Value).ownBlock ∧ some k_ ≠ (.slice Ao31 t131.length co31 : Value).ownBlock ∧ some k_ ≠ (.slice Ao33 t138.length co33 : Value).ownBlock) (.slice Ao34 t141.length co34) t141) ∧ (Kd.R k41 41 w' w.heap.size (fun _ => True) (.slice Ao42 t150.length co42) t150) ∧ (w'.heap[gb145]? = some (.cells #[.string t124, .int .i64 t125, .int .i64 t126, .int .i64 t127, .slice Ao30 t128.length co30, .slice Ao31 t131.length co31, .bool t134] 28 (0, 0))) ∧ (w'.heap[gb146]? = some (.cells #[.string t135, .int .i64 t136, .int .i64 t137, .slice Ao33 t138.length co33, .slice Ao34 t141.length co34, .bool t144] 31 (0, 0))) ∧ (w'.heap[gb149]? = some (.cells #[.int .i64 t147, .int .i64 t148] 25 (0, 0))) ∧ (w'.heap[gb154]? = some (.cells #[.string t135, .int .i64 (wrap64 (t136 + t155)), .int .i64 (wrap64 (t137 + t156)), .slice Ao33 t138.length co33, .slice Ao34 t141.length co34, .bool t144] 31 (0, 0))) ∧ (w'.heap[s_]? = some (.cells #[.int .i64 0, .int .i64 0] 25 (0, 0))) ∧ (w.heap.size ≤ s_) ∧ (w.heap.size ≤ s_) ∧ (gb145 ≠ s_) ∧ (s_ ≠ gb145) ∧ (gb146 ≠ s_) ∧ (s_ ≠ gb146) ∧ (gb149 ≠ s_) ∧ (s_ ≠ gb149) ∧ (gb154 ≠ s_) ∧ (s_ ≠ gb154) ∧ (Below w.heap.size w w')) ?_ ?_
  rotate_left
  · intro hCont
    refine two_ (i := 3) (j := 14) (Ni := some 60) (Nj := some 20) #[true, true, true, true, false, false, true, true, true, true, false, false, false, false, false, false] #[true, true, true, false, false, false, true, true, true, true, false, false, false, false, true, false] rfl rfl rfl rfl (two_of HT_.out (by kernel_rfl)) (by decide) (by decide) (fun K hK => ?_) (fun K hK => ?_)
    · skip
      refine goes_ Try.func14 (by kernel_rfl) rfl #[.int .i64 a5, .int .i64 5] (by rfl) rfl rfl (by (try simp only [List.map_toArray, List.map_cons, List.map_nil]); first | done | rfl | (simp only [List.length_drop, List.length_take]; rfl)) ?_
      with_reducible refine (joinerylaw5_within.calls a5 5 t157 _ A18.out).mono ?_
      rintro e w' ⟨rfl, ⟨nd, rfl⟩⟩
      refine ⟨_, rfl, ?_⟩
      refine hK.out _ _ ⟨(blk_cell BK149.out 0).trans rfl, (blk_cell BK149.out 1).trans rfl⟩ (fun hHeld => ?_)
      clear hK K
      refine norm_ (a' := ?_) ?_ ?_
      rotate_left
      · show Act.put _ (some 60) _ = _
        simp only [Act.put, List.setIfInBounds_toArray, List.set_cons_zero, List.set_cons_succ, i64_w, i32_w]
        rfl
      refine pure_ (i := 4) (N := some 61) (v := ?_) (a' := ?_) #[true, true, true, true, true, false, true, true, true, true, false, false, false, false, false, false] rfl rfl (any_of HT_.out (by kernel_rfl)) (fun _ _ _ h => h) (Or.inl ⟨by rfl, ?_⟩) ?_ ?_
      rotate_left
      · intro w'
        go_simp
        with_reducible rfl
      rotate_left
      · simp only [Act.put, List.setIfInBounds_toArray, List.set_cons_zero, List.set_cons_succ, i64_w, i32_w]
        rfl
      refine pure_ (i := 5) (N := some 62) (v := ?_) (a' := ?_) #[true, true, true, true, true, true, true, true, true, true, false, false, false, false, false, false] rfl rfl (any_of HT_.out (by kernel_rfl)) (fun _ _ _ h => h) (Or.inl ⟨by rfl, ?_⟩) ?_ ?_
      rotate_left
      · intro w'
        go_simp
        with_reducible rfl
      rotate_left
      · simp only [Act.put, List.setIfInBounds_toArray, List.set_cons_zero, List.set_cons_succ, i64_w, i32_w]
        rfl
      refine two_ (i := 10) (j := 14) (Ni := some 67) (Nj := some 20) #[true, true, true, true, true, true, true, true, true, true, true, false, false, false, false, false] #[true, true, true, true, true, true, true, true, true, true, false, false, false, false, true, false] rfl rfl rfl rfl (two_of HT_.out (by kernel_rfl)) (by decide) (by decide) (fun K hK => ?_) (fun K hK => ?_)
      · skip
        refine goes_ Try.func14 (by kernel_rfl) rfl #[.int .i64 (wrap64 (Int.tdiv a5 5)), .int .i64 5] (by rfl) rfl rfl (by (try simp only [List.map_toArray, List.map_cons, List.map_nil]); first | done | rfl | (simp only [List.length_drop, List.length_take]; rfl)) ?_
        with_reducible refine (joinerylaw5_within.calls (wrap64 (Int.tdiv a5 5)) 5 t158 _ A20.out).mono ?_
        rintro e w' ⟨rfl, ⟨nd, rfl⟩⟩
        refine ⟨_, rfl, ?_⟩
        refine hK.out _ _ ⟨(blk_cell BK149.out 0).trans rfl, (blk_cell BK149.out 1).trans rfl⟩ (fun hHeld => ?_)
        clear hK K
        refine norm_ (a' := ?_) ?_ ?_
        rotate_left
        · show Act.put _ (some 67) _ = _
          simp only [Act.put, List.setIfInBounds_toArray, List.set_cons_zero, List.set_cons_succ, i64_w, i32_w]
          rfl
        refine pure_ (i := 11) (N := some 68) (v := ?_) (a' := ?_) #[true, true, true, true, true, true, true, true, true, true, true, true, false, false, false, false] rfl rfl (any_of HT_.out (by kernel_rfl)) (fun _ _ _ h => h) (Or.inl ⟨by rfl, ?_⟩) ?_ ?_
        rotate_left
        · intro w'
          go_simp
          with_reducible rfl
        rotate_left
        · simp only [Act.put, List.setIfInBounds_toArray, List.set_cons_zero, List.set_cons_succ, i64_w, i32_w]
          rfl
        refine pure_ (i := 12) (N := some 69) (v := ?_) (a' := ?_) #[true, true, true, true, true, true, true, true, true, true, true, true, true, false, false, false] rfl rfl (any_of HT_.out (by kernel_rfl)) (fun _ _ _ h => h) (Or.inl ⟨by rfl, ?_⟩) ?_ ?_
        rotate_left
        · intro w'
          go_simp
          with_reducible rfl
        rotate_left
        · simp only [Act.put, List.setIfInBounds_toArray, List.set_cons_zero, List.set_cons_succ, i64_w, i32_w]
          rfl
        refine pure_ (i := 13) (N := some 70) (v := ?_) (a' := ?_) #[true, true, true, true, true, true, true, true, true, true, true, true, true, true, false, false] rfl rfl (any_of HT_.out (by kernel_rfl)) (fun _ _ _ h => h) (Or.inl ⟨by rfl, ?_⟩) ?_ ?_
        rotate_left
        · intro w'
          go_simp
          with_reducible rfl
        rotate_left
        · simp only [Act.put, List.setIfInBounds_toArray, List.set_cons_zero, List.set_cons_succ, i64_w, i32_w]
          rfl
        refine one_ (i := 14) (N := some 20) #[true, true, true, true, true, true, true, true, true, true, true, true, true, true, true, false] rfl rfl (one_of HT_.out (by kernel_rfl)) (by decide) (fun K hK => ?_)
        refine box_step ?hg (N := 20) ?hd (cs := #[.int .i64 0, .int .i64 0]) (t := 25) ?hr ?_; (case hd => rfl); (case hg => rfl); (case hr => first | (go_simp; done) | (go_simp; rfl))
        intro gb159 hg w56 hbox hb
        have n0_ := Aside0.mk (Kd.R_below (by (with_reducible repeat (first | apply Kd.R_alloc | apply Kd.R_drewN | apply Kd.R_drew)); exact HO130.out) hb)
        have n1_ := Aside0.mk (Kd.R_below (by (with_reducible repeat (first | apply Kd.R_alloc | apply Kd.R_drewN | apply Kd.R_drew)); exact HO133.out) hb)
        have n2_ := Aside0.mk (Kd.R_below (by (with_reducible repeat (first | apply Kd.R_alloc | apply Kd.R_drewN | apply Kd.R_drew)); exact HO140.out) hb)
        have n3_ := Aside0.mk (Kd.R_below (by (with_reducible repeat (first | apply Kd.R_alloc | apply Kd.R_drewN | apply Kd.R_drew)); exact HO143.out) hb)
        have n4_ := Aside0.mk (Kd.R_below (by (with_reducible repeat (first | apply Kd.R_alloc | apply Kd.R_drewN | apply Kd.R_drew)); exact HO152.out) hb)
        have n5_ := Aside0.mk (blk_below (g := gb145) (o := .cells #[.string t124, .int .i64 t125, .int .i64 t126, .int .i64 t127, .slice Ao30 t128.length co30, .slice Ao31 t131.length co31, .bool t134] 28 (0, 0)) (by (with_reducible repeat (first | refine blk_drewN ?_ _ | refine blk_drew ?_ | refine blk_alloc ?_ _)); exact BK145.out) hb)
        have n6_ := Aside0.mk (blk_below (g := gb146) (o := .cells #[.string t135, .int .i64 t136, .int .i64 t137, .slice Ao33 t138.length co33, .slice Ao34 t141.length co34, .bool t144] 31 (0, 0)) (by (with_reducible repeat (first | refine blk_drewN ?_ _ | refine blk_drew ?_ | refine blk_alloc ?_ _)); exact BK146.out) hb)
        have n7_ := Aside0.mk (blk_below (g := gb149) (o := .cells #[.int .i64 t147, .int .i64 t148] 25 (0, 0)) (by (with_reducible repeat (first | refine blk_drewN ?_ _ | refine blk_drew ?_ | refine blk_alloc ?_ _)); exact BK149.out) hb)
        have n8_ := Aside0.mk (blk_below (g := gb154) (o := .cells #[.string t135, .int .i64 (wrap64 (t136 + t155)), .int .i64 (wrap64 (t137 + t156)), .slice Ao33 t138.length co33, .slice Ao34 t141.length co34, .bool t144] 31 (0, 0)) (by (with_reducible repeat (first | refine blk_drewN ?_ _ | refine blk_drew ?_ | refine blk_alloc ?_ _)); exact BK154.out) hb)
        have n9_ := Aside0.mk (below_step (by repeat (first | (with_reducible first | exact HB.out | apply below_alloc | apply pw_below_drewN | apply below_drew1 | refine below_set ?_ GE145.out | refine below_set ?_ GE146.out | refine below_set ?_ GE149.out | refine below_set ?_ GE154.out) | exact HB.out)) hb)
        have n10_ := Aside0.mk (hbox)
        have n11_ := Aside0.mk ((by rw [hg]; exact (below_size (by repeat (first | (with_reducible first | exact HB.out | apply below_alloc | apply pw_below_drewN | apply below_drew1 | refine below_set ?_ GE145.out | refine below_set ?_ GE146.out | refine below_set ?_ GE149.out | refine below_set ?_ GE154.out) | exact HB.out))) : w.heap.size ≤ gb159))
        have n12_ := Aside0.mk ((by rw [hg]; exact (below_size (by repeat (first | (with_reducible first | exact HB.out | apply below_alloc | apply pw_below_drewN | apply below_drew1 | refine below_set ?_ GE145.out | refine below_set ?_ GE146.out | refine below_set ?_ GE149.out | refine below_set ?_ GE154.out) | exact HB.out))) : w.heap.size ≤ gb159))
        have n13_ := Aside0.mk ((by rw [hg]; exact Nat.ne_of_lt (blk_lt (g := gb145) (o := .cells #[.string t124, .int .i64 t125, .int .i64 t126, .int .i64 t127, .slice Ao30 t128.length co30, .slice Ao31 t131.length co31, .bool t134] 28 (0, 0)) (by (with_reducible repeat (first | refine blk_drewN ?_ _ | refine blk_drew ?_ | refine blk_alloc ?_ _)); exact BK145.out)) : gb145 ≠ gb159))
        have n14_ := Aside0.mk ((by rw [hg]; exact Nat.ne_of_gt (blk_lt (g := gb145) (o := .cells #[.string t124, .int .i64 t125, .int .i64 t126, .int .i64 t127, .slice Ao30 t128.length co30, .slice Ao31 t131.length co31, .bool t134] 28 (0, 0)) (by (with_reducible repeat (first | refine blk_drewN ?_ _ | refine blk_drew ?_ | refine blk_alloc ?_ _)); exact BK145.out)) : gb159 ≠ gb145))
        have n15_ := Aside0.mk ((by rw [hg]; exact Nat.ne_of_lt (blk_lt (g := gb146) (o := .cells #[.string t135, .int .i64 t136, .int .i64 t137, .slice Ao33 t138.length co33, .slice Ao34 t141.length co34, .bool t144] 31 (0, 0)) (by (with_reducible repeat (first | refine blk_drewN ?_ _ | refine blk_drew ?_ | refine blk_alloc ?_ _)); exact BK146.out)) : gb146 ≠ gb159))
        have n16_ := Aside0.mk ((by rw [hg]; exact Nat.ne_of_gt (blk_lt (g := gb146) (o := .cells #[.string t135, .int .i64 t136, .int .i64 t137, .slice Ao33 t138.length co33, .slice Ao34 t141.length co34, .bool t144] 31 (0, 0)) (by (with_reducible repeat (first | refine blk_drewN ?_ _ | refine blk_drew ?_ | refine blk_alloc ?_ _)); exact BK146.out)) : gb159 ≠ gb146))
        have n17_ := Aside0.mk ((by rw [hg]; exact Nat.ne_of_lt (blk_lt (g := gb149) (o := .cells #[.int .i64 t147, .int .i64 t148] 25 (0, 0)) (by (with_reducible repeat (first | refine blk_drewN ?_ _ | refine blk_drew ?_ | refine blk_alloc ?_ _)); exact BK149.out)) : gb149 ≠ gb159))
        have n18_ := Aside0.mk ((by rw [hg]; exact Nat.ne_of_gt (blk_lt (g := gb149) (o := .cells #[.int .i64 t147, .int .i64 t148] 25 (0, 0)) (by (with_reducible repeat (first | refine blk_drewN ?_ _ | refine blk_drew ?_ | refine blk_alloc ?_ _)); exact BK149.out)) : gb159 ≠ gb149))
        have n19_ := Aside0.mk ((by rw [hg]; exact Nat.ne_of_lt (blk_lt (g := gb154) (o := .cells #[.string t135, .int .i64 (wrap64 (t136 + t155)), .int .i64 (wrap64 (t137 + t156)), .slice Ao33 t138.length co33, .slice Ao34 t141.length co34, .bool t144] 31 (0, 0)) (by (with_reducible repeat (first | refine blk_drewN ?_ _ | refine blk_drew ?_ | refine blk_alloc ?_ _)); exact BK154.out)) : gb154 ≠ gb159))
        have n20_ := Aside0.mk ((by rw [hg]; exact Nat.ne_of_gt (blk_lt (g := gb154) (o := .cells #[.string t135, .int .i64 (wrap64 (t136 + t155)), .int .i64 (wrap64 (t137 + t156)), .slice Ao33 t138.length co33, .slice Ao34 t141.length co34, .bool t144] 31 (0, 0)) (by (with_reducible repeat (first | refine blk_drewN ?_ _ | refine blk_drew ?_ | refine blk_alloc ?_ _)); exact BK154.out)) : gb159 ≠ gb154))
        clear HO130
        clear HO133
        clear HO140
        clear HO143
        clear HO152
        clear BK145
        clear BK146
        clear BK149
        clear BK154
        clear HB
        have HO130 := n0_
        have HO133 := n1_
        have HO140 := n2_
        have HO143 := n3_
        have HO152 := n4_
        have BK145 := n5_
        have BK146 := n6_
        have BK149 := n7_
        have BK154 := n8_
        have HB := n9_
        have BK159 := n10_
        have GW159 := n11_
        have GE159 := n12_
        have NB145_159 := n13_
        have NB159_145 := n14_
        have NB146_159 := n15_
        have NB159_146 := n16_
        have NB149_159 := n17_
        have NB159_149 := n18_
        have NB154_159 := n19_
        have NB159_154 := n20_
        clear n0_ n1_ n2_ n3_ n4_ n5_ n6_ n7_ n8_ n9_ n10_ n11_ n12_ n13_ n14_ n15_ n16_ n17_ n18_ n19_ n20_
        clear hb hbox hg
        refine hK.out _ _ ⟨(blk_cell BK149.out 0).trans rfl, (blk_cell BK149.out 1).trans rfl⟩ (fun hHeld => ?_)
        clear hK K
        refine norm_ (a' := ?_) ?_ ?_
        rotate_left
        · show Act.put _ (some 20) _ = _
          simp only [Act.put, List.setIfInBounds_toArray, List.set_cons_zero, List.set_cons_succ, i64_w, i32_w]
          rfl
        exact norm_ (by simp only [putAll, Act.put, List.setIfInBounds_toArray, List.set_cons_zero, List.set_cons_succ]) (hCont (gb159) _ ⟨hHeld, (by (with_reducible repeat (first | apply Kd.R_alloc | apply Kd.R_drewN | apply Kd.R_drew)); exact HO130.out), (by (with_reducible repeat (first | apply Kd.R_alloc | apply Kd.R_drewN | apply Kd.R_drew)); exact HO133.out), (by (with_reducible repeat (first | apply Kd.R_alloc | apply Kd.R_drewN | apply Kd.R_drew)); exact HO140.out), (by (with_reducible repeat (first | apply Kd.R_alloc | apply Kd.R_drewN | apply Kd.R_drew)); exact HO143.out), (by (with_reducible repeat (first | apply Kd.R_alloc | apply Kd.R_drewN | apply Kd.R_drew)); exact HO152.out), (by (with_reducible repeat (first | refine blk_drewN ?_ _ | refine blk_drew ?_ | refine blk_alloc ?_ _)); exact BK145.out), (by (with_reducible repeat (first | refine blk_drewN ?_ _ | refine blk_drew ?_ | refine blk_alloc ?_ _)); exact BK146.out), (by (with_reducible repeat (first | refine blk_drewN ?_ _ | refine blk_drew ?_ | refine blk_alloc ?_ _)); exact BK149.out), (by (with_reducible repeat (first | refine blk_drewN ?_ _ | refine blk_drew ?_ | refine blk_alloc ?_ _)); exact BK154.out), (by (with_reducible repeat (first | refine blk_drewN ?_ _ | refine blk_drew ?_ | refine blk_alloc ?_ _)); exact BK159.out), GW159.out, GE159.out, NB145_159.out, NB159_145.out, NB146_159.out, NB159_146.out, NB149_159.out, NB159_149.out, NB154_159.out, NB159_154.out, (by repeat (first | (with_reducible first | exact HB.out | apply below_alloc | apply pw_below_drewN | apply below_drew1 | refine below_set ?_ GE145.out | refine below_set ?_ GE146.out | refine below_set ?_ GE149.out | refine below_set ?_ GE154.out | refine below_set ?_ GE159.out) | exact HB.out))⟩)
      · skip
        refine box_step ?hg (N := 20) ?hd (cs := #[.int .i64 0, .int .i64 0]) (t := 25) ?hr ?_; (case hd => rfl); (case hg => rfl); (case hr => first | (go_simp; done) | (go_simp; rfl))
        intro gb159 hg w56 hbox hb
        have n0_ := Aside0.mk (Kd.R_below (by (with_reducible repeat (first | apply Kd.R_alloc | apply Kd.R_drewN | apply Kd.R_drew)); exact HO130.out) hb)
        have n1_ := Aside0.mk (Kd.R_below (by (with_reducible repeat (first | apply Kd.R_alloc | apply Kd.R_drewN | apply Kd.R_drew)); exact HO133.out) hb)
        have n2_ := Aside0.mk (Kd.R_below (by (with_reducible repeat (first | apply Kd.R_alloc | apply Kd.R_drewN | apply Kd.R_drew)); exact HO140.out) hb)
        have n3_ := Aside0.mk (Kd.R_below (by (with_reducible repeat (first | apply Kd.R_alloc | apply Kd.R_drewN | apply Kd.R_drew)); exact HO143.out) hb)
        have n4_ := Aside0.mk (Kd.R_below (by (with_reducible repeat (first | apply Kd.R_alloc | apply Kd.R_drewN | apply Kd.R_drew)); exact HO152.out) hb)
        have n5_ := Aside0.mk (blk_below (g := gb145) (o := .cells #[.string t124, .int .i64 t125, .int .i64 t126, .int .i64 t127, .slice Ao30 t128.length co30, .slice Ao31 t131.length co31, .bool t134] 28 (0, 0)) (by (with_reducible repeat (first | refine blk_drewN ?_ _ | refine blk_drew ?_ | refine blk_alloc ?_ _)); exact BK145.out) hb)
        have n6_ := Aside0.mk (blk_below (g := gb146) (o := .cells #[.string t135, .int .i64 t136, .int .i64 t137, .slice Ao33 t138.length co33, .slice Ao34 t141.length co34, .bool t144] 31 (0, 0)) (by (with_reducible repeat (first | refine blk_drewN ?_ _ | refine blk_drew ?_ | refine blk_alloc ?_ _)); exact BK146.out) hb)
        have n7_ := Aside0.mk (blk_below (g := gb149) (o := .cells #[.int .i64 t147, .int .i64 t148] 25 (0, 0)) (by (with_reducible repeat (first | refine blk_drewN ?_ _ | refine blk_drew ?_ | refine blk_alloc ?_ _)); exact BK149.out) hb)
        have n8_ := Aside0.mk (blk_below (g := gb154) (o := .cells #[.string t135, .int .i64 (wrap64 (t136 + t155)), .int .i64 (wrap64 (t137 + t156)), .slice Ao33 t138.length co33, .slice Ao34 t141.length co34, .bool t144] 31 (0, 0)) (by (with_reducible repeat (first | refine blk_drewN ?_ _ | refine blk_drew ?_ | refine blk_alloc ?_ _)); exact BK154.out) hb)
        have n9_ := Aside0.mk (below_step (by repeat (first | (with_reducible first | exact HB.out | apply below_alloc | apply pw_below_drewN | apply below_drew1 | refine below_set ?_ GE145.out | refine below_set ?_ GE146.out | refine below_set ?_ GE149.out | refine below_set ?_ GE154.out) | exact HB.out)) hb)
        have n10_ := Aside0.mk (hbox)
        have n11_ := Aside0.mk ((by rw [hg]; exact (below_size (by repeat (first | (with_reducible first | exact HB.out | apply below_alloc | apply pw_below_drewN | apply below_drew1 | refine below_set ?_ GE145.out | refine below_set ?_ GE146.out | refine below_set ?_ GE149.out | refine below_set ?_ GE154.out) | exact HB.out))) : w.heap.size ≤ gb159))
        have n12_ := Aside0.mk ((by rw [hg]; exact (below_size (by repeat (first | (with_reducible first | exact HB.out | apply below_alloc | apply pw_below_drewN | apply below_drew1 | refine below_set ?_ GE145.out | refine below_set ?_ GE146.out | refine below_set ?_ GE149.out | refine below_set ?_ GE154.out) | exact HB.out))) : w.heap.size ≤ gb159))
        have n13_ := Aside0.mk ((by rw [hg]; exact Nat.ne_of_lt (blk_lt (g := gb145) (o := .cells #[.string t124, .int .i64 t125, .int .i64 t126, .int .i64 t127, .slice Ao30 t128.length co30, .slice Ao31 t131.length co31, .bool t134] 28 (0, 0)) (by (with_reducible repeat (first | refine blk_drewN ?_ _ | refine blk_drew ?_ | refine blk_alloc ?_ _)); exact BK145.out)) : gb145 ≠ gb159))
        have n14_ := Aside0.mk ((by rw [hg]; exact Nat.ne_of_gt (blk_lt (g := gb145) (o := .cells #[.string t124, .int .i64 t125, .int .i64 t126, .int .i64 t127, .slice Ao30 t128.length co30, .slice Ao31 t131.length co31, .bool t134] 28 (0, 0)) (by (with_reducible repeat (first | refine blk_drewN ?_ _ | refine blk_drew ?_ | refine blk_alloc ?_ _)); exact BK145.out)) : gb159 ≠ gb145))
        have n15_ := Aside0.mk ((by rw [hg]; exact Nat.ne_of_lt (blk_lt (g := gb146) (o := .cells #[.string t135, .int .i64 t136, .int .i64 t137, .slice Ao33 t138.length co33, .slice Ao34 t141.length co34, .bool t144] 31 (0, 0)) (by (with_reducible repeat (first | refine blk_drewN ?_ _ | refine blk_drew ?_ | refine blk_alloc ?_ _)); exact BK146.out)) : gb146 ≠ gb159))
        have n16_ := Aside0.mk ((by rw [hg]; exact Nat.ne_of_gt (blk_lt (g := gb146) (o := .cells #[.string t135, .int .i64 t136, .int .i64 t137, .slice Ao33 t138.length co33, .slice Ao34 t141.length co34, .bool t144] 31 (0, 0)) (by (with_reducible repeat (first | refine blk_drewN ?_ _ | refine blk_drew ?_ | refine blk_alloc ?_ _)); exact BK146.out)) : gb159 ≠ gb146))
        have n17_ := Aside0.mk ((by rw [hg]; exact Nat.ne_of_lt (blk_lt (g := gb149) (o := .cells #[.int .i64 t147, .int .i64 t148] 25 (0, 0)) (by (with_reducible repeat (first | refine blk_drewN ?_ _ | refine blk_drew ?_ | refine blk_alloc ?_ _)); exact BK149.out)) : gb149 ≠ gb159))
        have n18_ := Aside0.mk ((by rw [hg]; exact Nat.ne_of_gt (blk_lt (g := gb149) (o := .cells #[.int .i64 t147, .int .i64 t148] 25 (0, 0)) (by (with_reducible repeat (first | refine blk_drewN ?_ _ | refine blk_drew ?_ | refine blk_alloc ?_ _)); exact BK149.out)) : gb159 ≠ gb149))
        have n19_ := Aside0.mk ((by rw [hg]; exact Nat.ne_of_lt (blk_lt (g := gb154) (o := .cells #[.string t135, .int .i64 (wrap64 (t136 + t155)), .int .i64 (wrap64 (t137 + t156)), .slice Ao33 t138.length co33, .slice Ao34 t141.length co34, .bool t144] 31 (0, 0)) (by (with_reducible repeat (first | refine blk_drewN ?_ _ | refine blk_drew ?_ | refine blk_alloc ?_ _)); exact BK154.out)) : gb154 ≠ gb159))
        have n20_ := Aside0.mk ((by rw [hg]; exact Nat.ne_of_gt (blk_lt (g := gb154) (o := .cells #[.string t135, .int .i64 (wrap64 (t136 + t155)), .int .i64 (wrap64 (t137 + t156)), .slice Ao33 t138.length co33, .slice Ao34 t141.length co34, .bool t144] 31 (0, 0)) (by (with_reducible repeat (first | refine blk_drewN ?_ _ | refine blk_drew ?_ | refine blk_alloc ?_ _)); exact BK154.out)) : gb159 ≠ gb154))
        clear HO130
        clear HO133
        clear HO140
        clear HO143
        clear HO152
        clear BK145
        clear BK146
        clear BK149
        clear BK154
        clear HB
        have HO130 := n0_
        have HO133 := n1_
        have HO140 := n2_
        have HO143 := n3_
        have HO152 := n4_
        have BK145 := n5_
        have BK146 := n6_
        have BK149 := n7_
        have BK154 := n8_
        have HB := n9_
        have BK159 := n10_
        have GW159 := n11_
        have GE159 := n12_
        have NB145_159 := n13_
        have NB159_145 := n14_
        have NB146_159 := n15_
        have NB159_146 := n16_
        have NB149_159 := n17_
        have NB159_149 := n18_
        have NB154_159 := n19_
        have NB159_154 := n20_
        clear n0_ n1_ n2_ n3_ n4_ n5_ n6_ n7_ n8_ n9_ n10_ n11_ n12_ n13_ n14_ n15_ n16_ n17_ n18_ n19_ n20_
        clear hb hbox hg
        refine hK.out _ _ ⟨(blk_cell BK149.out 0).trans rfl, (blk_cell BK149.out 1).trans rfl⟩ (fun hHeld => ?_)
        clear hK K
        refine norm_ (a' := ?_) ?_ ?_
        rotate_left
        · show Act.put _ (some 20) _ = _
          simp only [Act.put, List.setIfInBounds_toArray, List.set_cons_zero, List.set_cons_succ, i64_w, i32_w]
          rfl
        refine one_ (i := 10) (N := some 67) #[true, true, true, true, true, true, true, true, true, true, true, false, false, false, true, false] rfl rfl (one_of HT_.out (by kernel_rfl)) (by decide) (fun K hK => ?_)
        refine goes_ Try.func14 (by kernel_rfl) rfl #[.int .i64 (wrap64 (Int.tdiv a5 5)), .int .i64 5] (by rfl) rfl rfl (by (try simp only [List.map_toArray, List.map_cons, List.map_nil]); first | done | rfl | (simp only [List.length_drop, List.length_take]; rfl)) ?_
        with_reducible refine (joinerylaw5_within.calls (wrap64 (Int.tdiv a5 5)) 5 t158 _ A20.out).mono ?_
        rintro e w' ⟨rfl, ⟨nd, rfl⟩⟩
        refine ⟨_, rfl, ?_⟩
        refine hK.out _ _ ⟨(blk_cell BK149.out 0).trans rfl, (blk_cell BK149.out 1).trans rfl⟩ (fun hHeld => ?_)
        clear hK K
        refine norm_ (a' := ?_) ?_ ?_
        rotate_left
        · show Act.put _ (some 67) _ = _
          simp only [Act.put, List.setIfInBounds_toArray, List.set_cons_zero, List.set_cons_succ, i64_w, i32_w]
          rfl
        refine pure_ (i := 11) (N := some 68) (v := ?_) (a' := ?_) #[true, true, true, true, true, true, true, true, true, true, true, true, false, false, true, false] rfl rfl (any_of HT_.out (by kernel_rfl)) (fun _ _ _ h => h) (Or.inl ⟨by rfl, ?_⟩) ?_ ?_
        rotate_left
        · intro w'
          go_simp
          with_reducible rfl
        rotate_left
        · simp only [Act.put, List.setIfInBounds_toArray, List.set_cons_zero, List.set_cons_succ, i64_w, i32_w]
          rfl
        refine pure_ (i := 12) (N := some 69) (v := ?_) (a' := ?_) #[true, true, true, true, true, true, true, true, true, true, true, true, true, false, true, false] rfl rfl (any_of HT_.out (by kernel_rfl)) (fun _ _ _ h => h) (Or.inl ⟨by rfl, ?_⟩) ?_ ?_
        rotate_left
        · intro w'
          go_simp
          with_reducible rfl
        rotate_left
        · simp only [Act.put, List.setIfInBounds_toArray, List.set_cons_zero, List.set_cons_succ, i64_w, i32_w]
          rfl
        refine pure_ (i := 13) (N := some 70) (v := ?_) (a' := ?_) #[true, true, true, true, true, true, true, true, true, true, true, true, true, true, true, false] rfl rfl (any_of HT_.out (by kernel_rfl)) (fun _ _ _ h => h) (Or.inl ⟨by rfl, ?_⟩) ?_ ?_
        rotate_left
        · intro w'
          go_simp
          with_reducible rfl
        rotate_left
        · simp only [Act.put, List.setIfInBounds_toArray, List.set_cons_zero, List.set_cons_succ, i64_w, i32_w]
          rfl
        exact norm_ (by simp only [putAll, Act.put, List.setIfInBounds_toArray, List.set_cons_zero, List.set_cons_succ]) (hCont (gb159) _ ⟨hHeld, (by (with_reducible repeat (first | apply Kd.R_alloc | apply Kd.R_drewN | apply Kd.R_drew)); exact HO130.out), (by (with_reducible repeat (first | apply Kd.R_alloc | apply Kd.R_drewN | apply Kd.R_drew)); exact HO133.out), (by (with_reducible repeat (first | apply Kd.R_alloc | apply Kd.R_drewN | apply Kd.R_drew)); exact HO140.out), (by (with_reducible repeat (first | apply Kd.R_alloc | apply Kd.R_drewN | apply Kd.R_drew)); exact HO143.out), (by (with_reducible repeat (first | apply Kd.R_alloc | apply Kd.R_drewN | apply Kd.R_drew)); exact HO152.out), (by (with_reducible repeat (first | refine blk_drewN ?_ _ | refine blk_drew ?_ | refine blk_alloc ?_ _)); exact BK145.out), (by (with_reducible repeat (first | refine blk_drewN ?_ _ | refine blk_drew ?_ | refine blk_alloc ?_ _)); exact BK146.out), (by (with_reducible repeat (first | refine blk_drewN ?_ _ | refine blk_drew ?_ | refine blk_alloc ?_ _)); exact BK149.out), (by (with_reducible repeat (first | refine blk_drewN ?_ _ | refine blk_drew ?_ | refine blk_alloc ?_ _)); exact BK154.out), (by (with_reducible repeat (first | refine blk_drewN ?_ _ | refine blk_drew ?_ | refine blk_alloc ?_ _)); exact BK159.out), GW159.out, GE159.out, NB145_159.out, NB159_145.out, NB146_159.out, NB159_146.out, NB149_159.out, NB159_149.out, NB154_159.out, NB159_154.out, (by repeat (first | (with_reducible first | exact HB.out | apply below_alloc | apply pw_below_drewN | apply below_drew1 | refine below_set ?_ GE145.out | refine below_set ?_ GE146.out | refine below_set ?_ GE149.out | refine below_set ?_ GE154.out | refine below_set ?_ GE159.out) | exact HB.out))⟩)
    · skip
      refine box_step ?hg (N := 20) ?hd (cs := #[.int .i64 0, .int .i64 0]) (t := 25) ?hr ?_; (case hd => rfl); (case hg => rfl); (case hr => first | (go_simp; done) | (go_simp; rfl))
      intro gb159 hg w56 hbox hb
      have n0_ := Aside0.mk (Kd.R_below (by (with_reducible repeat (first | apply Kd.R_alloc | apply Kd.R_drewN | apply Kd.R_drew)); exact HO130.out) hb)
      have n1_ := Aside0.mk (Kd.R_below (by (with_reducible repeat (first | apply Kd.R_alloc | apply Kd.R_drewN | apply Kd.R_drew)); exact HO133.out) hb)
      have n2_ := Aside0.mk (Kd.R_below (by (with_reducible repeat (first | apply Kd.R_alloc | apply Kd.R_drewN | apply Kd.R_drew)); exact HO140.out) hb)
      have n3_ := Aside0.mk (Kd.R_below (by (with_reducible repeat (first | apply Kd.R_alloc | apply Kd.R_drewN | apply Kd.R_drew)); exact HO143.out) hb)
      have n4_ := Aside0.mk (Kd.R_below (by (with_reducible repeat (first | apply Kd.R_alloc | apply Kd.R_drewN | apply Kd.R_drew)); exact HO152.out) hb)
      have n5_ := Aside0.mk (blk_below (g := gb145) (o := .cells #[.string t124, .int .i64 t125, .int .i64 t126, .int .i64 t127, .slice Ao30 t128.length co30, .slice Ao31 t131.length co31, .bool t134] 28 (0, 0)) (by (with_reducible repeat (first | refine blk_drewN ?_ _ | refine blk_drew ?_ | refine blk_alloc ?_ _)); exact BK145.out) hb)
      have n6_ := Aside0.mk (blk_below (g := gb146) (o := .cells #[.string t135, .int .i64 t136, .int .i64 t137, .slice Ao33 t138.length co33, .slice Ao34 t141.length co34, .bool t144] 31 (0, 0)) (by (with_reducible repeat (first | refine blk_drewN ?_ _ | refine blk_drew ?_ | refine blk_alloc ?_ _)); exact BK146.out) hb)
      have n7_ := Aside0.mk (blk_below (g := gb149) (o := .cells #[.int .i64 t147, .int .i64 t148] 25 (0, 0)) (by (with_reducible repeat (first | refine blk_drewN ?_ _ | refine blk_drew ?_ | refine blk_alloc ?_ _)); exact BK149.out) hb)
      have n8_ := Aside0.mk (blk_below (g := gb154) (o := .cells #[.string t135, .int .i64 (wrap64 (t136 + t155)), .int .i64 (wrap64 (t137 + t156)), .slice Ao33 t138.length co33, .slice Ao34 t141.length co34, .bool t144] 31 (0, 0)) (by (with_reducible repeat (first | refine blk_drewN ?_ _ | refine blk_drew ?_ | refine blk_alloc ?_ _)); exact BK154.out) hb)
      have n9_ := Aside0.mk (below_step (by repeat (first | (with_reducible first | exact HB.out | apply below_alloc | apply pw_below_drewN | apply below_drew1 | refine below_set ?_ GE145.out | refine below_set ?_ GE146.out | refine below_set ?_ GE149.out | refine below_set ?_ GE154.out) | exact HB.out)) hb)
      have n10_ := Aside0.mk (hbox)
      have n11_ := Aside0.mk ((by rw [hg]; exact (below_size (by repeat (first | (with_reducible first | exact HB.out | apply below_alloc | apply pw_below_drewN | apply below_drew1 | refine below_set ?_ GE145.out | refine below_set ?_ GE146.out | refine below_set ?_ GE149.out | refine below_set ?_ GE154.out) | exact HB.out))) : w.heap.size ≤ gb159))
      have n12_ := Aside0.mk ((by rw [hg]; exact (below_size (by repeat (first | (with_reducible first | exact HB.out | apply below_alloc | apply pw_below_drewN | apply below_drew1 | refine below_set ?_ GE145.out | refine below_set ?_ GE146.out | refine below_set ?_ GE149.out | refine below_set ?_ GE154.out) | exact HB.out))) : w.heap.size ≤ gb159))
      have n13_ := Aside0.mk ((by rw [hg]; exact Nat.ne_of_lt (blk_lt (g := gb145) (o := .cells #[.string t124, .int .i64 t125, .int .i64 t126, .int .i64 t127, .slice Ao30 t128.length co30, .slice Ao31 t131.length co31, .bool t134] 28 (0, 0)) (by (with_reducible repeat (first | refine blk_drewN ?_ _ | refine blk_drew ?_ | refine blk_alloc ?_ _)); exact BK145.out)) : gb145 ≠ gb159))
      have n14_ := Aside0.mk ((by rw [hg]; exact Nat.ne_of_gt (blk_lt (g := gb145) (o := .cells #[.string t124, .int .i64 t125, .int .i64 t126, .int .i64 t127, .slice Ao30 t128.length co30, .slice Ao31 t131.length co31, .bool t134] 28 (0, 0)) (by (with_reducible repeat (first | refine blk_drewN ?_ _ | refine blk_drew ?_ | refine blk_alloc ?_ _)); exact BK145.out)) : gb159 ≠ gb145))
      have n15_ := Aside0.mk ((by rw [hg]; exact Nat.ne_of_lt (blk_lt (g := gb146) (o := .cells #[.string t135, .int .i64 t136, .int .i64 t137, .slice Ao33 t138.length co33, .slice Ao34 t141.length co34, .bool t144] 31 (0, 0)) (by (with_reducible repeat (first | refine blk_drewN ?_ _ | refine blk_drew ?_ | refine blk_alloc ?_ _)); exact BK146.out)) : gb146 ≠ gb159))
      have n16_ := Aside0.mk ((by rw [hg]; exact Nat.ne_of_gt (blk_lt (g := gb146) (o := .cells #[.string t135, .int .i64 t136, .int .i64 t137, .slice Ao33 t138.length co33, .slice Ao34 t141.length co34, .bool t144] 31 (0, 0)) (by (with_reducible repeat (first | refine blk_drewN ?_ _ | refine blk_drew ?_ | refine blk_alloc ?_ _)); exact BK146.out)) : gb159 ≠ gb146))
      have n17_ := Aside0.mk ((by rw [hg]; exact Nat.ne_of_lt (blk_lt (g := gb149) (o := .cells #[.int .i64 t147, .int .i64 t148] 25 (0, 0)) (by (with_reducible repeat (first | refine blk_drewN ?_ _ | refine blk_drew ?_ | refine blk_alloc ?_ _)); exact BK149.out)) : gb149 ≠ gb159))
      have n18_ := Aside0.mk ((by rw [hg]; exact Nat.ne_of_gt (blk_lt (g := gb149) (o := .cells #[.int .i64 t147, .int .i64 t148] 25 (0, 0)) (by (with_reducible repeat (first | refine blk_drewN ?_ _ | refine blk_drew ?_ | refine blk_alloc ?_ _)); exact BK149.out)) : gb159 ≠ gb149))
      have n19_ := Aside0.mk ((by rw [hg]; exact Nat.ne_of_lt (blk_lt (g := gb154) (o := .cells #[.string t135, .int .i64 (wrap64 (t136 + t155)), .int .i64 (wrap64 (t137 + t156)), .slice Ao33 t138.length co33, .slice Ao34 t141.length co34, .bool t144] 31 (0, 0)) (by (with_reducible repeat (first | refine blk_drewN ?_ _ | refine blk_drew ?_ | refine blk_alloc ?_ _)); exact BK154.out)) : gb154 ≠ gb159))
      have n20_ := Aside0.mk ((by rw [hg]; exact Nat.ne_of_gt (blk_lt (g := gb154) (o := .cells #[.string t135, .int .i64 (wrap64 (t136 + t155)), .int .i64 (wrap64 (t137 + t156)), .slice Ao33 t138.length co33, .slice Ao34 t141.length co34, .bool t144] 31 (0, 0)) (by (with_reducible repeat (first | refine blk_drewN ?_ _ | refine blk_drew ?_ | refine blk_alloc ?_ _)); exact BK154.out)) : gb159 ≠ gb154))
      clear HO130
      clear HO133
      clear HO140
      clear HO143
      clear HO152
      clear BK145
      clear BK146
      clear BK149
      clear BK154
      clear HB
      have HO130 := n0_
      have HO133 := n1_
      have HO140 := n2_
      have HO143 := n3_
      have HO152 := n4_
      have BK145 := n5_
      have BK146 := n6_
      have BK149 := n7_
      have BK154 := n8_
      have HB := n9_
      have BK159 := n10_
      have GW159 := n11_
      have GE159 := n12_
      have NB145_159 := n13_
      have NB159_145 := n14_
      have NB146_159 := n15_
      have NB159_146 := n16_
      have NB149_159 := n17_
      have NB159_149 := n18_
      have NB154_159 := n19_
      have NB159_154 := n20_
      clear n0_ n1_ n2_ n3_ n4_ n5_ n6_ n7_ n8_ n9_ n10_ n11_ n12_ n13_ n14_ n15_ n16_ n17_ n18_ n19_ n20_
      clear hb hbox hg
      refine hK.out _ _ ⟨(blk_cell BK149.out 0).trans rfl, (blk_cell BK149.out 1).trans rfl⟩ (fun hHeld => ?_)
      clear hK K
      refine norm_ (a' := ?_) ?_ ?_
      rotate_left
      · show Act.put _ (some 20) _ = _
        simp only [Act.put, List.setIfInBounds_toArray, List.set_cons_zero, List.set_cons_succ, i64_w, i32_w]
        rfl
      refine one_ (i := 3) (N := some 60) #[true, true, true, true, false, false, true, true, true, true, false, false, false, false, true, false] rfl rfl (one_of HT_.out (by kernel_rfl)) (by decide) (fun K hK => ?_)
      refine goes_ Try.func14 (by kernel_rfl) rfl #[.int .i64 a5, .int .i64 5] (by rfl) rfl rfl (by (try simp only [List.map_toArray, List.map_cons, List.map_nil]); first | done | rfl | (simp only [List.length_drop, List.length_take]; rfl)) ?_
      with_reducible refine (joinerylaw5_within.calls a5 5 t157 _ A18.out).mono ?_
      rintro e w' ⟨rfl, ⟨nd, rfl⟩⟩
      refine ⟨_, rfl, ?_⟩
      refine hK.out _ _ ⟨(blk_cell BK149.out 0).trans rfl, (blk_cell BK149.out 1).trans rfl⟩ (fun hHeld => ?_)
      clear hK K
      refine norm_ (a' := ?_) ?_ ?_
      rotate_left
      · show Act.put _ (some 60) _ = _
        simp only [Act.put, List.setIfInBounds_toArray, List.set_cons_zero, List.set_cons_succ, i64_w, i32_w]
        rfl
      refine pure_ (i := 4) (N := some 61) (v := ?_) (a' := ?_) #[true, true, true, true, true, false, true, true, true, true, false, false, false, false, true, false] rfl rfl (any_of HT_.out (by kernel_rfl)) (fun _ _ _ h => h) (Or.inl ⟨by rfl, ?_⟩) ?_ ?_
      rotate_left
      · intro w'
        go_simp
        with_reducible rfl
      rotate_left
      · simp only [Act.put, List.setIfInBounds_toArray, List.set_cons_zero, List.set_cons_succ, i64_w, i32_w]
        rfl
      refine pure_ (i := 5) (N := some 62) (v := ?_) (a' := ?_) #[true, true, true, true, true, true, true, true, true, true, false, false, false, false, true, false] rfl rfl (any_of HT_.out (by kernel_rfl)) (fun _ _ _ h => h) (Or.inl ⟨by rfl, ?_⟩) ?_ ?_
      rotate_left
      · intro w'
        go_simp
        with_reducible rfl
      rotate_left
      · simp only [Act.put, List.setIfInBounds_toArray, List.set_cons_zero, List.set_cons_succ, i64_w, i32_w]
        rfl
      refine one_ (i := 10) (N := some 67) #[true, true, true, true, true, true, true, true, true, true, true, false, false, false, true, false] rfl rfl (one_of HT_.out (by kernel_rfl)) (by decide) (fun K hK => ?_)
      refine goes_ Try.func14 (by kernel_rfl) rfl #[.int .i64 (wrap64 (Int.tdiv a5 5)), .int .i64 5] (by rfl) rfl rfl (by (try simp only [List.map_toArray, List.map_cons, List.map_nil]); first | done | rfl | (simp only [List.length_drop, List.length_take]; rfl)) ?_
      with_reducible refine (joinerylaw5_within.calls (wrap64 (Int.tdiv a5 5)) 5 t158 _ A20.out).mono ?_
      rintro e w' ⟨rfl, ⟨nd, rfl⟩⟩
      refine ⟨_, rfl, ?_⟩
      refine hK.out _ _ ⟨(blk_cell BK149.out 0).trans rfl, (blk_cell BK149.out 1).trans rfl⟩ (fun hHeld => ?_)
      clear hK K
      refine norm_ (a' := ?_) ?_ ?_
      rotate_left
      · show Act.put _ (some 67) _ = _
        simp only [Act.put, List.setIfInBounds_toArray, List.set_cons_zero, List.set_cons_succ, i64_w, i32_w]
        rfl
      refine pure_ (i := 11) (N := some 68) (v := ?_) (a' := ?_) #[true, true, true, true, true, true, true, true, true, true, true, true, false, false, true, false] rfl rfl (any_of HT_.out (by kernel_rfl)) (fun _ _ _ h => h) (Or.inl ⟨by rfl, ?_⟩) ?_ ?_
      rotate_left
      · intro w'
        go_simp
        with_reducible rfl
      rotate_left
      · simp only [Act.put, List.setIfInBounds_toArray, List.set_cons_zero, List.set_cons_succ, i64_w, i32_w]
        rfl
      refine pure_ (i := 12) (N := some 69) (v := ?_) (a' := ?_) #[true, true, true, true, true, true, true, true, true, true, true, true, true, false, true, false] rfl rfl (any_of HT_.out (by kernel_rfl)) (fun _ _ _ h => h) (Or.inl ⟨by rfl, ?_⟩) ?_ ?_
      rotate_left
      · intro w'
        go_simp
        with_reducible rfl
      rotate_left
      · simp only [Act.put, List.setIfInBounds_toArray, List.set_cons_zero, List.set_cons_succ, i64_w, i32_w]
        rfl
      refine pure_ (i := 13) (N := some 70) (v := ?_) (a' := ?_) #[true, true, true, true, true, true, true, true, true, true, true, true, true, true, true, false] rfl rfl (any_of HT_.out (by kernel_rfl)) (fun _ _ _ h => h) (Or.inl ⟨by rfl, ?_⟩) ?_ ?_
      rotate_left
      · intro w'
        go_simp
        with_reducible rfl
      rotate_left
      · simp only [Act.put, List.setIfInBounds_toArray, List.set_cons_zero, List.set_cons_succ, i64_w, i32_w]
        rfl
      exact norm_ (by simp only [putAll, Act.put, List.setIfInBounds_toArray, List.set_cons_zero, List.set_cons_succ]) (hCont (gb159) _ ⟨hHeld, (by (with_reducible repeat (first | apply Kd.R_alloc | apply Kd.R_drewN | apply Kd.R_drew)); exact HO130.out), (by (with_reducible repeat (first | apply Kd.R_alloc | apply Kd.R_drewN | apply Kd.R_drew)); exact HO133.out), (by (with_reducible repeat (first | apply Kd.R_alloc | apply Kd.R_drewN | apply Kd.R_drew)); exact HO140.out), (by (with_reducible repeat (first | apply Kd.R_alloc | apply Kd.R_drewN | apply Kd.R_drew)); exact HO143.out), (by (with_reducible repeat (first | apply Kd.R_alloc | apply Kd.R_drewN | apply Kd.R_drew)); exact HO152.out), (by (with_reducible repeat (first | refine blk_drewN ?_ _ | refine blk_drew ?_ | refine blk_alloc ?_ _)); exact BK145.out), (by (with_reducible repeat (first | refine blk_drewN ?_ _ | refine blk_drew ?_ | refine blk_alloc ?_ _)); exact BK146.out), (by (with_reducible repeat (first | refine blk_drewN ?_ _ | refine blk_drew ?_ | refine blk_alloc ?_ _)); exact BK149.out), (by (with_reducible repeat (first | refine blk_drewN ?_ _ | refine blk_drew ?_ | refine blk_alloc ?_ _)); exact BK154.out), (by (with_reducible repeat (first | refine blk_drewN ?_ _ | refine blk_drew ?_ | refine blk_alloc ?_ _)); exact BK159.out), GW159.out, GE159.out, NB145_159.out, NB159_145.out, NB146_159.out, NB159_146.out, NB149_159.out, NB159_149.out, NB154_159.out, NB159_154.out, (by repeat (first | (with_reducible first | exact HB.out | apply below_alloc | apply pw_below_drewN | apply below_drew1 | refine below_set ?_ GE145.out | refine below_set ?_ GE146.out | refine below_set ?_ GE149.out | refine below_set ?_ GE154.out | refine below_set ?_ GE159.out) | exact HB.out))⟩)
  rintro gb159 w57 ⟨hS_, h0_, h1_, h2_, h3_, h4_, h5_, h6_, h7_, h8_, h9_, h10_, h11_, h12_, h13_, h14_, h15_, h16_, h17_, h18_, h19_, h20_⟩
  have n0_ : Aside0 (Kd.R Kd.string 9 w57 w.heap.size (fun k_ => some k_ ≠ (.slice Ao31 t131.length co31 : Value).ownBlock ∧ some k_ ≠ (.slice Ao33 t138.length co33 : Value).ownBlock ∧ some k_ ≠ (.slice Ao34 t141.length co34 : Value).ownBlock) (.slice Ao30 t128.length co30) t128) := ⟨h0_⟩
  have n1_ : Aside0 (Kd.R Kd.string 9 w57 w.heap.size (fun k_ => some k_ ≠ (.slice Ao30 t128.length co30 : Value).ownBlock ∧ some k_ ≠ (.slice Ao33 t138.length co33 : Value).ownBlock ∧ some k_ ≠ (.slice Ao34 t141.length co34 : Value).ownBlock) (.slice Ao31 t131.length co31) t131) := ⟨h1_⟩
  have n2_ : Aside0 (Kd.R Kd.string 9 w57 w.heap.size (fun k_ => some k_ ≠ (.slice Ao30 t128.length co30 : Value).ownBlock ∧ some k_ ≠ (.slice Ao31 t131.length co31 : Value).ownBlock ∧ some k_ ≠ (.slice Ao34 t141.length co34 : Value).ownBlock) (.slice Ao33 t138.length co33) t138) := ⟨h2_⟩
  have n3_ : Aside0 (Kd.R Kd.string 9 w57 w.heap.size (fun k_ => some k_ ≠ (.slice Ao30 t128.length co30 : Value).ownBlock ∧ some k_ ≠ (.slice Ao31 t131.length co31 : Value).ownBlock ∧ some k_ ≠ (.slice Ao33 t138.length co33 : Value).ownBlock) (.slice Ao34 t141.length co34) t141) := ⟨h3_⟩
  have n4_ : Aside0 (Kd.R k41 41 w57 w.heap.size (fun _ => True) (.slice Ao42 t150.length co42) t150) := ⟨h4_⟩
  have n5_ : Aside0 (w57.heap[gb145]? = some (.cells #[.string t124, .int .i64 t125, .int .i64 t126, .int .i64 t127, .slice Ao30 t128.length co30, .slice Ao31 t131.length co31, .bool t134] 28 (0, 0))) := ⟨h5_⟩
  have n6_ : Aside0 (w57.heap[gb146]? = some (.cells #[.string t135, .int .i64 t136, .int .i64 t137, .slice Ao33 t138.length co33, .slice Ao34 t141.length co34, .bool t144] 31 (0, 0))) := ⟨h6_⟩
  have n7_ : Aside0 (w57.heap[gb149]? = some (.cells #[.int .i64 t147, .int .i64 t148] 25 (0, 0))) := ⟨h7_⟩
  have n8_ : Aside0 (w57.heap[gb154]? = some (.cells #[.string t135, .int .i64 (wrap64 (t136 + t155)), .int .i64 (wrap64 (t137 + t156)), .slice Ao33 t138.length co33, .slice Ao34 t141.length co34, .bool t144] 31 (0, 0))) := ⟨h8_⟩
  have n9_ : Aside0 (w57.heap[gb159]? = some (.cells #[.int .i64 0, .int .i64 0] 25 (0, 0))) := ⟨h9_⟩
  have n10_ : Aside0 (w.heap.size ≤ gb159) := ⟨h10_⟩
  have n11_ : Aside0 (w.heap.size ≤ gb159) := ⟨h11_⟩
  have n12_ : Aside0 (gb145 ≠ gb159) := ⟨h12_⟩
  have n13_ : Aside0 (gb159 ≠ gb145) := ⟨h13_⟩
  have n14_ : Aside0 (gb146 ≠ gb159) := ⟨h14_⟩
  have n15_ : Aside0 (gb159 ≠ gb146) := ⟨h15_⟩
  have n16_ : Aside0 (gb149 ≠ gb159) := ⟨h16_⟩
  have n17_ : Aside0 (gb159 ≠ gb149) := ⟨h17_⟩
  have n18_ : Aside0 (gb154 ≠ gb159) := ⟨h18_⟩
  have n19_ : Aside0 (gb159 ≠ gb154) := ⟨h19_⟩
  have n20_ : Aside0 (Below w.heap.size w w57) := ⟨h20_⟩
  clear HO130
  clear HO133
  clear HO140
  clear HO143
  clear HO152
  clear BK145
  clear BK146
  clear BK149
  clear BK154
  clear HB
  clear h0_ h1_ h2_ h3_ h4_ h5_ h6_ h7_ h8_ h9_ h10_ h11_ h12_ h13_ h14_ h15_ h16_ h17_ h18_ h19_ h20_
  have HO130 := n0_
  have HO133 := n1_
  have HO140 := n2_
  have HO143 := n3_
  have HO152 := n4_
  have BK145 := n5_
  have BK146 := n6_
  have BK149 := n7_
  have BK154 := n8_
  have BK159 := n9_
  have GW159 := n10_
  have GE159 := n11_
  have NB145_159 := n12_
  have NB159_145 := n13_
  have NB146_159 := n14_
  have NB159_146 := n15_
  have NB149_159 := n16_
  have NB159_149 := n17_
  have NB154_159 := n18_
  have NB159_154 := n19_
  have HB := n20_
  clear n0_ n1_ n2_ n3_ n4_ n5_ n6_ n7_ n8_ n9_ n10_ n11_ n12_ n13_ n14_ n15_ n16_ n17_ n18_ n19_ n20_
  have hHeld : w57.cell? ⟨gb149, 0, none⟩ = some (.int .i64 t147) ∧ w57.cell? ⟨gb149, 1, none⟩ = some (.int .i64 t148) := hS_
  refine norm_ (a' := ?_) ?_ ?_
  rotate_left
  · simp only [putAll, Act.put, List.setIfInBounds_toArray, List.set_cons_zero, List.set_cons_succ]
    rfl
  refine one_ (i := 15) (N := none) #[true, true, true, true, true, true, true, true, true, true, true, true, true, true, true, true] rfl rfl (one_of HT_.out (by kernel_rfl)) (by decide) (fun K hK => ?_)
  have hs58 : w57.cell? ⟨gb159, 0, none⟩ = some (.int .i64 0) := (blk_cell BK159.out 0).trans rfl
  have hfs58 := blk_frozen BK159.out 0
  have hns58_0 := NB145_159.out
  have hns58_1 := NB146_159.out
  have hns58_2 := NB149_159.out
  have hns58_3 := NB154_159.out
  have hms58_0 := NB159_145.out
  have hms58_1 := NB159_146.out
  have hms58_2 := NB159_149.out
  have hms58_3 := NB159_154.out
  have hs59 : w57.cell? ⟨gb159, 1, none⟩ = some (.int .i64 0) := (blk_cell BK159.out 1).trans rfl
  have hfs59 := blk_frozen BK159.out 1
  have hns59_0 := NB145_159.out
  have hns59_1 := NB146_159.out
  have hns59_2 := NB149_159.out
  have hns59_3 := NB154_159.out
  have hms59_0 := NB159_145.out
  have hms59_1 := NB159_146.out
  have hms59_2 := NB159_149.out
  have hms59_3 := NB159_154.out
  refine skip_ (w1 := ?_) ?hw ?hN ?hrun ?_
  case hw => rfl
  case hN => rfl
  case hrun =>
    go_simp
    rfl
  refine hK.out _ _ ⟨((cell_far (p := ⟨gb159, _, none⟩) NB149_159.out _).trans (((cell_far (p := ⟨gb159, _, none⟩) NB149_159.out _).trans (hHeld.1)))), ((cell_far (p := ⟨gb159, _, none⟩) NB149_159.out _).trans (((cell_far (p := ⟨gb159, _, none⟩) NB149_159.out _).trans (hHeld.2))))⟩ (fun hHeld => ?_)
  clear hK K
  refine done_ (done_of HT_.out (by kernel_rfl)) ?_
  go_upto_region 9 with (fail)
  go_cut [97] (fun v97 wc => ∃ (kq : Nat) (x97_21 : Bool), v97 = .bool x97_21 ∧ Aside0 (joinerylaw5_FitMore.j0 kq l6 x97_21 t124 t125 t126 t127 t128 t131 t134 t135 t136 t137 t138 t141 t144 t147 t148 = some r) ∧ Aside0 (kq ≤ k) ∧ Aside0 (Kd.R Kd.string 9 wc w.heap.size (fun k_ => some k_ ≠ ((.slice Ao31 t131.length co31) : Value).ownBlock ∧ some k_ ≠ ((.slice Ao33 t138.length co33) : Value).ownBlock ∧ some k_ ≠ ((.slice Ao34 t141.length co34) : Value).ownBlock ∧ some k_ ≠ ((.slice Ao33 t138.length co33) : Value).ownBlock ∧ some k_ ≠ ((.slice Ao34 t141.length co34) : Value).ownBlock) (.slice Ao30 t128.length co30) t128) ∧ Aside0 (Kd.R Kd.string 9 wc w.heap.size (fun k_ => some k_ ≠ ((.slice Ao30 t128.length co30) : Value).ownBlock ∧ some k_ ≠ ((.slice Ao33 t138.length co33) : Value).ownBlock ∧ some k_ ≠ ((.slice Ao34 t141.length co34) : Value).ownBlock ∧ some k_ ≠ ((.slice Ao33 t138.length co33) : Value).ownBlock ∧ some k_ ≠ ((.slice Ao34 t141.length co34) : Value).ownBlock) (.slice Ao31 t131.length co31) t131) ∧ Aside0 (Kd.R Kd.string 9 wc w.heap.size (fun k_ => some k_ ≠ ((.slice Ao30 t128.length co30) : Value).ownBlock ∧ some k_ ≠ ((.slice Ao31 t131.length co31) : Value).ownBlock ∧ some k_ ≠ ((.slice Ao34 t141.length co34) : Value).ownBlock ∧ some k_ ≠ ((.slice Ao34 t141.length co34) : Value).ownBlock) (.slice Ao33 t138.length co33) t138) ∧ Aside0 (Kd.R Kd.string 9 wc w.heap.size (fun k_ => some k_ ≠ ((.slice Ao30 t128.length co30) : Value).ownBlock ∧ some k_ ≠ ((.slice Ao31 t131.length co31) : Value).ownBlock ∧ some k_ ≠ ((.slice Ao33 t138.length co33) : Value).ownBlock ∧ some k_ ≠ ((.slice Ao33 t138.length co33) : Value).ownBlock) (.slice Ao34 t141.length co34) t141) ∧ Aside0 (Kd.R Kd.string 9 wc w.heap.size (fun k_ => some k_ ≠ ((.slice Ao30 t128.length co30) : Value).ownBlock ∧ some k_ ≠ ((.slice Ao31 t131.length co31) : Value).ownBlock ∧ some k_ ≠ ((.slice Ao34 t141.length co34) : Value).ownBlock ∧ some k_ ≠ ((.slice Ao34 t141.length co34) : Value).ownBlock) (.slice Ao33 t138.length co33) t138) ∧ Aside0 (Kd.R Kd.string 9 wc w.heap.size (fun k_ => some k_ ≠ ((.slice Ao30 t128.length co30) : Value).ownBlock ∧ some k_ ≠ ((.slice Ao31 t131.length co31) : Value).ownBlock ∧ some k_ ≠ ((.slice Ao33 t138.length co33) : Value).ownBlock ∧ some k_ ≠ ((.slice Ao33 t138.length co33) : Value).ownBlock) (.slice Ao34 t141.length co34) t141) ∧ Aside0 (wc.heap[gb145]? = some (.cells #[.string t124, .int .i64 t125, .int .i64 t126, .int .i64 t127, (.slice Ao30 t128.length co30), (.slice Ao31 t131.length co31), .bool t134] 28 (0, 0))) ∧ Aside0 (wc.heap[gb146]? = some (.cells #[.string t135, .int .i64 t136, .int .i64 t137, (.slice Ao33 t138.length co33), (.slice Ao34 t141.length co34), .bool t144] 31 (0, 0))) ∧ Aside0 (wc.heap[gb149]? = some (.cells #[.int .i64 t147, .int .i64 t148] 25 (0, 0))) ∧ Aside0 (wc.heap[gb154]? = some (.cells #[.string t135, .int .i64 (wrap64 (t136 + t155)), .int .i64 (wrap64 (t137 + t156)), (.slice Ao33 t138.length co33), (.slice Ao34 t141.length co34), .bool t144] 31 (0, 0))) ∧ Aside0 (wc.heap[gb159]? = some (.cells #[.int .i64 ji19, .int .i64 ji21] 25 (0, 0))) ∧ Aside0 (Below w.heap.size w wc))
  case first =>
    have H := HC22.out
    clear HC22
    by_cases c60 : t153 = 0
    · rw [if_pos c60] at H
      have c60b0 : (t153 == 0) = true := beq_iff_eq.mpr c60
      have c60b1 : (t153 != 0) = false := bne_eq_false_iff_eq.mpr c60
      clear c60
      (first | rw [c60b0] | (simp only [i64_w, i32_w]; rw [c60b0]) | skip)
      replace H := Option.bind_eq_some_iff.mp H
      obtain ⟨t160, A610, H⟩ := H
      replace H : ((fit_Why.f k t124 t125 t126 t127 t128 t131 t134 t135 (wrap64 (t136 + t155)) (wrap64 (t137 + t156)) t138 t141 t144 t147 t148 t160).bind fun t163 => (if t163 = 0 then ((joinerylaw5_beside.f k l6).bind fun t164 => ((fit_Why.f k t124 t125 t126 t127 t128 t131 t134 t135 t136 t137 t138 t141 t144 (ji19) (ji21) t164).bind fun t167 => (if t167 = 0 then ((fit_Why.f k t124 t125 t126 t127 t128 t131 t134 t135 t136 t137 t138 t141 t144 t147 t148 ([] : List (S41))).bind fun t168 => (joinerylaw5_FitMore.j0 k l6 (t168 != 0) t124 t125 t126 t127 t128 t131 t134 t135 t136 t137 t138 t141 t144 t147 t148)) else (joinerylaw5_FitMore.j0 k l6 true t124 t125 t126 t127 t128 t131 t134 t135 t136 t137 t138 t141 t144 t147 t148)))) else (joinerylaw5_FitMore.j0 k l6 true t124 t125 t126 t127 t128 t131 t134 t135 t136 t137 t138 t141 t144 t147 t148))) = some r := H
      have A61 := Aside0.mk A610
      clear A610
      replace H := Option.bind_eq_some_iff.mp H
      obtain ⟨t163, A620, H⟩ := H
      replace H : (if t163 = 0 then ((joinerylaw5_beside.f k l6).bind fun t164 => ((fit_Why.f k t124 t125 t126 t127 t128 t131 t134 t135 t136 t137 t138 t141 t144 (ji19) (ji21) t164).bind fun t167 => (if t167 = 0 then ((fit_Why.f k t124 t125 t126 t127 t128 t131 t134 t135 t136 t137 t138 t141 t144 t147 t148 ([] : List (S41))).bind fun t168 => (joinerylaw5_FitMore.j0 k l6 (t168 != 0) t124 t125 t126 t127 t128 t131 t134 t135 t136 t137 t138 t141 t144 t147 t148)) else (joinerylaw5_FitMore.j0 k l6 true t124 t125 t126 t127 t128 t131 t134 t135 t136 t137 t138 t141 t144 t147 t148)))) else (joinerylaw5_FitMore.j0 k l6 true t124 t125 t126 t127 t128 t131 t134 t135 t136 t137 t138 t141 t144 t147 t148)) = some r := H
      have A62 := Aside0.mk A620
      clear A620
      by_cases c63 : t163 = 0
      · rw [if_pos c63] at H
        have c63b0 : (t163 == 0) = true := beq_iff_eq.mpr c63
        have c63b1 : (t163 != 0) = false := bne_eq_false_iff_eq.mpr c63
        clear c63
        replace H := Option.bind_eq_some_iff.mp H
        obtain ⟨t164, A640, H⟩ := H
        replace H : ((fit_Why.f k t124 t125 t126 t127 t128 t131 t134 t135 t136 t137 t138 t141 t144 (ji19) (ji21) t164).bind fun t167 => (if t167 = 0 then ((fit_Why.f k t124 t125 t126 t127 t128 t131 t134 t135 t136 t137 t138 t141 t144 t147 t148 ([] : List (S41))).bind fun t168 => (joinerylaw5_FitMore.j0 k l6 (t168 != 0) t124 t125 t126 t127 t128 t131 t134 t135 t136 t137 t138 t141 t144 t147 t148)) else (joinerylaw5_FitMore.j0 k l6 true t124 t125 t126 t127 t128 t131 t134 t135 t136 t137 t138 t141 t144 t147 t148))) = some r := H
        have A64 := Aside0.mk A640
        clear A640
        replace H := Option.bind_eq_some_iff.mp H
        obtain ⟨t167, A650, H⟩ := H
        replace H : (if t167 = 0 then ((fit_Why.f k t124 t125 t126 t127 t128 t131 t134 t135 t136 t137 t138 t141 t144 t147 t148 ([] : List (S41))).bind fun t168 => (joinerylaw5_FitMore.j0 k l6 (t168 != 0) t124 t125 t126 t127 t128 t131 t134 t135 t136 t137 t138 t141 t144 t147 t148)) else (joinerylaw5_FitMore.j0 k l6 true t124 t125 t126 t127 t128 t131 t134 t135 t136 t137 t138 t141 t144 t147 t148)) = some r := H
        have A65 := Aside0.mk A650
        clear A650
        by_cases c66 : t167 = 0
        · rw [if_pos c66] at H
          have c66b0 : (t167 == 0) = true := beq_iff_eq.mpr c66
          have c66b1 : (t167 != 0) = false := bne_eq_false_iff_eq.mpr c66
          clear c66
          replace H := Option.bind_eq_some_iff.mp H
          obtain ⟨t168, A670, H⟩ := H
          replace H : (joinerylaw5_FitMore.j0 k l6 (t168 != 0) t124 t125 t126 t127 t128 t131 t134 t135 t136 t137 t138 t141 t144 t147 t148) = some r := H
          have A67 := Aside0.mk A670
          clear A670
          have H' := Aside0.mk H
          clear H
          try go_wp2
          (try simp only [drewN_out])
          have n0_ : Aside0 (Kd.R Kd.string 9 ((w57.setCell ⟨gb159, 0, none⟩ (.int .i64 ji19)).setCell ⟨gb159, 1, none⟩ (.int .i64 ji21)) w.heap.size (fun k_ => some k_ ≠ (.slice Ao31 t131.length co31 : Value).ownBlock ∧ some k_ ≠ (.slice Ao33 t138.length co33 : Value).ownBlock ∧ some k_ ≠ (.slice Ao34 t141.length co34 : Value).ownBlock) (.slice Ao30 t128.length co30) t128) := ⟨by (with_reducible repeat (first | apply Kd.R_alloc | apply Kd.R_drewN | apply Kd.R_drew)); exact Kd.R_mono (Kd.R_far (p := ⟨gb159, 1, none⟩) (Kd.R_far (p := ⟨gb159, 0, none⟩) (Kd.R_types HO130.out BK159.out (by decide)) (fun _ hk => hk.2) (.int .i64 ji19)) (fun _ hk => hk.2) (.int .i64 ji21)) (fun _ hk => ⟨hk.1.1, ⟨hk.1.2.1, hk.1.2.2⟩⟩)⟩
          have n1_ : Aside0 (Kd.R Kd.string 9 ((w57.setCell ⟨gb159, 0, none⟩ (.int .i64 ji19)).setCell ⟨gb159, 1, none⟩ (.int .i64 ji21)) w.heap.size (fun k_ => some k_ ≠ (.slice Ao30 t128.length co30 : Value).ownBlock ∧ some k_ ≠ (.slice Ao33 t138.length co33 : Value).ownBlock ∧ some k_ ≠ (.slice Ao34 t141.length co34 : Value).ownBlock) (.slice Ao31 t131.length co31) t131) := ⟨by (with_reducible repeat (first | apply Kd.R_alloc | apply Kd.R_drewN | apply Kd.R_drew)); exact Kd.R_mono (Kd.R_far (p := ⟨gb159, 1, none⟩) (Kd.R_far (p := ⟨gb159, 0, none⟩) (Kd.R_types HO133.out BK159.out (by decide)) (fun _ hk => hk.2) (.int .i64 ji19)) (fun _ hk => hk.2) (.int .i64 ji21)) (fun _ hk => ⟨hk.1.1, ⟨hk.1.2.1, hk.1.2.2⟩⟩)⟩
          have n2_ : Aside0 (Kd.R Kd.string 9 ((w57.setCell ⟨gb159, 0, none⟩ (.int .i64 ji19)).setCell ⟨gb159, 1, none⟩ (.int .i64 ji21)) w.heap.size (fun k_ => some k_ ≠ (.slice Ao30 t128.length co30 : Value).ownBlock ∧ some k_ ≠ (.slice Ao31 t131.length co31 : Value).ownBlock ∧ some k_ ≠ (.slice Ao34 t141.length co34 : Value).ownBlock) (.slice Ao33 t138.length co33) t138) := ⟨by (with_reducible repeat (first | apply Kd.R_alloc | apply Kd.R_drewN | apply Kd.R_drew)); exact Kd.R_mono (Kd.R_far (p := ⟨gb159, 1, none⟩) (Kd.R_far (p := ⟨gb159, 0, none⟩) (Kd.R_types HO140.out BK159.out (by decide)) (fun _ hk => hk.2) (.int .i64 ji19)) (fun _ hk => hk.2) (.int .i64 ji21)) (fun _ hk => ⟨hk.1.1, ⟨hk.1.2.1, hk.1.2.2⟩⟩)⟩
          have n3_ : Aside0 (Kd.R Kd.string 9 ((w57.setCell ⟨gb159, 0, none⟩ (.int .i64 ji19)).setCell ⟨gb159, 1, none⟩ (.int .i64 ji21)) w.heap.size (fun k_ => some k_ ≠ (.slice Ao30 t128.length co30 : Value).ownBlock ∧ some k_ ≠ (.slice Ao31 t131.length co31 : Value).ownBlock ∧ some k_ ≠ (.slice Ao33 t138.length co33 : Value).ownBlock) (.slice Ao34 t141.length co34) t141) := ⟨by (with_reducible repeat (first | apply Kd.R_alloc | apply Kd.R_drewN | apply Kd.R_drew)); exact Kd.R_mono (Kd.R_far (p := ⟨gb159, 1, none⟩) (Kd.R_far (p := ⟨gb159, 0, none⟩) (Kd.R_types HO143.out BK159.out (by decide)) (fun _ hk => hk.2) (.int .i64 ji19)) (fun _ hk => hk.2) (.int .i64 ji21)) (fun _ hk => ⟨hk.1.1, ⟨hk.1.2.1, hk.1.2.2⟩⟩)⟩
          have n4_ : Aside0 (Kd.R k41 41 ((w57.setCell ⟨gb159, 0, none⟩ (.int .i64 ji19)).setCell ⟨gb159, 1, none⟩ (.int .i64 ji21)) w.heap.size (fun _ => True) (.slice Ao42 t150.length co42) t150) := ⟨by (with_reducible repeat (first | apply Kd.R_alloc | apply Kd.R_drewN | apply Kd.R_drew)); exact Kd.R_mono (Kd.R_far (p := ⟨gb159, 1, none⟩) (Kd.R_far (p := ⟨gb159, 0, none⟩) (Kd.R_types HO152.out BK159.out (by decide)) (fun _ hk => hk.2) (.int .i64 ji19)) (fun _ hk => hk.2) (.int .i64 ji21)) (fun _ hk => trivial)⟩
          have n5_ : Aside0 (((w57.setCell ⟨gb159, 0, none⟩ (.int .i64 ji19)).setCell ⟨gb159, 1, none⟩ (.int .i64 ji21)).heap[gb145]? = some (.cells #[.string t124, .int .i64 t125, .int .i64 t126, .int .i64 t127, .slice Ao30 t128.length co30, .slice Ao31 t131.length co31, .bool t134] 28 (0, 0))) := ⟨by (with_reducible repeat (first | refine blk_drewN ?_ _ | refine blk_drew ?_ | refine blk_alloc ?_ _)); refine blk_far ?_ NB145_159.out _; (with_reducible repeat (first | refine blk_drewN ?_ _ | refine blk_drew ?_ | refine blk_alloc ?_ _)); refine blk_far ?_ NB145_159.out _; (with_reducible repeat (first | refine blk_drewN ?_ _ | refine blk_drew ?_ | refine blk_alloc ?_ _)); exact BK145.out⟩
          have n6_ : Aside0 (((w57.setCell ⟨gb159, 0, none⟩ (.int .i64 ji19)).setCell ⟨gb159, 1, none⟩ (.int .i64 ji21)).heap[gb146]? = some (.cells #[.string t135, .int .i64 t136, .int .i64 t137, .slice Ao33 t138.length co33, .slice Ao34 t141.length co34, .bool t144] 31 (0, 0))) := ⟨by (with_reducible repeat (first | refine blk_drewN ?_ _ | refine blk_drew ?_ | refine blk_alloc ?_ _)); refine blk_far ?_ NB146_159.out _; (with_reducible repeat (first | refine blk_drewN ?_ _ | refine blk_drew ?_ | refine blk_alloc ?_ _)); refine blk_far ?_ NB146_159.out _; (with_reducible repeat (first | refine blk_drewN ?_ _ | refine blk_drew ?_ | refine blk_alloc ?_ _)); exact BK146.out⟩
          have n7_ : Aside0 (((w57.setCell ⟨gb159, 0, none⟩ (.int .i64 ji19)).setCell ⟨gb159, 1, none⟩ (.int .i64 ji21)).heap[gb149]? = some (.cells #[.int .i64 t147, .int .i64 t148] 25 (0, 0))) := ⟨by (with_reducible repeat (first | refine blk_drewN ?_ _ | refine blk_drew ?_ | refine blk_alloc ?_ _)); refine blk_far ?_ NB149_159.out _; (with_reducible repeat (first | refine blk_drewN ?_ _ | refine blk_drew ?_ | refine blk_alloc ?_ _)); refine blk_far ?_ NB149_159.out _; (with_reducible repeat (first | refine blk_drewN ?_ _ | refine blk_drew ?_ | refine blk_alloc ?_ _)); exact BK149.out⟩
          have n8_ : Aside0 (((w57.setCell ⟨gb159, 0, none⟩ (.int .i64 ji19)).setCell ⟨gb159, 1, none⟩ (.int .i64 ji21)).heap[gb154]? = some (.cells #[.string t135, .int .i64 (wrap64 (t136 + t155)), .int .i64 (wrap64 (t137 + t156)), .slice Ao33 t138.length co33, .slice Ao34 t141.length co34, .bool t144] 31 (0, 0))) := ⟨by (with_reducible repeat (first | refine blk_drewN ?_ _ | refine blk_drew ?_ | refine blk_alloc ?_ _)); refine blk_far ?_ NB154_159.out _; (with_reducible repeat (first | refine blk_drewN ?_ _ | refine blk_drew ?_ | refine blk_alloc ?_ _)); refine blk_far ?_ NB154_159.out _; (with_reducible repeat (first | refine blk_drewN ?_ _ | refine blk_drew ?_ | refine blk_alloc ?_ _)); exact BK154.out⟩
          have n9_ : Aside0 (((w57.setCell ⟨gb159, 0, none⟩ (.int .i64 ji19)).setCell ⟨gb159, 1, none⟩ (.int .i64 ji21)).heap[gb159]? = some (.cells #[.int .i64 ji19, .int .i64 ji21] 25 (0, 0))) := ⟨by (with_reducible repeat (first | refine blk_drewN ?_ _ | refine blk_drew ?_ | refine blk_alloc ?_ _)); refine blk_put (cs := #[.int .i64 ji19, .int .i64 0]) ?_ 1 _ rfl; (with_reducible repeat (first | refine blk_drewN ?_ _ | refine blk_drew ?_ | refine blk_alloc ?_ _)); refine blk_put (cs := #[.int .i64 0, .int .i64 0]) ?_ 0 _ rfl; (with_reducible repeat (first | refine blk_drewN ?_ _ | refine blk_drew ?_ | refine blk_alloc ?_ _)); exact BK159.out⟩
          have n10_ : Aside0 (Below w.heap.size w ((w57.setCell ⟨gb159, 0, none⟩ (.int .i64 ji19)).setCell ⟨gb159, 1, none⟩ (.int .i64 ji21))) := ⟨by repeat (first | (with_reducible first | exact HB.out | apply below_alloc | apply pw_below_drewN | apply below_drew1 | refine below_set ?_ GE145.out | refine below_set ?_ GE146.out | refine below_set ?_ GE149.out | refine below_set ?_ GE154.out | refine below_set ?_ GE159.out) | exact HB.out)⟩
          (try clear HO130)
          (try clear HO133)
          (try clear HO140)
          (try clear HO143)
          (try clear HO152)
          (try clear BK145)
          (try clear BK146)
          (try clear BK149)
          (try clear BK154)
          (try clear BK159)
          (try clear HB)
          generalize ((w57.setCell ⟨gb159, 0, none⟩ (.int .i64 ji19)).setCell ⟨gb159, 1, none⟩ (.int .i64 ji21)) = w68 at n0_ n1_ n2_ n3_ n4_ n5_ n6_ n7_ n8_ n9_ n10_ ⊢
          have HO130 := n0_
          have HO133 := n1_
          have HO140 := n2_
          have HO143 := n3_
          have HO152 := n4_
          have BK145 := n5_
          have BK146 := n6_
          have BK149 := n7_
          have BK154 := n8_
          have BK159 := n9_
          have HB := n10_
          clear n0_ n1_ n2_ n3_ n4_ n5_ n6_ n7_ n8_ n9_ n10_
          have n0_ := Aside0.mk (Kd.R_drew HO130.out)
          have n1_ := Aside0.mk (Kd.R_drew HO133.out)
          have n2_ := Aside0.mk (Kd.R_drew HO140.out)
          have n3_ := Aside0.mk (Kd.R_drew HO143.out)
          have n4_ := Aside0.mk (Kd.R_drew HO152.out)
          have n5_ := Aside0.mk (blk_drew BK145.out)
          have n6_ := Aside0.mk (blk_drew BK146.out)
          have n7_ := Aside0.mk (blk_drew BK149.out)
          have n8_ := Aside0.mk (blk_drew BK154.out)
          have n9_ := Aside0.mk (blk_drew BK159.out)
          have n10_ := Aside0.mk (below_drew1 HB.out)
          clear HO130
          clear HO133
          clear HO140
          clear HO143
          clear HO152
          clear BK145
          clear BK146
          clear BK149
          clear BK154
          clear BK159
          clear HB
          have HO130 := n0_
          have HO133 := n1_
          have HO140 := n2_
          have HO143 := n3_
          have HO152 := n4_
          have BK145 := n5_
          have BK146 := n6_
          have BK149 := n7_
          have BK154 := n8_
          have BK159 := n9_
          have HB := n10_
          clear n0_ n1_ n2_ n3_ n4_ n5_ n6_ n7_ n8_ n9_ n10_
          refine start_ (n := 27) (S := fun w' => w'.cell? ⟨gb145, 0, none⟩ = some (.string t124) ∧ w'.cell? ⟨gb145, 1, none⟩ = some (.int .i64 t125) ∧ w'.cell? ⟨gb145, 2, none⟩ = some (.int .i64 t126) ∧ w'.cell? ⟨gb145, 3, none⟩ = some (.int .i64 t127) ∧ w'.cell? ⟨gb145, 4, none⟩ = some (.slice Ao30 t128.length co30) ∧ w'.cell? ⟨gb145, 5, none⟩ = some (.slice Ao31 t131.length co31) ∧ w'.cell? ⟨gb145, 6, none⟩ = some (.bool t134) ∧ w'.cell? ⟨gb154, 0, none⟩ = some (.string t135) ∧ w'.cell? ⟨gb154, 1, none⟩ = some (.int .i64 (wrap64 (t136 + t155))) ∧ w'.cell? ⟨gb154, 2, none⟩ = some (.int .i64 (wrap64 (t137 + t156))) ∧ w'.cell? ⟨gb154, 3, none⟩ = some (.slice Ao33 t138.length co33) ∧ w'.cell? ⟨gb154, 4, none⟩ = some (.slice Ao34 t141.length co34) ∧ w'.cell? ⟨gb154, 5, none⟩ = some (.bool t144) ∧ w'.cell? ⟨gb149, 0, none⟩ = some (.int .i64 t147) ∧ w'.cell? ⟨gb149, 1, none⟩ = some (.int .i64 t148) ∧ w'.cell? ⟨gb146, 0, none⟩ = some (.string t135) ∧ w'.cell? ⟨gb146, 1, none⟩ = some (.int .i64 t136) ∧ w'.cell? ⟨gb146, 2, none⟩ = some (.int .i64 t137) ∧ w'.cell? ⟨gb146, 3, none⟩ = some (.slice Ao33 t138.length co33) ∧ w'.cell? ⟨gb146, 4, none⟩ = some (.slice Ao34 t141.length co34) ∧ w'.cell? ⟨gb146, 5, none⟩ = some (.bool t144) ∧ w'.cell? ⟨gb159, 0, none⟩ = some (.int .i64 ji19) ∧ w'.cell? ⟨gb159, 1, none⟩ = some (.int .i64 ji21)) (ds := []) #[false, false, false, false, false, false, false, false, false, false, false, false, false, false, false, false, false, false, false, false, false, false, false, false, false, false, false] (by kernel_rfl) rfl rfl ⟨(blk_cell BK145.out 0).trans rfl, (blk_cell BK145.out 1).trans rfl, (blk_cell BK145.out 2).trans rfl, (blk_cell BK145.out 3).trans rfl, (blk_cell BK145.out 4).trans rfl, (blk_cell BK145.out 5).trans rfl, (blk_cell BK145.out 6).trans rfl, (blk_cell BK154.out 0).trans rfl, (blk_cell BK154.out 1).trans rfl, (blk_cell BK154.out 2).trans rfl, (blk_cell BK154.out 3).trans rfl, (blk_cell BK154.out 4).trans rfl, (blk_cell BK154.out 5).trans rfl, (blk_cell BK149.out 0).trans rfl, (blk_cell BK149.out 1).trans rfl, (blk_cell BK146.out 0).trans rfl, (blk_cell BK146.out 1).trans rfl, (blk_cell BK146.out 2).trans rfl, (blk_cell BK146.out 3).trans rfl, (blk_cell BK146.out 4).trans rfl, (blk_cell BK146.out 5).trans rfl, (blk_cell BK159.out 0).trans rfl, (blk_cell BK159.out 1).trans rfl⟩ (fun hHeld => ?_); refine with_tabW joinerylaw5_FitMore.tab9 joinerylaw5_FitMore.bits9 (fun HT_ HW_ => ?_)
          generalize w68.drew = w69 at HO130 HO133 HO140 HO143 HO152 BK145 BK146 BK149 BK154 BK159 HB hHeld ⊢
          refine pure_ (i := 0) (N := some 71) (v := ?_) (a' := ?_) #[true, false, false, false, false, false, false, false, false, false, false, false, false, false, false, false, false, false, false, false, false, false, false, false, false, false, false] rfl rfl (any_of HT_.out (by kernel_rfl)) (fun _ _ _ h => h) (Or.inl ⟨by rfl, ?_⟩) ?_ ?_
          rotate_left
          · intro w'
            go_simp
            with_reducible rfl
          rotate_left
          · simp only [Act.put, List.setIfInBounds_toArray, List.set_cons_zero, List.set_cons_succ, i64_w, i32_w]
            rfl
          refine pure_ (i := 1) (N := some 72) (v := ?_) (a' := ?_) #[true, true, false, false, false, false, false, false, false, false, false, false, false, false, false, false, false, false, false, false, false, false, false, false, false, false, false] rfl rfl (any_of HT_.out (by kernel_rfl)) (fun _ _ _ h => h) (Or.inl ⟨by rfl, ?_⟩) ?_ ?_
          rotate_left
          · intro w'
            go_simp
            with_reducible rfl
          rotate_left
          · simp only [Act.put, List.setIfInBounds_toArray, List.set_cons_zero, List.set_cons_succ, i64_w, i32_w]
            rfl
          refine pure_ (i := 2) (N := some 73) (v := ?_) (a' := ?_) #[true, true, true, false, false, false, false, false, false, false, false, false, false, false, false, false, false, false, false, false, false, false, false, false, false, false, false] rfl rfl (any_of HT_.out (by kernel_rfl)) (fun _ _ _ h => h) (Or.inl ⟨by rfl, ?_⟩) ?_ ?_
          rotate_left
          · intro w'
            go_simp
            with_reducible rfl
          rotate_left
          · simp only [Act.put, List.setIfInBounds_toArray, List.set_cons_zero, List.set_cons_succ, i64_w, i32_w]
            rfl
          refine pure_ (i := 6) (N := some 77) (v := ?_) (a' := ?_) #[true, true, true, false, false, false, true, false, false, false, false, false, false, false, false, false, false, false, false, false, false, false, false, false, false, false, false] rfl rfl (any_of HT_.out (by kernel_rfl)) (fun _ _ _ h => h) (Or.inl ⟨by rfl, ?_⟩) ?_ ?_
          rotate_left
          · intro w'
            go_simp
            with_reducible rfl
          rotate_left
          · simp only [Act.put, List.setIfInBounds_toArray, List.set_cons_zero, List.set_cons_succ, i64_w, i32_w]
            rfl
          refine take_ (i := 3) (N := some 74) (v := ?_) (a' := ?_) #[true, true, true, true, false, false, true, false, false, false, false, false, false, false, false, false, false, false, false, false, false, false, false, false, false, false, false] rfl rfl (take_ofW HT_.out HW_.out (by kernel_rfl)) (fun _ _ _ h => h) (Or.inl ⟨by rfl, ?_⟩) hHeld ?_ ?_
          rotate_left
          · rintro w' ⟨s0, s1, s2, s3, s4, s5, s6, s7, s8, s9, s10, s11, s12, s13, s14, s15, s16, s17, s18, s19, s20, s21, s22⟩
            go_simp
            with_reducible rfl
          rotate_left
          · simp only [Act.put, List.setIfInBounds_toArray, List.set_cons_zero, List.set_cons_succ, i64_w, i32_w]
            rfl
          refine take_ (i := 4) (N := some 75) (v := ?_) (a' := ?_) #[true, true, true, true, true, false, true, false, false, false, false, false, false, false, false, false, false, false, false, false, false, false, false, false, false, false, false] rfl rfl (take_ofW HT_.out HW_.out (by kernel_rfl)) (fun _ _ _ h => h) (Or.inl ⟨by rfl, ?_⟩) hHeld ?_ ?_
          rotate_left
          · rintro w' ⟨s0, s1, s2, s3, s4, s5, s6, s7, s8, s9, s10, s11, s12, s13, s14, s15, s16, s17, s18, s19, s20, s21, s22⟩
            go_simp
            with_reducible rfl
          rotate_left
          · simp only [Act.put, List.setIfInBounds_toArray, List.set_cons_zero, List.set_cons_succ, i64_w, i32_w]
            rfl
          refine take_ (i := 5) (N := some 76) (v := ?_) (a' := ?_) #[true, true, true, true, true, true, true, false, false, false, false, false, false, false, false, false, false, false, false, false, false, false, false, false, false, false, false] rfl rfl (take_ofW HT_.out HW_.out (by kernel_rfl)) (fun _ _ _ h => h) (Or.inl ⟨by rfl, ?_⟩) hHeld ?_ ?_
          rotate_left
          · rintro w' ⟨s0, s1, s2, s3, s4, s5, s6, s7, s8, s9, s10, s11, s12, s13, s14, s15, s16, s17, s18, s19, s20, s21, s22⟩
            go_simp
            with_reducible rfl
          rotate_left
          · simp only [Act.put, List.setIfInBounds_toArray, List.set_cons_zero, List.set_cons_succ, i64_w, i32_w]
            rfl
          refine one_ (i := 7) (N := some 78) #[true, true, true, true, true, true, true, true, false, false, false, false, false, false, false, false, false, false, false, false, false, false, false, false, false, false, false] rfl rfl (one_of HT_.out (by kernel_rfl)) (by decide) (fun K hK => ?_)
          refine goes_ Try.func17 (by kernel_rfl) rfl #[.slice A6 l6.length c6] (by rfl) rfl rfl (by (try simp only [List.map_toArray, List.map_cons, List.map_nil]); first | done | rfl | (simp only [List.length_drop, List.length_take]; rfl)) ?_
          with_reducible refine (joinerylaw5_beside.calls k _ _ l6 t160 _ ?side1 ?side2 A61.out).mono ?_
          (case side1 => repeat (first | exact (Kd.C_below HR6.out HB.out) | (with_reducible refine Kd.C_alloc ?_ _) | (with_reducible refine Kd.C_drewN ?_ _) | (with_reducible refine Kd.C_drew ?_)))
          (case side2 => exact HC6.out)
          rintro e w70 ⟨v161, rfl, ho0, hb⟩
          refine ⟨_, rfl, ?_⟩
          have n0_ := Aside0.mk (Kd.R_below (by (with_reducible repeat (first | apply Kd.R_alloc | apply Kd.R_drewN | apply Kd.R_drew)); exact HO130.out) hb)
          have n1_ := Aside0.mk (Kd.R_below (by (with_reducible repeat (first | apply Kd.R_alloc | apply Kd.R_drewN | apply Kd.R_drew)); exact HO133.out) hb)
          have n2_ := Aside0.mk (Kd.R_below (by (with_reducible repeat (first | apply Kd.R_alloc | apply Kd.R_drewN | apply Kd.R_drew)); exact HO140.out) hb)
          have n3_ := Aside0.mk (Kd.R_below (by (with_reducible repeat (first | apply Kd.R_alloc | apply Kd.R_drewN | apply Kd.R_drew)); exact HO143.out) hb)
          have n4_ := Aside0.mk (Kd.R_elder' (by (with_reducible repeat (first | apply Kd.R_alloc | apply Kd.R_drewN | apply Kd.R_drew)); exact HO152.out) (Kd.R_base ho0) hb)
          have n5_ := Aside0.mk (Kd.R_lower (Kd.R_new' ho0 (Kd.R_lt (by (with_reducible repeat (first | apply Kd.R_alloc | apply Kd.R_drewN | apply Kd.R_drew)); exact HO152.out))) (below_size (by repeat (first | (with_reducible first | exact HB.out | apply below_alloc | apply pw_below_drewN | apply below_drew1 | refine below_set ?_ GE145.out | refine below_set ?_ GE146.out | refine below_set ?_ GE149.out | refine below_set ?_ GE154.out | refine below_set ?_ GE159.out) | exact HB.out))))
          have n6_ := Aside0.mk (blk_below (g := gb145) (o := .cells #[.string t124, .int .i64 t125, .int .i64 t126, .int .i64 t127, .slice Ao30 t128.length co30, .slice Ao31 t131.length co31, .bool t134] 28 (0, 0)) (by (with_reducible repeat (first | refine blk_drewN ?_ _ | refine blk_drew ?_ | refine blk_alloc ?_ _)); exact BK145.out) hb)
          have n7_ := Aside0.mk (blk_below (g := gb146) (o := .cells #[.string t135, .int .i64 t136, .int .i64 t137, .slice Ao33 t138.length co33, .slice Ao34 t141.length co34, .bool t144] 31 (0, 0)) (by (with_reducible repeat (first | refine blk_drewN ?_ _ | refine blk_drew ?_ | refine blk_alloc ?_ _)); exact BK146.out) hb)
          have n8_ := Aside0.mk (blk_below (g := gb149) (o := .cells #[.int .i64 t147, .int .i64 t148] 25 (0, 0)) (by (with_reducible repeat (first | refine blk_drewN ?_ _ | refine blk_drew ?_ | refine blk_alloc ?_ _)); exact BK149.out) hb)
          have n9_ := Aside0.mk (blk_below (g := gb154) (o := .cells #[.string t135, .int .i64 (wrap64 (t136 + t155)), .int .i64 (wrap64 (t137 + t156)), .slice Ao33 t138.length co33, .slice Ao34 t141.length co34, .bool t144] 31 (0, 0)) (by (with_reducible repeat (first | refine blk_drewN ?_ _ | refine blk_drew ?_ | refine blk_alloc ?_ _)); exact BK154.out) hb)
          have n10_ := Aside0.mk (blk_below (g := gb159) (o := .cells #[.int .i64 ji19, .int .i64 ji21] 25 (0, 0)) (by (with_reducible repeat (first | refine blk_drewN ?_ _ | refine blk_drew ?_ | refine blk_alloc ?_ _)); exact BK159.out) hb)
          have n11_ := Aside0.mk (below_step (by repeat (first | (with_reducible first | exact HB.out | apply below_alloc | apply pw_below_drewN | apply below_drew1 | refine below_set ?_ GE145.out | refine below_set ?_ GE146.out | refine below_set ?_ GE149.out | refine below_set ?_ GE154.out | refine below_set ?_ GE159.out) | exact HB.out)) hb)
          clear HO130
          clear HO133
          clear HO140
          clear HO143
          clear HO152
          clear BK145
          clear BK146
          clear BK149
          clear BK154
          clear BK159
          clear HB
          have HO130 := n0_
          have HO133 := n1_
          have HO140 := n2_
          have HO143 := n3_
          have HO152 := n4_
          have HO162 := n5_
          have BK145 := n6_
          have BK146 := n7_
          have BK149 := n8_
          have BK154 := n9_
          have BK159 := n10_
          have HB := n11_
          clear n0_ n1_ n2_ n3_ n4_ n5_ n6_ n7_ n8_ n9_ n10_ n11_
          (try clear hb)
          (try clear hb2)
          (try clear hk)
          (try clear hi)
          (try clear ho0)
          obtain ⟨Ao71, co71, eo71⟩ := Kd.R_slice HO162.out
          (first | subst eo71 | (injection eo71 with f1_ f2_ f3_; have f4_ := f1_.symm; have f5_ := f3_.symm; clear f1_ f2_ f3_; subst f4_; subst f5_))
          refine hK.out _ _ ⟨(blk_cell BK145.out 0).trans rfl, (blk_cell BK145.out 1).trans rfl, (blk_cell BK145.out 2).trans rfl, (blk_cell BK145.out 3).trans rfl, (blk_cell BK145.out 4).trans rfl, (blk_cell BK145.out 5).trans rfl, (blk_cell BK145.out 6).trans rfl, (blk_cell BK154.out 0).trans rfl, (blk_cell BK154.out 1).trans rfl, (blk_cell BK154.out 2).trans rfl, (blk_cell BK154.out 3).trans rfl, (blk_cell BK154.out 4).trans rfl, (blk_cell BK154.out 5).trans rfl, (blk_cell BK149.out 0).trans rfl, (blk_cell BK149.out 1).trans rfl, (blk_cell BK146.out 0).trans rfl, (blk_cell BK146.out 1).trans rfl, (blk_cell BK146.out 2).trans rfl, (blk_cell BK146.out 3).trans rfl, (blk_cell BK146.out 4).trans rfl, (blk_cell BK146.out 5).trans rfl, (blk_cell BK159.out 0).trans rfl, (blk_cell BK159.out 1).trans rfl⟩ (fun hHeld => ?_)
          clear hK K
          refine norm_ (a' := ?_) ?_ ?_
          rotate_left
          · show Act.put _ (some 78) _ = _
            simp only [Act.put, List.setIfInBounds_toArray, List.set_cons_zero, List.set_cons_succ, i64_w, i32_w]
            rfl
          refine one_ (i := 8) (N := some 79) #[true, true, true, true, true, true, true, true, true, false, false, false, false, false, false, false, false, false, false, false, false, false, false, false, false, false, false] rfl rfl (one_of HT_.out (by kernel_rfl)) (by decide) (fun K hK => ?_)
          refine goes_ Try.func16 (by kernel_rfl) rfl #[.agg #[.string t124, .int .i64 t125, .int .i64 t126, .int .i64 t127, .slice Ao30 t128.length co30, .slice Ao31 t131.length co31, .bool t134], .agg #[.string t135, .int .i64 (wrap64 (t136 + t155)), .int .i64 (wrap64 (t137 + t156)), .slice Ao33 t138.length co33, .slice Ao34 t141.length co34, .bool t144], .agg #[.int .i64 t147, .int .i64 t148], .slice Ao71 t160.length co71] (by rfl) rfl rfl (by (try simp only [List.map_toArray, List.map_cons, List.map_nil]); first | done | rfl | (simp only [List.length_drop, List.length_take]; rfl)) ?_
          with_reducible refine (fit_Why.calls k t124 t125 t126 t127 _ _ t128 _ _ t131 t134 t135 (wrap64 (t136 + t155)) (wrap64 (t137 + t156)) _ _ t138 _ _ t141 t144 t147 t148 _ _ t160 t163 _ ?side1 ?side2 ?side3 ?side4 ?side5 ?side6 ?side7 ?side8 ?side9 ?side10 A62.out).mono ?_
          (case side1 => repeat (first | exact (Kd.R_reads' HO130.out).2.2 | (with_reducible refine Kd.C_alloc ?_ _) | (with_reducible refine Kd.C_drewN ?_ _) | (with_reducible refine Kd.C_drew ?_)))
          (case side2 => exact (Kd.R_reads' HO130.out).2.1)
          (case side3 => repeat (first | exact (Kd.R_reads' HO133.out).2.2 | (with_reducible refine Kd.C_alloc ?_ _) | (with_reducible refine Kd.C_drewN ?_ _) | (with_reducible refine Kd.C_drew ?_)))
          (case side4 => exact (Kd.R_reads' HO133.out).2.1)
          (case side5 => repeat (first | exact (Kd.R_reads' HO140.out).2.2 | (with_reducible refine Kd.C_alloc ?_ _) | (with_reducible refine Kd.C_drewN ?_ _) | (with_reducible refine Kd.C_drew ?_)))
          (case side6 => exact (Kd.R_reads' HO140.out).2.1)
          (case side7 => repeat (first | exact (Kd.R_reads' HO143.out).2.2 | (with_reducible refine Kd.C_alloc ?_ _) | (with_reducible refine Kd.C_drewN ?_ _) | (with_reducible refine Kd.C_drew ?_)))
          (case side8 => exact (Kd.R_reads' HO143.out).2.1)
          (case side9 => repeat (first | exact (Kd.R_reads' HO162.out).2.2 | (with_reducible refine Kd.C_alloc ?_ _) | (with_reducible refine Kd.C_drewN ?_ _) | (with_reducible refine Kd.C_drew ?_)))
          (case side10 => exact (Kd.R_reads' HO162.out).2.1)
          rintro e w72 ⟨rfl, hb⟩
          refine ⟨_, rfl, ?_⟩
          have n0_ := Aside0.mk (Kd.R_below (by (with_reducible repeat (first | apply Kd.R_alloc | apply Kd.R_drewN | apply Kd.R_drew)); exact HO130.out) hb)
          have n1_ := Aside0.mk (Kd.R_below (by (with_reducible repeat (first | apply Kd.R_alloc | apply Kd.R_drewN | apply Kd.R_drew)); exact HO133.out) hb)
          have n2_ := Aside0.mk (Kd.R_below (by (with_reducible repeat (first | apply Kd.R_alloc | apply Kd.R_drewN | apply Kd.R_drew)); exact HO140.out) hb)
          have n3_ := Aside0.mk (Kd.R_below (by (with_reducible repeat (first | apply Kd.R_alloc | apply Kd.R_drewN | apply Kd.R_drew)); exact HO143.out) hb)
          have n4_ := Aside0.mk (Kd.R_below (by (with_reducible repeat (first | apply Kd.R_alloc | apply Kd.R_drewN | apply Kd.R_drew)); exact HO152.out) hb)
          have n5_ := Aside0.mk (Kd.R_below (by (with_reducible repeat (first | apply Kd.R_alloc | apply Kd.R_drewN | apply Kd.R_drew)); exact HO162.out) hb)
          have n6_ := Aside0.mk (blk_below (g := gb145) (o := .cells #[.string t124, .int .i64 t125, .int .i64 t126, .int .i64 t127, .slice Ao30 t128.length co30, .slice Ao31 t131.length co31, .bool t134] 28 (0, 0)) (by (with_reducible repeat (first | refine blk_drewN ?_ _ | refine blk_drew ?_ | refine blk_alloc ?_ _)); exact BK145.out) hb)
          have n7_ := Aside0.mk (blk_below (g := gb146) (o := .cells #[.string t135, .int .i64 t136, .int .i64 t137, .slice Ao33 t138.length co33, .slice Ao34 t141.length co34, .bool t144] 31 (0, 0)) (by (with_reducible repeat (first | refine blk_drewN ?_ _ | refine blk_drew ?_ | refine blk_alloc ?_ _)); exact BK146.out) hb)
          have n8_ := Aside0.mk (blk_below (g := gb149) (o := .cells #[.int .i64 t147, .int .i64 t148] 25 (0, 0)) (by (with_reducible repeat (first | refine blk_drewN ?_ _ | refine blk_drew ?_ | refine blk_alloc ?_ _)); exact BK149.out) hb)
          have n9_ := Aside0.mk (blk_below (g := gb154) (o := .cells #[.string t135, .int .i64 (wrap64 (t136 + t155)), .int .i64 (wrap64 (t137 + t156)), .slice Ao33 t138.length co33, .slice Ao34 t141.length co34, .bool t144] 31 (0, 0)) (by (with_reducible repeat (first | refine blk_drewN ?_ _ | refine blk_drew ?_ | refine blk_alloc ?_ _)); exact BK154.out) hb)
          have n10_ := Aside0.mk (blk_below (g := gb159) (o := .cells #[.int .i64 ji19, .int .i64 ji21] 25 (0, 0)) (by (with_reducible repeat (first | refine blk_drewN ?_ _ | refine blk_drew ?_ | refine blk_alloc ?_ _)); exact BK159.out) hb)
          have n11_ := Aside0.mk (below_step (by repeat (first | (with_reducible first | exact HB.out | apply below_alloc | apply pw_below_drewN | apply below_drew1 | refine below_set ?_ GE145.out | refine below_set ?_ GE146.out | refine below_set ?_ GE149.out | refine below_set ?_ GE154.out | refine below_set ?_ GE159.out) | exact HB.out)) hb)
          clear HO130
          clear HO133
          clear HO140
          clear HO143
          clear HO152
          clear HO162
          clear BK145
          clear BK146
          clear BK149
          clear BK154
          clear BK159
          clear HB
          have HO130 := n0_
          have HO133 := n1_
          have HO140 := n2_
          have HO143 := n3_
          have HO152 := n4_
          have HO162 := n5_
          have BK145 := n6_
          have BK146 := n7_
          have BK149 := n8_
          have BK154 := n9_
          have BK159 := n10_
          have HB := n11_
          clear n0_ n1_ n2_ n3_ n4_ n5_ n6_ n7_ n8_ n9_ n10_ n11_
          (try clear hb)
          (try clear hb2)
          (try clear hk)
          (try clear hi)
          refine hK.out _ _ ⟨(blk_cell BK145.out 0).trans rfl, (blk_cell BK145.out 1).trans rfl, (blk_cell BK145.out 2).trans rfl, (blk_cell BK145.out 3).trans rfl, (blk_cell BK145.out 4).trans rfl, (blk_cell BK145.out 5).trans rfl, (blk_cell BK145.out 6).trans rfl, (blk_cell BK154.out 0).trans rfl, (blk_cell BK154.out 1).trans rfl, (blk_cell BK154.out 2).trans rfl, (blk_cell BK154.out 3).trans rfl, (blk_cell BK154.out 4).trans rfl, (blk_cell BK154.out 5).trans rfl, (blk_cell BK149.out 0).trans rfl, (blk_cell BK149.out 1).trans rfl, (blk_cell BK146.out 0).trans rfl, (blk_cell BK146.out 1).trans rfl, (blk_cell BK146.out 2).trans rfl, (blk_cell BK146.out 3).trans rfl, (blk_cell BK146.out 4).trans rfl, (blk_cell BK146.out 5).trans rfl, (blk_cell BK159.out 0).trans rfl, (blk_cell BK159.out 1).trans rfl⟩ (fun hHeld => ?_)
          clear hK K
          refine norm_ (a' := ?_) ?_ ?_
          rotate_left
          · show Act.put _ (some 79) _ = _
            simp only [Act.put, List.setIfInBounds_toArray, List.set_cons_zero, List.set_cons_succ, i64_w, i32_w]
            rfl
          refine pure_ (i := 9) (N := some 80) (v := ?_) (a' := ?_) #[true, true, true, true, true, true, true, true, true, true, false, false, false, false, false, false, false, false, false, false, false, false, false, false, false, false, false] rfl rfl (any_of HT_.out (by kernel_rfl)) (fun _ _ _ h => h) (Or.inl ⟨by rfl, ?_⟩) ?_ ?_
          rotate_left
          · intro w'
            go_simp
            with_reducible rfl
          rotate_left
          · simp only [Act.put, List.setIfInBounds_toArray, List.set_cons_zero, List.set_cons_succ, i64_w, i32_w]
            rfl
          refine pure_ (i := 10) (N := some 81) (v := ?_) (a' := ?_) #[true, true, true, true, true, true, true, true, true, true, true, false, false, false, false, false, false, false, false, false, false, false, false, false, false, false, false] rfl rfl (any_of HT_.out (by kernel_rfl)) (fun _ _ _ h => h) (Or.inl ⟨by rfl, ?_⟩) ?_ ?_
          rotate_left
          · intro w'
            go_simp
            with_reducible rfl
          rotate_left
          · simp only [Act.put, List.setIfInBounds_toArray, List.set_cons_zero, List.set_cons_succ, i64_w, i32_w]
            rfl
          refine pure_ (i := 14) (N := some 85) (v := ?_) (a' := ?_) #[true, true, true, true, true, true, true, true, true, true, true, false, false, false, true, false, false, false, false, false, false, false, false, false, false, false, false] rfl rfl (any_of HT_.out (by kernel_rfl)) (fun _ _ _ h => h) (Or.inl ⟨by rfl, ?_⟩) ?_ ?_
          rotate_left
          · intro w'
            go_simp
            with_reducible rfl
          rotate_left
          · simp only [Act.put, List.setIfInBounds_toArray, List.set_cons_zero, List.set_cons_succ, i64_w, i32_w]
            rfl
          refine take_ (i := 11) (N := some 82) (v := ?_) (a' := ?_) #[true, true, true, true, true, true, true, true, true, true, true, true, false, false, true, false, false, false, false, false, false, false, false, false, false, false, false] rfl rfl (take_ofW HT_.out HW_.out (by kernel_rfl)) (fun _ _ _ h => h) (Or.inl ⟨by rfl, ?_⟩) hHeld ?_ ?_
          rotate_left
          · rintro w' ⟨s0, s1, s2, s3, s4, s5, s6, s7, s8, s9, s10, s11, s12, s13, s14, s15, s16, s17, s18, s19, s20, s21, s22⟩
            go_simp
            with_reducible rfl
          rotate_left
          · simp only [Act.put, List.setIfInBounds_toArray, List.set_cons_zero, List.set_cons_succ, i64_w, i32_w]
            rfl
          refine take_ (i := 12) (N := some 83) (v := ?_) (a' := ?_) #[true, true, true, true, true, true, true, true, true, true, true, true, true, false, true, false, false, false, false, false, false, false, false, false, false, false, false] rfl rfl (take_ofW HT_.out HW_.out (by kernel_rfl)) (fun _ _ _ h => h) (Or.inl ⟨by rfl, ?_⟩) hHeld ?_ ?_
          rotate_left
          · rintro w' ⟨s0, s1, s2, s3, s4, s5, s6, s7, s8, s9, s10, s11, s12, s13, s14, s15, s16, s17, s18, s19, s20, s21, s22⟩
            go_simp
            with_reducible rfl
          rotate_left
          · simp only [Act.put, List.setIfInBounds_toArray, List.set_cons_zero, List.set_cons_succ, i64_w, i32_w]
            rfl
          refine take_ (i := 13) (N := some 84) (v := ?_) (a' := ?_) #[true, true, true, true, true, true, true, true, true, true, true, true, true, true, true, false, false, false, false, false, false, false, false, false, false, false, false] rfl rfl (take_ofW HT_.out HW_.out (by kernel_rfl)) (fun _ _ _ h => h) (Or.inl ⟨by rfl, ?_⟩) hHeld ?_ ?_
          rotate_left
          · rintro w' ⟨s0, s1, s2, s3, s4, s5, s6, s7, s8, s9, s10, s11, s12, s13, s14, s15, s16, s17, s18, s19, s20, s21, s22⟩
            go_simp
            with_reducible rfl
          rotate_left
          · simp only [Act.put, List.setIfInBounds_toArray, List.set_cons_zero, List.set_cons_succ, i64_w, i32_w]
            rfl
          refine one_ (i := 15) (N := some 86) #[true, true, true, true, true, true, true, true, true, true, true, true, true, true, true, true, false, false, false, false, false, false, false, false, false, false, false] rfl rfl (one_of HT_.out (by kernel_rfl)) (by decide) (fun K hK => ?_)
          refine goes_ Try.func17 (by kernel_rfl) rfl #[.slice A6 l6.length c6] (by rfl) rfl rfl (by (try simp only [List.map_toArray, List.map_cons, List.map_nil]); first | done | rfl | (simp only [List.length_drop, List.length_take]; rfl)) ?_
          with_reducible refine (joinerylaw5_beside.calls k _ _ l6 t164 _ ?side1 ?side2 A64.out).mono ?_
          (case side1 => repeat (first | exact (Kd.C_below HR6.out HB.out) | (with_reducible refine Kd.C_alloc ?_ _) | (with_reducible refine Kd.C_drewN ?_ _) | (with_reducible refine Kd.C_drew ?_)))
          (case side2 => exact HC6.out)
          rintro e w73 ⟨v165, rfl, ho0, hb⟩
          refine ⟨_, rfl, ?_⟩
          have n0_ := Aside0.mk (Kd.R_below (by (with_reducible repeat (first | apply Kd.R_alloc | apply Kd.R_drewN | apply Kd.R_drew)); exact HO130.out) hb)
          have n1_ := Aside0.mk (Kd.R_below (by (with_reducible repeat (first | apply Kd.R_alloc | apply Kd.R_drewN | apply Kd.R_drew)); exact HO133.out) hb)
          have n2_ := Aside0.mk (Kd.R_below (by (with_reducible repeat (first | apply Kd.R_alloc | apply Kd.R_drewN | apply Kd.R_drew)); exact HO140.out) hb)
          have n3_ := Aside0.mk (Kd.R_below (by (with_reducible repeat (first | apply Kd.R_alloc | apply Kd.R_drewN | apply Kd.R_drew)); exact HO143.out) hb)
          have n4_ := Aside0.mk (Kd.R_elder' (by (with_reducible repeat (first | apply Kd.R_alloc | apply Kd.R_drewN | apply Kd.R_drew)); exact HO152.out) (Kd.R_base ho0) hb)
          have n5_ := Aside0.mk (Kd.R_elder' (by (with_reducible repeat (first | apply Kd.R_alloc | apply Kd.R_drewN | apply Kd.R_drew)); exact HO162.out) (Kd.R_base ho0) hb)
          have n6_ := Aside0.mk (Kd.R_lower (Kd.R_new' (Kd.R_new' ho0 (Kd.R_lt (by (with_reducible repeat (first | apply Kd.R_alloc | apply Kd.R_drewN | apply Kd.R_drew)); exact HO152.out))) (Kd.R_lt (by (with_reducible repeat (first | apply Kd.R_alloc | apply Kd.R_drewN | apply Kd.R_drew)); exact HO162.out))) (below_size (by repeat (first | (with_reducible first | exact HB.out | apply below_alloc | apply pw_below_drewN | apply below_drew1 | refine below_set ?_ GE145.out | refine below_set ?_ GE146.out | refine below_set ?_ GE149.out | refine below_set ?_ GE154.out | refine below_set ?_ GE159.out) | exact HB.out))))
          have n7_ := Aside0.mk (blk_below (g := gb145) (o := .cells #[.string t124, .int .i64 t125, .int .i64 t126, .int .i64 t127, .slice Ao30 t128.length co30, .slice Ao31 t131.length co31, .bool t134] 28 (0, 0)) (by (with_reducible repeat (first | refine blk_drewN ?_ _ | refine blk_drew ?_ | refine blk_alloc ?_ _)); exact BK145.out) hb)
          have n8_ := Aside0.mk (blk_below (g := gb146) (o := .cells #[.string t135, .int .i64 t136, .int .i64 t137, .slice Ao33 t138.length co33, .slice Ao34 t141.length co34, .bool t144] 31 (0, 0)) (by (with_reducible repeat (first | refine blk_drewN ?_ _ | refine blk_drew ?_ | refine blk_alloc ?_ _)); exact BK146.out) hb)
          have n9_ := Aside0.mk (blk_below (g := gb149) (o := .cells #[.int .i64 t147, .int .i64 t148] 25 (0, 0)) (by (with_reducible repeat (first | refine blk_drewN ?_ _ | refine blk_drew ?_ | refine blk_alloc ?_ _)); exact BK149.out) hb)
          have n10_ := Aside0.mk (blk_below (g := gb154) (o := .cells #[.string t135, .int .i64 (wrap64 (t136 + t155)), .int .i64 (wrap64 (t137 + t156)), .slice Ao33 t138.length co33, .slice Ao34 t141.length co34, .bool t144] 31 (0, 0)) (by (with_reducible repeat (first | refine blk_drewN ?_ _ | refine blk_drew ?_ | refine blk_alloc ?_ _)); exact BK154.out) hb)
          have n11_ := Aside0.mk (blk_below (g := gb159) (o := .cells #[.int .i64 ji19, .int .i64 ji21] 25 (0, 0)) (by (with_reducible repeat (first | refine blk_drewN ?_ _ | refine blk_drew ?_ | refine blk_alloc ?_ _)); exact BK159.out) hb)
          have n12_ := Aside0.mk (below_step (by repeat (first | (with_reducible first | exact HB.out | apply below_alloc | apply pw_below_drewN | apply below_drew1 | refine below_set ?_ GE145.out | refine below_set ?_ GE146.out | refine below_set ?_ GE149.out | refine below_set ?_ GE154.out | refine below_set ?_ GE159.out) | exact HB.out)) hb)
          clear HO130
          clear HO133
          clear HO140
          clear HO143
          clear HO152
          clear HO162
          clear BK145
          clear BK146
          clear BK149
          clear BK154
          clear BK159
          clear HB
          have HO130 := n0_
          have HO133 := n1_
          have HO140 := n2_
          have HO143 := n3_
          have HO152 := n4_
          have HO162 := n5_
          have HO166 := n6_
          have BK145 := n7_
          have BK146 := n8_
          have BK149 := n9_
          have BK154 := n10_
          have BK159 := n11_
          have HB := n12_
          clear n0_ n1_ n2_ n3_ n4_ n5_ n6_ n7_ n8_ n9_ n10_ n11_ n12_
          (try clear hb)
          (try clear hb2)
          (try clear hk)
          (try clear hi)
          (try clear ho0)
          obtain ⟨Ao74, co74, eo74⟩ := Kd.R_slice HO166.out
          (first | subst eo74 | (injection eo74 with f1_ f2_ f3_; have f4_ := f1_.symm; have f5_ := f3_.symm; clear f1_ f2_ f3_; subst f4_; subst f5_))
          refine hK.out _ _ ⟨(blk_cell BK145.out 0).trans rfl, (blk_cell BK145.out 1).trans rfl, (blk_cell BK145.out 2).trans rfl, (blk_cell BK145.out 3).trans rfl, (blk_cell BK145.out 4).trans rfl, (blk_cell BK145.out 5).trans rfl, (blk_cell BK145.out 6).trans rfl, (blk_cell BK154.out 0).trans rfl, (blk_cell BK154.out 1).trans rfl, (blk_cell BK154.out 2).trans rfl, (blk_cell BK154.out 3).trans rfl, (blk_cell BK154.out 4).trans rfl, (blk_cell BK154.out 5).trans rfl, (blk_cell BK149.out 0).trans rfl, (blk_cell BK149.out 1).trans rfl, (blk_cell BK146.out 0).trans rfl, (blk_cell BK146.out 1).trans rfl, (blk_cell BK146.out 2).trans rfl, (blk_cell BK146.out 3).trans rfl, (blk_cell BK146.out 4).trans rfl, (blk_cell BK146.out 5).trans rfl, (blk_cell BK159.out 0).trans rfl, (blk_cell BK159.out 1).trans rfl⟩ (fun hHeld => ?_)
          clear hK K
          refine norm_ (a' := ?_) ?_ ?_
          rotate_left
          · show Act.put _ (some 86) _ = _
            simp only [Act.put, List.setIfInBounds_toArray, List.set_cons_zero, List.set_cons_succ, i64_w, i32_w]
            rfl
          refine one_ (i := 16) (N := some 87) #[true, true, true, true, true, true, true, true, true, true, true, true, true, true, true, true, true, false, false, false, false, false, false, false, false, false, false] rfl rfl (one_of HT_.out (by kernel_rfl)) (by decide) (fun K hK => ?_)
          refine goes_ Try.func16 (by kernel_rfl) rfl #[.agg #[.string t124, .int .i64 t125, .int .i64 t126, .int .i64 t127, .slice Ao30 t128.length co30, .slice Ao31 t131.length co31, .bool t134], .agg #[.string t135, .int .i64 t136, .int .i64 t137, .slice Ao33 t138.length co33, .slice Ao34 t141.length co34, .bool t144], .agg #[.int .i64 ji19, .int .i64 ji21], .slice Ao74 t164.length co74] (by rfl) rfl rfl (by (try simp only [List.map_toArray, List.map_cons, List.map_nil]); first | done | (simp only [hji19, hji21]; rfl) | rfl | (simp only [List.length_drop, List.length_take]; rfl)) ?_
          with_reducible refine (fit_Why.calls k t124 t125 t126 t127 _ _ t128 _ _ t131 t134 t135 t136 t137 _ _ t138 _ _ t141 t144 ji19 ji21 _ _ t164 t167 _ ?side1 ?side2 ?side3 ?side4 ?side5 ?side6 ?side7 ?side8 ?side9 ?side10 A65.out).mono ?_
          (case side1 => repeat (first | exact (Kd.R_reads' HO130.out).2.2 | (with_reducible refine Kd.C_alloc ?_ _) | (with_reducible refine Kd.C_drewN ?_ _) | (with_reducible refine Kd.C_drew ?_)))
          (case side2 => exact (Kd.R_reads' HO130.out).2.1)
          (case side3 => repeat (first | exact (Kd.R_reads' HO133.out).2.2 | (with_reducible refine Kd.C_alloc ?_ _) | (with_reducible refine Kd.C_drewN ?_ _) | (with_reducible refine Kd.C_drew ?_)))
          (case side4 => exact (Kd.R_reads' HO133.out).2.1)
          (case side5 => repeat (first | exact (Kd.R_reads' HO140.out).2.2 | (with_reducible refine Kd.C_alloc ?_ _) | (with_reducible refine Kd.C_drewN ?_ _) | (with_reducible refine Kd.C_drew ?_)))
          (case side6 => exact (Kd.R_reads' HO140.out).2.1)
          (case side7 => repeat (first | exact (Kd.R_reads' HO143.out).2.2 | (with_reducible refine Kd.C_alloc ?_ _) | (with_reducible refine Kd.C_drewN ?_ _) | (with_reducible refine Kd.C_drew ?_)))
          (case side8 => exact (Kd.R_reads' HO143.out).2.1)
          (case side9 => repeat (first | exact (Kd.R_reads' HO166.out).2.2 | (with_reducible refine Kd.C_alloc ?_ _) | (with_reducible refine Kd.C_drewN ?_ _) | (with_reducible refine Kd.C_drew ?_)))
          (case side10 => exact (Kd.R_reads' HO166.out).2.1)
          rintro e w75 ⟨rfl, hb⟩
          refine ⟨_, rfl, ?_⟩
          have n0_ := Aside0.mk (Kd.R_below (by (with_reducible repeat (first | apply Kd.R_alloc | apply Kd.R_drewN | apply Kd.R_drew)); exact HO130.out) hb)
          have n1_ := Aside0.mk (Kd.R_below (by (with_reducible repeat (first | apply Kd.R_alloc | apply Kd.R_drewN | apply Kd.R_drew)); exact HO133.out) hb)
          have n2_ := Aside0.mk (Kd.R_below (by (with_reducible repeat (first | apply Kd.R_alloc | apply Kd.R_drewN | apply Kd.R_drew)); exact HO140.out) hb)
          have n3_ := Aside0.mk (Kd.R_below (by (with_reducible repeat (first | apply Kd.R_alloc | apply Kd.R_drewN | apply Kd.R_drew)); exact HO143.out) hb)
          have n4_ := Aside0.mk (Kd.R_below (by (with_reducible repeat (first | apply Kd.R_alloc | apply Kd.R_drewN | apply Kd.R_drew)); exact HO152.out) hb)
          have n5_ := Aside0.mk (Kd.R_below (by (with_reducible repeat (first | apply Kd.R_alloc | apply Kd.R_drewN | apply Kd.R_drew)); exact HO162.out) hb)
          have n6_ := Aside0.mk (Kd.R_below (by (with_reducible repeat (first | apply Kd.R_alloc | apply Kd.R_drewN | apply Kd.R_drew)); exact HO166.out) hb)
          have n7_ := Aside0.mk (blk_below (g := gb145) (o := .cells #[.string t124, .int .i64 t125, .int .i64 t126, .int .i64 t127, .slice Ao30 t128.length co30, .slice Ao31 t131.length co31, .bool t134] 28 (0, 0)) (by (with_reducible repeat (first | refine blk_drewN ?_ _ | refine blk_drew ?_ | refine blk_alloc ?_ _)); exact BK145.out) hb)
          have n8_ := Aside0.mk (blk_below (g := gb146) (o := .cells #[.string t135, .int .i64 t136, .int .i64 t137, .slice Ao33 t138.length co33, .slice Ao34 t141.length co34, .bool t144] 31 (0, 0)) (by (with_reducible repeat (first | refine blk_drewN ?_ _ | refine blk_drew ?_ | refine blk_alloc ?_ _)); exact BK146.out) hb)
          have n9_ := Aside0.mk (blk_below (g := gb149) (o := .cells #[.int .i64 t147, .int .i64 t148] 25 (0, 0)) (by (with_reducible repeat (first | refine blk_drewN ?_ _ | refine blk_drew ?_ | refine blk_alloc ?_ _)); exact BK149.out) hb)
          have n10_ := Aside0.mk (blk_below (g := gb154) (o := .cells #[.string t135, .int .i64 (wrap64 (t136 + t155)), .int .i64 (wrap64 (t137 + t156)), .slice Ao33 t138.length co33, .slice Ao34 t141.length co34, .bool t144] 31 (0, 0)) (by (with_reducible repeat (first | refine blk_drewN ?_ _ | refine blk_drew ?_ | refine blk_alloc ?_ _)); exact BK154.out) hb)
          have n11_ := Aside0.mk (blk_below (g := gb159) (o := .cells #[.int .i64 ji19, .int .i64 ji21] 25 (0, 0)) (by (with_reducible repeat (first | refine blk_drewN ?_ _ | refine blk_drew ?_ | refine blk_alloc ?_ _)); exact BK159.out) hb)
          have n12_ := Aside0.mk (below_step (by repeat (first | (with_reducible first | exact HB.out | apply below_alloc | apply pw_below_drewN | apply below_drew1 | refine below_set ?_ GE145.out | refine below_set ?_ GE146.out | refine below_set ?_ GE149.out | refine below_set ?_ GE154.out | refine below_set ?_ GE159.out) | exact HB.out)) hb)
          clear HO130
          clear HO133
          clear HO140
          clear HO143
          clear HO152
          clear HO162
          clear HO166
          clear BK145
          clear BK146
          clear BK149
          clear BK154
          clear BK159
          clear HB
          have HO130 := n0_
          have HO133 := n1_
          have HO140 := n2_
          have HO143 := n3_
          have HO152 := n4_
          have HO162 := n5_
          have HO166 := n6_
          have BK145 := n7_
          have BK146 := n8_
          have BK149 := n9_
          have BK154 := n10_
          have BK159 := n11_
          have HB := n12_
          clear n0_ n1_ n2_ n3_ n4_ n5_ n6_ n7_ n8_ n9_ n10_ n11_ n12_
          (try clear hb)
          (try clear hb2)
          (try clear hk)
          (try clear hi)
          refine hK.out _ _ ⟨(blk_cell BK145.out 0).trans rfl, (blk_cell BK145.out 1).trans rfl, (blk_cell BK145.out 2).trans rfl, (blk_cell BK145.out 3).trans rfl, (blk_cell BK145.out 4).trans rfl, (blk_cell BK145.out 5).trans rfl, (blk_cell BK145.out 6).trans rfl, (blk_cell BK154.out 0).trans rfl, (blk_cell BK154.out 1).trans rfl, (blk_cell BK154.out 2).trans rfl, (blk_cell BK154.out 3).trans rfl, (blk_cell BK154.out 4).trans rfl, (blk_cell BK154.out 5).trans rfl, (blk_cell BK149.out 0).trans rfl, (blk_cell BK149.out 1).trans rfl, (blk_cell BK146.out 0).trans rfl, (blk_cell BK146.out 1).trans rfl, (blk_cell BK146.out 2).trans rfl, (blk_cell BK146.out 3).trans rfl, (blk_cell BK146.out 4).trans rfl, (blk_cell BK146.out 5).trans rfl, (blk_cell BK159.out 0).trans rfl, (blk_cell BK159.out 1).trans rfl⟩ (fun hHeld => ?_)
          clear hK K
          refine norm_ (a' := ?_) ?_ ?_
          rotate_left
          · show Act.put _ (some 87) _ = _
            simp only [Act.put, List.setIfInBounds_toArray, List.set_cons_zero, List.set_cons_succ, i64_w, i32_w]
            rfl
          refine pure_ (i := 17) (N := some 88) (v := ?_) (a' := ?_) #[true, true, true, true, true, true, true, true, true, true, true, true, true, true, true, true, true, true, false, false, false, false, false, false, false, false, false] rfl rfl (any_of HT_.out (by kernel_rfl)) (fun _ _ _ h => h) (Or.inl ⟨by rfl, ?_⟩) ?_ ?_
          rotate_left
          · intro w'
            go_simp
            with_reducible rfl
          rotate_left
          · simp only [Act.put, List.setIfInBounds_toArray, List.set_cons_zero, List.set_cons_succ, i64_w, i32_w]
            rfl
          refine pure_ (i := 18) (N := some 89) (v := ?_) (a' := ?_) #[true, true, true, true, true, true, true, true, true, true, true, true, true, true, true, true, true, true, true, false, false, false, false, false, false, false, false] rfl rfl (any_of HT_.out (by kernel_rfl)) (fun _ _ _ h => h) (Or.inl ⟨by rfl, ?_⟩) ?_ ?_
          rotate_left
          · intro w'
            go_simp
            with_reducible rfl
          rotate_left
          · simp only [Act.put, List.setIfInBounds_toArray, List.set_cons_zero, List.set_cons_succ, i64_w, i32_w]
            rfl
          refine pure_ (i := 19) (N := some 90) (v := ?_) (a' := ?_) #[true, true, true, true, true, true, true, true, true, true, true, true, true, true, true, true, true, true, true, true, false, false, false, false, false, false, false] rfl rfl (any_of HT_.out (by kernel_rfl)) (fun _ _ _ h => h) (Or.inl ⟨by rfl, ?_⟩) ?_ ?_
          rotate_left
          · intro w'
            go_simp
            with_reducible rfl
          rotate_left
          · simp only [Act.put, List.setIfInBounds_toArray, List.set_cons_zero, List.set_cons_succ, i64_w, i32_w]
            rfl
          refine take_ (i := 20) (N := some 91) (v := ?_) (a' := ?_) #[true, true, true, true, true, true, true, true, true, true, true, true, true, true, true, true, true, true, true, true, true, false, false, false, false, false, false] rfl rfl (take_ofW HT_.out HW_.out (by kernel_rfl)) (fun _ _ _ h => h) (Or.inl ⟨by rfl, ?_⟩) hHeld ?_ ?_
          rotate_left
          · rintro w' ⟨s0, s1, s2, s3, s4, s5, s6, s7, s8, s9, s10, s11, s12, s13, s14, s15, s16, s17, s18, s19, s20, s21, s22⟩
            go_simp
            with_reducible rfl
          rotate_left
          · simp only [Act.put, List.setIfInBounds_toArray, List.set_cons_zero, List.set_cons_succ, i64_w, i32_w]
            rfl
          refine take_ (i := 21) (N := some 92) (v := ?_) (a' := ?_) #[true, true, true, true, true, true, true, true, true, true, true, true, true, true, true, true, true, true, true, true, true, true, false, false, false, false, false] rfl rfl (take_ofW HT_.out HW_.out (by kernel_rfl)) (fun _ _ _ h => h) (Or.inl ⟨by rfl, ?_⟩) hHeld ?_ ?_
          rotate_left
          · rintro w' ⟨s0, s1, s2, s3, s4, s5, s6, s7, s8, s9, s10, s11, s12, s13, s14, s15, s16, s17, s18, s19, s20, s21, s22⟩
            go_simp
            with_reducible rfl
          rotate_left
          · simp only [Act.put, List.setIfInBounds_toArray, List.set_cons_zero, List.set_cons_succ, i64_w, i32_w]
            rfl
          refine take_ (i := 22) (N := some 93) (v := ?_) (a' := ?_) #[true, true, true, true, true, true, true, true, true, true, true, true, true, true, true, true, true, true, true, true, true, true, true, false, false, false, false] rfl rfl (take_ofW HT_.out HW_.out (by kernel_rfl)) (fun _ _ _ h => h) (Or.inl ⟨by rfl, ?_⟩) hHeld ?_ ?_
          rotate_left
          · rintro w' ⟨s0, s1, s2, s3, s4, s5, s6, s7, s8, s9, s10, s11, s12, s13, s14, s15, s16, s17, s18, s19, s20, s21, s22⟩
            go_simp
            with_reducible rfl
          rotate_left
          · simp only [Act.put, List.setIfInBounds_toArray, List.set_cons_zero, List.set_cons_succ, i64_w, i32_w]
            rfl
          refine one_ (i := 23) (N := some 94) #[true, true, true, true, true, true, true, true, true, true, true, true, true, true, true, true, true, true, true, true, true, true, true, true, false, false, false] rfl rfl (one_of HT_.out (by kernel_rfl)) (by decide) (fun K hK => ?_)
          refine goes_ Try.func16 (by kernel_rfl) rfl #[.agg #[.string t124, .int .i64 t125, .int .i64 t126, .int .i64 t127, .slice Ao30 t128.length co30, .slice Ao31 t131.length co31, .bool t134], .agg #[.string t135, .int .i64 t136, .int .i64 t137, .slice Ao33 t138.length co33, .slice Ao34 t141.length co34, .bool t144], .agg #[.int .i64 t147, .int .i64 t148], .slice none 0 0] (by rfl) rfl rfl (by (try simp only [List.map_toArray, List.map_cons, List.map_nil]); first | done | rfl | (simp only [List.length_drop, List.length_take]; rfl)) ?_
          refine (fit_Why.calls k t124 t125 t126 t127 _ _ t128 _ _ t131 t134 t135 t136 t137 _ _ t138 _ _ t141 t144 t147 t148 _ _ ([] : List (S41)) t168 _ ?side1 ?side2 ?side3 ?side4 ?side5 ?side6 ?side7 ?side8 ?side9 ?side10 A67.out).mono ?_
          (case side1 => repeat (first | exact (Kd.R_reads' HO130.out).2.2 | (with_reducible refine Kd.C_alloc ?_ _) | (with_reducible refine Kd.C_drewN ?_ _) | (with_reducible refine Kd.C_drew ?_)))
          (case side2 => exact (Kd.R_reads' HO130.out).2.1)
          (case side3 => repeat (first | exact (Kd.R_reads' HO133.out).2.2 | (with_reducible refine Kd.C_alloc ?_ _) | (with_reducible refine Kd.C_drewN ?_ _) | (with_reducible refine Kd.C_drew ?_)))
          (case side4 => exact (Kd.R_reads' HO133.out).2.1)
          (case side5 => repeat (first | exact (Kd.R_reads' HO140.out).2.2 | (with_reducible refine Kd.C_alloc ?_ _) | (with_reducible refine Kd.C_drewN ?_ _) | (with_reducible refine Kd.C_drew ?_)))
          (case side6 => exact (Kd.R_reads' HO140.out).2.1)
          (case side7 => repeat (first | exact (Kd.R_reads' HO143.out).2.2 | (with_reducible refine Kd.C_alloc ?_ _) | (with_reducible refine Kd.C_drewN ?_ _) | (with_reducible refine Kd.C_drew ?_)))
          (case side8 => exact (Kd.R_reads' HO143.out).2.1)
          (case side9 => exact Kd.C_nil _ _)
          (case side10 => exact Nat.le_refl _)
          rintro e w76 ⟨rfl, hb⟩
          refine ⟨_, rfl, ?_⟩
          have n0_ := Aside0.mk (Kd.R_below (by (with_reducible repeat (first | apply Kd.R_alloc | apply Kd.R_drewN | apply Kd.R_drew)); exact HO130.out) hb)
          have n1_ := Aside0.mk (Kd.R_below (by (with_reducible repeat (first | apply Kd.R_alloc | apply Kd.R_drewN | apply Kd.R_drew)); exact HO133.out) hb)
          have n2_ := Aside0.mk (Kd.R_below (by (with_reducible repeat (first | apply Kd.R_alloc | apply Kd.R_drewN | apply Kd.R_drew)); exact HO140.out) hb)
          have n3_ := Aside0.mk (Kd.R_below (by (with_reducible repeat (first | apply Kd.R_alloc | apply Kd.R_drewN | apply Kd.R_drew)); exact HO143.out) hb)
          have n4_ := Aside0.mk (Kd.R_below (by (with_reducible repeat (first | apply Kd.R_alloc | apply Kd.R_drewN | apply Kd.R_drew)); exact HO152.out) hb)
          have n5_ := Aside0.mk (Kd.R_below (by (with_reducible repeat (first | apply Kd.R_alloc | apply Kd.R_drewN | apply Kd.R_drew)); exact HO162.out) hb)
          have n6_ := Aside0.mk (Kd.R_below (by (with_reducible repeat (first | apply Kd.R_alloc | apply Kd.R_drewN | apply Kd.R_drew)); exact HO166.out) hb)
          have n7_ := Aside0.mk (blk_below (g := gb145) (o := .cells #[.string t124, .int .i64 t125, .int .i64 t126, .int .i64 t127, .slice Ao30 t128.length co30, .slice Ao31 t131.length co31, .bool t134] 28 (0, 0)) (by (with_reducible repeat (first | refine blk_drewN ?_ _ | refine blk_drew ?_ | refine blk_alloc ?_ _)); exact BK145.out) hb)
          have n8_ := Aside0.mk (blk_below (g := gb146) (o := .cells #[.string t135, .int .i64 t136, .int .i64 t137, .slice Ao33 t138.length co33, .slice Ao34 t141.length co34, .bool t144] 31 (0, 0)) (by (with_reducible repeat (first | refine blk_drewN ?_ _ | refine blk_drew ?_ | refine blk_alloc ?_ _)); exact BK146.out) hb)
          have n9_ := Aside0.mk (blk_below (g := gb149) (o := .cells #[.int .i64 t147, .int .i64 t148] 25 (0, 0)) (by (with_reducible repeat (first | refine blk_drewN ?_ _ | refine blk_drew ?_ | refine blk_alloc ?_ _)); exact BK149.out) hb)
          have n10_ := Aside0.mk (blk_below (g := gb154) (o := .cells #[.string t135, .int .i64 (wrap64 (t136 + t155)), .int .i64 (wrap64 (t137 + t156)), .slice Ao33 t138.length co33, .slice Ao34 t141.length co34, .bool t144] 31 (0, 0)) (by (with_reducible repeat (first | refine blk_drewN ?_ _ | refine blk_drew ?_ | refine blk_alloc ?_ _)); exact BK154.out) hb)
          have n11_ := Aside0.mk (blk_below (g := gb159) (o := .cells #[.int .i64 ji19, .int .i64 ji21] 25 (0, 0)) (by (with_reducible repeat (first | refine blk_drewN ?_ _ | refine blk_drew ?_ | refine blk_alloc ?_ _)); exact BK159.out) hb)
          have n12_ := Aside0.mk (below_step (by repeat (first | (with_reducible first | exact HB.out | apply below_alloc | apply pw_below_drewN | apply below_drew1 | refine below_set ?_ GE145.out | refine below_set ?_ GE146.out | refine below_set ?_ GE149.out | refine below_set ?_ GE154.out | refine below_set ?_ GE159.out) | exact HB.out)) hb)
          clear HO130
          clear HO133
          clear HO140
          clear HO143
          clear HO152
          clear HO162
          clear HO166
          clear BK145
          clear BK146
          clear BK149
          clear BK154
          clear BK159
          clear HB
          have HO130 := n0_
          have HO133 := n1_
          have HO140 := n2_
          have HO143 := n3_
          have HO152 := n4_
          have HO162 := n5_
          have HO166 := n6_
          have BK145 := n7_
          have BK146 := n8_
          have BK149 := n9_
          have BK154 := n10_
          have BK159 := n11_
          have HB := n12_
          clear n0_ n1_ n2_ n3_ n4_ n5_ n6_ n7_ n8_ n9_ n10_ n11_ n12_
          (try clear hb)
          (try clear hb2)
          (try clear hk)
          (try clear hi)
          refine hK.out _ _ ⟨(blk_cell BK145.out 0).trans rfl, (blk_cell BK145.out 1).trans rfl, (blk_cell BK145.out 2).trans rfl, (blk_cell BK145.out 3).trans rfl, (blk_cell BK145.out 4).trans rfl, (blk_cell BK145.out 5).trans rfl, (blk_cell BK145.out 6).trans rfl, (blk_cell BK154.out 0).trans rfl, (blk_cell BK154.out 1).trans rfl, (blk_cell BK154.out 2).trans rfl, (blk_cell BK154.out 3).trans rfl, (blk_cell BK154.out 4).trans rfl, (blk_cell BK154.out 5).trans rfl, (blk_cell BK149.out 0).trans rfl, (blk_cell BK149.out 1).trans rfl, (blk_cell BK146.out 0).trans rfl, (blk_cell BK146.out 1).trans rfl, (blk_cell BK146.out 2).trans rfl, (blk_cell BK146.out 3).trans rfl, (blk_cell BK146.out 4).trans rfl, (blk_cell BK146.out 5).trans rfl, (blk_cell BK159.out 0).trans rfl, (blk_cell BK159.out 1).trans rfl⟩ (fun hHeld => ?_)
          clear hK K
          refine norm_ (a' := ?_) ?_ ?_
          rotate_left
          · show Act.put _ (some 94) _ = _
            simp only [Act.put, List.setIfInBounds_toArray, List.set_cons_zero, List.set_cons_succ, i64_w, i32_w]
            rfl
          refine pure_ (i := 24) (N := some 95) (v := ?_) (a' := ?_) #[true, true, true, true, true, true, true, true, true, true, true, true, true, true, true, true, true, true, true, true, true, true, true, true, true, false, false] rfl rfl (any_of HT_.out (by kernel_rfl)) (fun _ _ _ h => h) (Or.inl ⟨by rfl, ?_⟩) ?_ ?_
          rotate_left
          · intro w'
            go_simp
            with_reducible rfl
          rotate_left
          · simp only [Act.put, List.setIfInBounds_toArray, List.set_cons_zero, List.set_cons_succ, i64_w, i32_w]
            rfl
          refine pure_ (i := 25) (N := some 96) (v := ?_) (a' := ?_) #[true, true, true, true, true, true, true, true, true, true, true, true, true, true, true, true, true, true, true, true, true, true, true, true, true, true, false] rfl rfl (any_of HT_.out (by kernel_rfl)) (fun _ _ _ h => h) (Or.inl ⟨by rfl, ?_⟩) ?_ ?_
          rotate_left
          · intro w'
            go_simp
            with_reducible rfl
          rotate_left
          · simp only [Act.put, List.setIfInBounds_toArray, List.set_cons_zero, List.set_cons_succ, i64_w, i32_w]
            rfl
          refine pure_ (i := 26) (N := some 97) (v := ?_) (a' := ?_) #[true, true, true, true, true, true, true, true, true, true, true, true, true, true, true, true, true, true, true, true, true, true, true, true, true, true, true] rfl rfl (any_of HT_.out (by kernel_rfl)) (fun _ _ _ h => h) (Or.inl ⟨by rfl, ?_⟩) ?_ ?_
          rotate_left
          · intro w'
            go_simp
            with_reducible rfl
          rotate_left
          · simp only [Act.put, List.setIfInBounds_toArray, List.set_cons_zero, List.set_cons_succ, i64_w, i32_w]
            rfl
          refine done_ (done_of HT_.out (by kernel_rfl)) ?_
          try go_wp2
          go_meet
          case rel => exact ⟨_, ((t168 != 0)), (by first | rfl | (simp; done) | (simp [*]; done)), H', ⟨by first | omega | exact Nat.le_refl _⟩, ⟨by (with_reducible repeat (first | apply Kd.R_alloc | apply Kd.R_drewN | apply Kd.R_drew)); exact Kd.R_mono HO130.out (fun _ hk => ⟨hk.1, ⟨hk.2.1, ⟨hk.2.2, ⟨hk.2.1, hk.2.2⟩⟩⟩⟩)⟩, ⟨by (with_reducible repeat (first | apply Kd.R_alloc | apply Kd.R_drewN | apply Kd.R_drew)); exact Kd.R_mono HO133.out (fun _ hk => ⟨hk.1, ⟨hk.2.1, ⟨hk.2.2, ⟨hk.2.1, hk.2.2⟩⟩⟩⟩)⟩, ⟨by (with_reducible repeat (first | apply Kd.R_alloc | apply Kd.R_drewN | apply Kd.R_drew)); exact Kd.R_mono HO140.out (fun _ hk => ⟨hk.1, ⟨hk.2.1, ⟨hk.2.2, hk.2.2⟩⟩⟩)⟩, ⟨by (with_reducible repeat (first | apply Kd.R_alloc | apply Kd.R_drewN | apply Kd.R_drew)); exact Kd.R_mono HO143.out (fun _ hk => ⟨hk.1, ⟨hk.2.1, ⟨hk.2.2, hk.2.2⟩⟩⟩)⟩, ⟨by (with_reducible repeat (first | apply Kd.R_alloc | apply Kd.R_drewN | apply Kd.R_drew)); exact Kd.R_mono HO140.out (fun _ hk => ⟨hk.1, ⟨hk.2.1, ⟨hk.2.2, hk.2.2⟩⟩⟩)⟩, ⟨by (with_reducible repeat (first | apply Kd.R_alloc | apply Kd.R_drewN | apply Kd.R_drew)); exact Kd.R_mono HO143.out (fun _ hk => ⟨hk.1, ⟨hk.2.1, ⟨hk.2.2, hk.2.2⟩⟩⟩)⟩, ⟨by (with_reducible repeat (first | refine blk_drewN ?_ _ | refine blk_drew ?_ | refine blk_alloc ?_ _)); exact BK145.out⟩, ⟨by (with_reducible repeat (first | refine blk_drewN ?_ _ | refine blk_drew ?_ | refine blk_alloc ?_ _)); exact BK146.out⟩, ⟨by (with_reducible repeat (first | refine blk_drewN ?_ _ | refine blk_drew ?_ | refine blk_alloc ?_ _)); exact BK149.out⟩, ⟨by (with_reducible repeat (first | refine blk_drewN ?_ _ | refine blk_drew ?_ | refine blk_alloc ?_ _)); exact BK154.out⟩, ⟨by (with_reducible repeat (first | refine blk_drewN ?_ _ | refine blk_drew ?_ | refine blk_alloc ?_ _)); exact BK159.out⟩, ⟨by repeat (first | (with_reducible first | exact HB.out | apply below_alloc | apply pw_below_drewN | apply below_drew1 | refine below_set ?_ GE145.out | refine below_set ?_ GE146.out | refine below_set ?_ GE149.out | refine below_set ?_ GE154.out | refine below_set ?_ GE159.out) | exact HB.out)⟩⟩
        · rw [if_neg c66] at H
          have c66b0 : (t167 == 0) = false := beq_eq_false_iff_ne.mpr c66
          have c66b1 : (t167 != 0) = true := bne_iff_ne.mpr c66
          have H' := Aside0.mk H
          clear H
          try go_wp2
          (try simp only [drewN_out])
          have n0_ : Aside0 (Kd.R Kd.string 9 ((w57.setCell ⟨gb159, 0, none⟩ (.int .i64 ji19)).setCell ⟨gb159, 1, none⟩ (.int .i64 ji21)) w.heap.size (fun k_ => some k_ ≠ (.slice Ao31 t131.length co31 : Value).ownBlock ∧ some k_ ≠ (.slice Ao33 t138.length co33 : Value).ownBlock ∧ some k_ ≠ (.slice Ao34 t141.length co34 : Value).ownBlock) (.slice Ao30 t128.length co30) t128) := ⟨by (with_reducible repeat (first | apply Kd.R_alloc | apply Kd.R_drewN | apply Kd.R_drew)); exact Kd.R_mono (Kd.R_far (p := ⟨gb159, 1, none⟩) (Kd.R_far (p := ⟨gb159, 0, none⟩) (Kd.R_types HO130.out BK159.out (by decide)) (fun _ hk => hk.2) (.int .i64 ji19)) (fun _ hk => hk.2) (.int .i64 ji21)) (fun _ hk => ⟨hk.1.1, ⟨hk.1.2.1, hk.1.2.2⟩⟩)⟩
          have n1_ : Aside0 (Kd.R Kd.string 9 ((w57.setCell ⟨gb159, 0, none⟩ (.int .i64 ji19)).setCell ⟨gb159, 1, none⟩ (.int .i64 ji21)) w.heap.size (fun k_ => some k_ ≠ (.slice Ao30 t128.length co30 : Value).ownBlock ∧ some k_ ≠ (.slice Ao33 t138.length co33 : Value).ownBlock ∧ some k_ ≠ (.slice Ao34 t141.length co34 : Value).ownBlock) (.slice Ao31 t131.length co31) t131) := ⟨by (with_reducible repeat (first | apply Kd.R_alloc | apply Kd.R_drewN | apply Kd.R_drew)); exact Kd.R_mono (Kd.R_far (p := ⟨gb159, 1, none⟩) (Kd.R_far (p := ⟨gb159, 0, none⟩) (Kd.R_types HO133.out BK159.out (by decide)) (fun _ hk => hk.2) (.int .i64 ji19)) (fun _ hk => hk.2) (.int .i64 ji21)) (fun _ hk => ⟨hk.1.1, ⟨hk.1.2.1, hk.1.2.2⟩⟩)⟩
          have n2_ : Aside0 (Kd.R Kd.string 9 ((w57.setCell ⟨gb159, 0, none⟩ (.int .i64 ji19)).setCell ⟨gb159, 1, none⟩ (.int .i64 ji21)) w.heap.size (fun k_ => some k_ ≠ (.slice Ao30 t128.length co30 : Value).ownBlock ∧ some k_ ≠ (.slice Ao31 t131.length co31 : Value).ownBlock ∧ some k_ ≠ (.slice Ao34 t141.length co34 : Value).ownBlock) (.slice Ao33 t138.length co33) t138) := ⟨by (with_reducible repeat (first | apply Kd.R_alloc | apply Kd.R_drewN | apply Kd.R_drew)); exact Kd.R_mono (Kd.R_far (p := ⟨gb159, 1, none⟩) (Kd.R_far (p := ⟨gb159, 0, none⟩) (Kd.R_types HO140.out BK159.out (by decide)) (fun _ hk => hk.2) (.int .i64 ji19)) (fun _ hk => hk.2) (.int .i64 ji21)) (fun _ hk => ⟨hk.1.1, ⟨hk.1.2.1, hk.1.2.2⟩⟩)⟩
          have n3_ : Aside0 (Kd.R Kd.string 9 ((w57.setCell ⟨gb159, 0, none⟩ (.int .i64 ji19)).setCell ⟨gb159, 1, none⟩ (.int .i64 ji21)) w.heap.size (fun k_ => some k_ ≠ (.slice Ao30 t128.length co30 : Value).ownBlock ∧ some k_ ≠ (.slice Ao31 t131.length co31 : Value).ownBlock ∧ some k_ ≠ (.slice Ao33 t138.length co33 : Value).ownBlock) (.slice Ao34 t141.length co34) t141) := ⟨by (with_reducible repeat (first | apply Kd.R_alloc | apply Kd.R_drewN | apply Kd.R_drew)); exact Kd.R_mono (Kd.R_far (p := ⟨gb159, 1, none⟩) (Kd.R_far (p := ⟨gb159, 0, none⟩) (Kd.R_types HO143.out BK159.out (by decide)) (fun _ hk => hk.2) (.int .i64 ji19)) (fun _ hk => hk.2) (.int .i64 ji21)) (fun _ hk => ⟨hk.1.1, ⟨hk.1.2.1, hk.1.2.2⟩⟩)⟩
          have n4_ : Aside0 (Kd.R k41 41 ((w57.setCell ⟨gb159, 0, none⟩ (.int .i64 ji19)).setCell ⟨gb159, 1, none⟩ (.int .i64 ji21)) w.heap.size (fun _ => True) (.slice Ao42 t150.length co42) t150) := ⟨by (with_reducible repeat (first | apply Kd.R_alloc | apply Kd.R_drewN | apply Kd.R_drew)); exact Kd.R_mono (Kd.R_far (p := ⟨gb159, 1, none⟩) (Kd.R_far (p := ⟨gb159, 0, none⟩) (Kd.R_types HO152.out BK159.out (by decide)) (fun _ hk => hk.2) (.int .i64 ji19)) (fun _ hk => hk.2) (.int .i64 ji21)) (fun _ hk => trivial)⟩
          have n5_ : Aside0 (((w57.setCell ⟨gb159, 0, none⟩ (.int .i64 ji19)).setCell ⟨gb159, 1, none⟩ (.int .i64 ji21)).heap[gb145]? = some (.cells #[.string t124, .int .i64 t125, .int .i64 t126, .int .i64 t127, .slice Ao30 t128.length co30, .slice Ao31 t131.length co31, .bool t134] 28 (0, 0))) := ⟨by (with_reducible repeat (first | refine blk_drewN ?_ _ | refine blk_drew ?_ | refine blk_alloc ?_ _)); refine blk_far ?_ NB145_159.out _; (with_reducible repeat (first | refine blk_drewN ?_ _ | refine blk_drew ?_ | refine blk_alloc ?_ _)); refine blk_far ?_ NB145_159.out _; (with_reducible repeat (first | refine blk_drewN ?_ _ | refine blk_drew ?_ | refine blk_alloc ?_ _)); exact BK145.out⟩
          have n6_ : Aside0 (((w57.setCell ⟨gb159, 0, none⟩ (.int .i64 ji19)).setCell ⟨gb159, 1, none⟩ (.int .i64 ji21)).heap[gb146]? = some (.cells #[.string t135, .int .i64 t136, .int .i64 t137, .slice Ao33 t138.length co33, .slice Ao34 t141.length co34, .bool t144] 31 (0, 0))) := ⟨by (with_reducible repeat (first | refine blk_drewN ?_ _ | refine blk_drew ?_ | refine blk_alloc ?_ _)); refine blk_far ?_ NB146_159.out _; (with_reducible repeat (first | refine blk_drewN ?_ _ | refine blk_drew ?_ | refine blk_alloc ?_ _)); refine blk_far ?_ NB146_159.out _; (with_reducible repeat (first | refine blk_drewN ?_ _ | refine blk_drew ?_ | refine blk_alloc ?_ _)); exact BK146.out⟩
          have n7_ : Aside0 (((w57.setCell ⟨gb159, 0, none⟩ (.int .i64 ji19)).setCell ⟨gb159, 1, none⟩ (.int .i64 ji21)).heap[gb149]? = some (.cells #[.int .i64 t147, .int .i64 t148] 25 (0, 0))) := ⟨by (with_reducible repeat (first | refine blk_drewN ?_ _ | refine blk_drew ?_ | refine blk_alloc ?_ _)); refine blk_far ?_ NB149_159.out _; (with_reducible repeat (first | refine blk_drewN ?_ _ | refine blk_drew ?_ | refine blk_alloc ?_ _)); refine blk_far ?_ NB149_159.out _; (with_reducible repeat (first | refine blk_drewN ?_ _ | refine blk_drew ?_ | refine blk_alloc ?_ _)); exact BK149.out⟩
          have n8_ : Aside0 (((w57.setCell ⟨gb159, 0, none⟩ (.int .i64 ji19)).setCell ⟨gb159, 1, none⟩ (.int .i64 ji21)).heap[gb154]? = some (.cells #[.string t135, .int .i64 (wrap64 (t136 + t155)), .int .i64 (wrap64 (t137 + t156)), .slice Ao33 t138.length co33, .slice Ao34 t141.length co34, .bool t144] 31 (0, 0))) := ⟨by (with_reducible repeat (first | refine blk_drewN ?_ _ | refine blk_drew ?_ | refine blk_alloc ?_ _)); refine blk_far ?_ NB154_159.out _; (with_reducible repeat (first | refine blk_drewN ?_ _ | refine blk_drew ?_ | refine blk_alloc ?_ _)); refine blk_far ?_ NB154_159.out _; (with_reducible repeat (first | refine blk_drewN ?_ _ | refine blk_drew ?_ | refine blk_alloc ?_ _)); exact BK154.out⟩
          have n9_ : Aside0 (((w57.setCell ⟨gb159, 0, none⟩ (.int .i64 ji19)).setCell ⟨gb159, 1, none⟩ (.int .i64 ji21)).heap[gb159]? = some (.cells #[.int .i64 ji19, .int .i64 ji21] 25 (0, 0))) := ⟨by (with_reducible repeat (first | refine blk_drewN ?_ _ | refine blk_drew ?_ | refine blk_alloc ?_ _)); refine blk_put (cs := #[.int .i64 ji19, .int .i64 0]) ?_ 1 _ rfl; (with_reducible repeat (first | refine blk_drewN ?_ _ | refine blk_drew ?_ | refine blk_alloc ?_ _)); refine blk_put (cs := #[.int .i64 0, .int .i64 0]) ?_ 0 _ rfl; (with_reducible repeat (first | refine blk_drewN ?_ _ | refine blk_drew ?_ | refine blk_alloc ?_ _)); exact BK159.out⟩
          have n10_ : Aside0 (Below w.heap.size w ((w57.setCell ⟨gb159, 0, none⟩ (.int .i64 ji19)).setCell ⟨gb159, 1, none⟩ (.int .i64 ji21))) := ⟨by repeat (first | (with_reducible first | exact HB.out | apply below_alloc | apply pw_below_drewN | apply below_drew1 | refine below_set ?_ GE145.out | refine below_set ?_ GE146.out | refine below_set ?_ GE149.out | refine below_set ?_ GE154.out | refine below_set ?_ GE159.out) | exact HB.out)⟩
          (try clear HO130)
          (try clear HO133)
          (try clear HO140)
          (try clear HO143)
          (try clear HO152)
          (try clear BK145)
          (try clear BK146)
          (try clear BK149)
          (try clear BK154)
          (try clear BK159)
          (try clear HB)
          generalize ((w57.setCell ⟨gb159, 0, none⟩ (.int .i64 ji19)).setCell ⟨gb159, 1, none⟩ (.int .i64 ji21)) = w77 at n0_ n1_ n2_ n3_ n4_ n5_ n6_ n7_ n8_ n9_ n10_ ⊢
          have HO130 := n0_
          have HO133 := n1_
          have HO140 := n2_
          have HO143 := n3_
          have HO152 := n4_
          have BK145 := n5_
          have BK146 := n6_
          have BK149 := n7_
          have BK154 := n8_
          have BK159 := n9_
          have HB := n10_
          clear n0_ n1_ n2_ n3_ n4_ n5_ n6_ n7_ n8_ n9_ n10_
          have n0_ := Aside0.mk (Kd.R_drew HO130.out)
          have n1_ := Aside0.mk (Kd.R_drew HO133.out)
          have n2_ := Aside0.mk (Kd.R_drew HO140.out)
          have n3_ := Aside0.mk (Kd.R_drew HO143.out)
          have n4_ := Aside0.mk (Kd.R_drew HO152.out)
          have n5_ := Aside0.mk (blk_drew BK145.out)
          have n6_ := Aside0.mk (blk_drew BK146.out)
          have n7_ := Aside0.mk (blk_drew BK149.out)
          have n8_ := Aside0.mk (blk_drew BK154.out)
          have n9_ := Aside0.mk (blk_drew BK159.out)
          have n10_ := Aside0.mk (below_drew1 HB.out)
          clear HO130
          clear HO133
          clear HO140
          clear HO143
          clear HO152
          clear BK145
          clear BK146
          clear BK149
          clear BK154
          clear BK159
          clear HB
          have HO130 := n0_
          have HO133 := n1_
          have HO140 := n2_
          have HO143 := n3_
          have HO152 := n4_
          have BK145 := n5_
          have BK146 := n6_
          have BK149 := n7_
          have BK154 := n8_
          have BK159 := n9_
          have HB := n10_
          clear n0_ n1_ n2_ n3_ n4_ n5_ n6_ n7_ n8_ n9_ n10_
          refine start_ (n := 27) (S := fun w' => w'.cell? ⟨gb145, 0, none⟩ = some (.string t124) ∧ w'.cell? ⟨gb145, 1, none⟩ = some (.int .i64 t125) ∧ w'.cell? ⟨gb145, 2, none⟩ = some (.int .i64 t126) ∧ w'.cell? ⟨gb145, 3, none⟩ = some (.int .i64 t127) ∧ w'.cell? ⟨gb145, 4, none⟩ = some (.slice Ao30 t128.length co30) ∧ w'.cell? ⟨gb145, 5, none⟩ = some (.slice Ao31 t131.length co31) ∧ w'.cell? ⟨gb145, 6, none⟩ = some (.bool t134) ∧ w'.cell? ⟨gb154, 0, none⟩ = some (.string t135) ∧ w'.cell? ⟨gb154, 1, none⟩ = some (.int .i64 (wrap64 (t136 + t155))) ∧ w'.cell? ⟨gb154, 2, none⟩ = some (.int .i64 (wrap64 (t137 + t156))) ∧ w'.cell? ⟨gb154, 3, none⟩ = some (.slice Ao33 t138.length co33) ∧ w'.cell? ⟨gb154, 4, none⟩ = some (.slice Ao34 t141.length co34) ∧ w'.cell? ⟨gb154, 5, none⟩ = some (.bool t144) ∧ w'.cell? ⟨gb149, 0, none⟩ = some (.int .i64 t147) ∧ w'.cell? ⟨gb149, 1, none⟩ = some (.int .i64 t148) ∧ w'.cell? ⟨gb146, 0, none⟩ = some (.string t135) ∧ w'.cell? ⟨gb146, 1, none⟩ = some (.int .i64 t136) ∧ w'.cell? ⟨gb146, 2, none⟩ = some (.int .i64 t137) ∧ w'.cell? ⟨gb146, 3, none⟩ = some (.slice Ao33 t138.length co33) ∧ w'.cell? ⟨gb146, 4, none⟩ = some (.slice Ao34 t141.length co34) ∧ w'.cell? ⟨gb146, 5, none⟩ = some (.bool t144) ∧ w'.cell? ⟨gb159, 0, none⟩ = some (.int .i64 ji19) ∧ w'.cell? ⟨gb159, 1, none⟩ = some (.int .i64 ji21)) (ds := []) #[false, false, false, false, false, false, false, false, false, false, false, false, false, false, false, false, false, false, false, false, false, false, false, false, false, false, false] (by kernel_rfl) rfl rfl ⟨(blk_cell BK145.out 0).trans rfl, (blk_cell BK145.out 1).trans rfl, (blk_cell BK145.out 2).trans rfl, (blk_cell BK145.out 3).trans rfl, (blk_cell BK145.out 4).trans rfl, (blk_cell BK145.out 5).trans rfl, (blk_cell BK145.out 6).trans rfl, (blk_cell BK154.out 0).trans rfl, (blk_cell BK154.out 1).trans rfl, (blk_cell BK154.out 2).trans rfl, (blk_cell BK154.out 3).trans rfl, (blk_cell BK154.out 4).trans rfl, (blk_cell BK154.out 5).trans rfl, (blk_cell BK149.out 0).trans rfl, (blk_cell BK149.out 1).trans rfl, (blk_cell BK146.out 0).trans rfl, (blk_cell BK146.out 1).trans rfl, (blk_cell BK146.out 2).trans rfl, (blk_cell BK146.out 3).trans rfl, (blk_cell BK146.out 4).trans rfl, (blk_cell BK146.out 5).trans rfl, (blk_cell BK159.out 0).trans rfl, (blk_cell BK159.out 1).trans rfl⟩ (fun hHeld => ?_); refine with_tabW joinerylaw5_FitMore.tab9 joinerylaw5_FitMore.bits9 (fun HT_ HW_ => ?_)
          generalize w77.drew = w78 at HO130 HO133 HO140 HO143 HO152 BK145 BK146 BK149 BK154 BK159 HB hHeld ⊢
          refine pure_ (i := 0) (N := some 71) (v := ?_) (a' := ?_) #[true, false, false, false, false, false, false, false, false, false, false, false, false, false, false, false, false, false, false, false, false, false, false, false, false, false, false] rfl rfl (any_of HT_.out (by kernel_rfl)) (fun _ _ _ h => h) (Or.inl ⟨by rfl, ?_⟩) ?_ ?_
          rotate_left
          · intro w'
            go_simp
            with_reducible rfl
          rotate_left
          · simp only [Act.put, List.setIfInBounds_toArray, List.set_cons_zero, List.set_cons_succ, i64_w, i32_w]
            rfl
          refine pure_ (i := 1) (N := some 72) (v := ?_) (a' := ?_) #[true, true, false, false, false, false, false, false, false, false, false, false, false, false, false, false, false, false, false, false, false, false, false, false, false, false, false] rfl rfl (any_of HT_.out (by kernel_rfl)) (fun _ _ _ h => h) (Or.inl ⟨by rfl, ?_⟩) ?_ ?_
          rotate_left
          · intro w'
            go_simp
            with_reducible rfl
          rotate_left
          · simp only [Act.put, List.setIfInBounds_toArray, List.set_cons_zero, List.set_cons_succ, i64_w, i32_w]
            rfl
          refine pure_ (i := 2) (N := some 73) (v := ?_) (a' := ?_) #[true, true, true, false, false, false, false, false, false, false, false, false, false, false, false, false, false, false, false, false, false, false, false, false, false, false, false] rfl rfl (any_of HT_.out (by kernel_rfl)) (fun _ _ _ h => h) (Or.inl ⟨by rfl, ?_⟩) ?_ ?_
          rotate_left
          · intro w'
            go_simp
            with_reducible rfl
          rotate_left
          · simp only [Act.put, List.setIfInBounds_toArray, List.set_cons_zero, List.set_cons_succ, i64_w, i32_w]
            rfl
          refine pure_ (i := 6) (N := some 77) (v := ?_) (a' := ?_) #[true, true, true, false, false, false, true, false, false, false, false, false, false, false, false, false, false, false, false, false, false, false, false, false, false, false, false] rfl rfl (any_of HT_.out (by kernel_rfl)) (fun _ _ _ h => h) (Or.inl ⟨by rfl, ?_⟩) ?_ ?_
          rotate_left
          · intro w'
            go_simp
            with_reducible rfl
          rotate_left
          · simp only [Act.put, List.setIfInBounds_toArray, List.set_cons_zero, List.set_cons_succ, i64_w, i32_w]
            rfl
          refine take_ (i := 3) (N := some 74) (v := ?_) (a' := ?_) #[true, true, true, true, false, false, true, false, false, false, false, false, false, false, false, false, false, false, false, false, false, false, false, false, false, false, false] rfl rfl (take_ofW HT_.out HW_.out (by kernel_rfl)) (fun _ _ _ h => h) (Or.inl ⟨by rfl, ?_⟩) hHeld ?_ ?_
          rotate_left
          · rintro w' ⟨s0, s1, s2, s3, s4, s5, s6, s7, s8, s9, s10, s11, s12, s13, s14, s15, s16, s17, s18, s19, s20, s21, s22⟩
            go_simp
            with_reducible rfl
          rotate_left
          · simp only [Act.put, List.setIfInBounds_toArray, List.set_cons_zero, List.set_cons_succ, i64_w, i32_w]
            rfl
          refine take_ (i := 4) (N := some 75) (v := ?_) (a' := ?_) #[true, true, true, true, true, false, true, false, false, false, false, false, false, false, false, false, false, false, false, false, false, false, false, false, false, false, false] rfl rfl (take_ofW HT_.out HW_.out (by kernel_rfl)) (fun _ _ _ h => h) (Or.inl ⟨by rfl, ?_⟩) hHeld ?_ ?_
          rotate_left
          · rintro w' ⟨s0, s1, s2, s3, s4, s5, s6, s7, s8, s9, s10, s11, s12, s13, s14, s15, s16, s17, s18, s19, s20, s21, s22⟩
            go_simp
            with_reducible rfl
          rotate_left
          · simp only [Act.put, List.setIfInBounds_toArray, List.set_cons_zero, List.set_cons_succ, i64_w, i32_w]
            rfl
          refine take_ (i := 5) (N := some 76) (v := ?_) (a' := ?_) #[true, true, true, true, true, true, true, false, false, false, false, false, false, false, false, false, false, false, false, false, false, false, false, false, false, false, false] rfl rfl (take_ofW HT_.out HW_.out (by kernel_rfl)) (fun _ _ _ h => h) (Or.inl ⟨by rfl, ?_⟩) hHeld ?_ ?_
          rotate_left
          · rintro w' ⟨s0, s1, s2, s3, s4, s5, s6, s7, s8, s9, s10, s11, s12, s13, s14, s15, s16, s17, s18, s19, s20, s21, s22⟩
            go_simp
            with_reducible rfl
          rotate_left
          · simp only [Act.put, List.setIfInBounds_toArray, List.set_cons_zero, List.set_cons_succ, i64_w, i32_w]
            rfl
          refine one_ (i := 7) (N := some 78) #[true, true, true, true, true, true, true, true, false, false, false, false, false, false, false, false, false, false, false, false, false, false, false, false, false, false, false] rfl rfl (one_of HT_.out (by kernel_rfl)) (by decide) (fun K hK => ?_)
          refine goes_ Try.func17 (by kernel_rfl) rfl #[.slice A6 l6.length c6] (by rfl) rfl rfl (by (try simp only [List.map_toArray, List.map_cons, List.map_nil]); first | done | rfl | (simp only [List.length_drop, List.length_take]; rfl)) ?_
          with_reducible refine (joinerylaw5_beside.calls k _ _ l6 t160 _ ?side1 ?side2 A61.out).mono ?_
          (case side1 => repeat (first | exact (Kd.C_below HR6.out HB.out) | (with_reducible refine Kd.C_alloc ?_ _) | (with_reducible refine Kd.C_drewN ?_ _) | (with_reducible refine Kd.C_drew ?_)))
          (case side2 => exact HC6.out)
          rintro e w79 ⟨v161, rfl, ho0, hb⟩
          refine ⟨_, rfl, ?_⟩
          have n0_ := Aside0.mk (Kd.R_below (by (with_reducible repeat (first | apply Kd.R_alloc | apply Kd.R_drewN | apply Kd.R_drew)); exact HO130.out) hb)
          have n1_ := Aside0.mk (Kd.R_below (by (with_reducible repeat (first | apply Kd.R_alloc | apply Kd.R_drewN | apply Kd.R_drew)); exact HO133.out) hb)
          have n2_ := Aside0.mk (Kd.R_below (by (with_reducible repeat (first | apply Kd.R_alloc | apply Kd.R_drewN | apply Kd.R_drew)); exact HO140.out) hb)
          have n3_ := Aside0.mk (Kd.R_below (by (with_reducible repeat (first | apply Kd.R_alloc | apply Kd.R_drewN | apply Kd.R_drew)); exact HO143.out) hb)
          have n4_ := Aside0.mk (Kd.R_elder' (by (with_reducible repeat (first | apply Kd.R_alloc | apply Kd.R_drewN | apply Kd.R_drew)); exact HO152.out) (Kd.R_base ho0) hb)
          have n5_ := Aside0.mk (Kd.R_lower (Kd.R_new' ho0 (Kd.R_lt (by (with_reducible repeat (first | apply Kd.R_alloc | apply Kd.R_drewN | apply Kd.R_drew)); exact HO152.out))) (below_size (by repeat (first | (with_reducible first | exact HB.out | apply below_alloc | apply pw_below_drewN | apply below_drew1 | refine below_set ?_ GE145.out | refine below_set ?_ GE146.out | refine below_set ?_ GE149.out | refine below_set ?_ GE154.out | refine below_set ?_ GE159.out) | exact HB.out))))
          have n6_ := Aside0.mk (blk_below (g := gb145) (o := .cells #[.string t124, .int .i64 t125, .int .i64 t126, .int .i64 t127, .slice Ao30 t128.length co30, .slice Ao31 t131.length co31, .bool t134] 28 (0, 0)) (by (with_reducible repeat (first | refine blk_drewN ?_ _ | refine blk_drew ?_ | refine blk_alloc ?_ _)); exact BK145.out) hb)
          have n7_ := Aside0.mk (blk_below (g := gb146) (o := .cells #[.string t135, .int .i64 t136, .int .i64 t137, .slice Ao33 t138.length co33, .slice Ao34 t141.length co34, .bool t144] 31 (0, 0)) (by (with_reducible repeat (first | refine blk_drewN ?_ _ | refine blk_drew ?_ | refine blk_alloc ?_ _)); exact BK146.out) hb)
          have n8_ := Aside0.mk (blk_below (g := gb149) (o := .cells #[.int .i64 t147, .int .i64 t148] 25 (0, 0)) (by (with_reducible repeat (first | refine blk_drewN ?_ _ | refine blk_drew ?_ | refine blk_alloc ?_ _)); exact BK149.out) hb)
          have n9_ := Aside0.mk (blk_below (g := gb154) (o := .cells #[.string t135, .int .i64 (wrap64 (t136 + t155)), .int .i64 (wrap64 (t137 + t156)), .slice Ao33 t138.length co33, .slice Ao34 t141.length co34, .bool t144] 31 (0, 0)) (by (with_reducible repeat (first | refine blk_drewN ?_ _ | refine blk_drew ?_ | refine blk_alloc ?_ _)); exact BK154.out) hb)
          have n10_ := Aside0.mk (blk_below (g := gb159) (o := .cells #[.int .i64 ji19, .int .i64 ji21] 25 (0, 0)) (by (with_reducible repeat (first | refine blk_drewN ?_ _ | refine blk_drew ?_ | refine blk_alloc ?_ _)); exact BK159.out) hb)
          have n11_ := Aside0.mk (below_step (by repeat (first | (with_reducible first | exact HB.out | apply below_alloc | apply pw_below_drewN | apply below_drew1 | refine below_set ?_ GE145.out | refine below_set ?_ GE146.out | refine below_set ?_ GE149.out | refine below_set ?_ GE154.out | refine below_set ?_ GE159.out) | exact HB.out)) hb)
          clear HO130
          clear HO133
          clear HO140
          clear HO143
          clear HO152
          clear BK145
          clear BK146
          clear BK149
          clear BK154
          clear BK159
          clear HB
          have HO130 := n0_
          have HO133 := n1_
          have HO140 := n2_
          have HO143 := n3_
          have HO152 := n4_
          have HO162 := n5_
          have BK145 := n6_
          have BK146 := n7_
          have BK149 := n8_
          have BK154 := n9_
          have BK159 := n10_
          have HB := n11_
          clear n0_ n1_ n2_ n3_ n4_ n5_ n6_ n7_ n8_ n9_ n10_ n11_
          (try clear hb)
          (try clear hb2)
          (try clear hk)
          (try clear hi)
          (try clear ho0)
          obtain ⟨Ao80, co80, eo80⟩ := Kd.R_slice HO162.out
          (first | subst eo80 | (injection eo80 with f1_ f2_ f3_; have f4_ := f1_.symm; have f5_ := f3_.symm; clear f1_ f2_ f3_; subst f4_; subst f5_))
          refine hK.out _ _ ⟨(blk_cell BK145.out 0).trans rfl, (blk_cell BK145.out 1).trans rfl, (blk_cell BK145.out 2).trans rfl, (blk_cell BK145.out 3).trans rfl, (blk_cell BK145.out 4).trans rfl, (blk_cell BK145.out 5).trans rfl, (blk_cell BK145.out 6).trans rfl, (blk_cell BK154.out 0).trans rfl, (blk_cell BK154.out 1).trans rfl, (blk_cell BK154.out 2).trans rfl, (blk_cell BK154.out 3).trans rfl, (blk_cell BK154.out 4).trans rfl, (blk_cell BK154.out 5).trans rfl, (blk_cell BK149.out 0).trans rfl, (blk_cell BK149.out 1).trans rfl, (blk_cell BK146.out 0).trans rfl, (blk_cell BK146.out 1).trans rfl, (blk_cell BK146.out 2).trans rfl, (blk_cell BK146.out 3).trans rfl, (blk_cell BK146.out 4).trans rfl, (blk_cell BK146.out 5).trans rfl, (blk_cell BK159.out 0).trans rfl, (blk_cell BK159.out 1).trans rfl⟩ (fun hHeld => ?_)
          clear hK K
          refine norm_ (a' := ?_) ?_ ?_
          rotate_left
          · show Act.put _ (some 78) _ = _
            simp only [Act.put, List.setIfInBounds_toArray, List.set_cons_zero, List.set_cons_succ, i64_w, i32_w]
            rfl
          refine one_ (i := 8) (N := some 79) #[true, true, true, true, true, true, true, true, true, false, false, false, false, false, false, false, false, false, false, false, false, false, false, false, false, false, false] rfl rfl (one_of HT_.out (by kernel_rfl)) (by decide) (fun K hK => ?_)
          refine goes_ Try.func16 (by kernel_rfl) rfl #[.agg #[.string t124, .int .i64 t125, .int .i64 t126, .int .i64 t127, .slice Ao30 t128.length co30, .slice Ao31 t131.length co31, .bool t134], .agg #[.string t135, .int .i64 (wrap64 (t136 + t155)), .int .i64 (wrap64 (t137 + t156)), .slice Ao33 t138.length co33, .slice Ao34 t141.length co34, .bool t144], .agg #[.int .i64 t147, .int .i64 t148], .slice Ao80 t160.length co80] (by rfl) rfl rfl (by (try simp only [List.map_toArray, List.map_cons, List.map_nil]); first | done | rfl | (simp only [List.length_drop, List.length_take]; rfl)) ?_
          with_reducible refine (fit_Why.calls k t124 t125 t126 t127 _ _ t128 _ _ t131 t134 t135 (wrap64 (t136 + t155)) (wrap64 (t137 + t156)) _ _ t138 _ _ t141 t144 t147 t148 _ _ t160 t163 _ ?side1 ?side2 ?side3 ?side4 ?side5 ?side6 ?side7 ?side8 ?side9 ?side10 A62.out).mono ?_
          (case side1 => repeat (first | exact (Kd.R_reads' HO130.out).2.2 | (with_reducible refine Kd.C_alloc ?_ _) | (with_reducible refine Kd.C_drewN ?_ _) | (with_reducible refine Kd.C_drew ?_)))
          (case side2 => exact (Kd.R_reads' HO130.out).2.1)
          (case side3 => repeat (first | exact (Kd.R_reads' HO133.out).2.2 | (with_reducible refine Kd.C_alloc ?_ _) | (with_reducible refine Kd.C_drewN ?_ _) | (with_reducible refine Kd.C_drew ?_)))
          (case side4 => exact (Kd.R_reads' HO133.out).2.1)
          (case side5 => repeat (first | exact (Kd.R_reads' HO140.out).2.2 | (with_reducible refine Kd.C_alloc ?_ _) | (with_reducible refine Kd.C_drewN ?_ _) | (with_reducible refine Kd.C_drew ?_)))
          (case side6 => exact (Kd.R_reads' HO140.out).2.1)
          (case side7 => repeat (first | exact (Kd.R_reads' HO143.out).2.2 | (with_reducible refine Kd.C_alloc ?_ _) | (with_reducible refine Kd.C_drewN ?_ _) | (with_reducible refine Kd.C_drew ?_)))
          (case side8 => exact (Kd.R_reads' HO143.out).2.1)
          (case side9 => repeat (first | exact (Kd.R_reads' HO162.out).2.2 | (with_reducible refine Kd.C_alloc ?_ _) | (with_reducible refine Kd.C_drewN ?_ _) | (with_reducible refine Kd.C_drew ?_)))
          (case side10 => exact (Kd.R_reads' HO162.out).2.1)
          rintro e w81 ⟨rfl, hb⟩
          refine ⟨_, rfl, ?_⟩
          have n0_ := Aside0.mk (Kd.R_below (by (with_reducible repeat (first | apply Kd.R_alloc | apply Kd.R_drewN | apply Kd.R_drew)); exact HO130.out) hb)
          have n1_ := Aside0.mk (Kd.R_below (by (with_reducible repeat (first | apply Kd.R_alloc | apply Kd.R_drewN | apply Kd.R_drew)); exact HO133.out) hb)
          have n2_ := Aside0.mk (Kd.R_below (by (with_reducible repeat (first | apply Kd.R_alloc | apply Kd.R_drewN | apply Kd.R_drew)); exact HO140.out) hb)
          have n3_ := Aside0.mk (Kd.R_below (by (with_reducible repeat (first | apply Kd.R_alloc | apply Kd.R_drewN | apply Kd.R_drew)); exact HO143.out) hb)
          have n4_ := Aside0.mk (Kd.R_below (by (with_reducible repeat (first | apply Kd.R_alloc | apply Kd.R_drewN | apply Kd.R_drew)); exact HO152.out) hb)
          have n5_ := Aside0.mk (Kd.R_below (by (with_reducible repeat (first | apply Kd.R_alloc | apply Kd.R_drewN | apply Kd.R_drew)); exact HO162.out) hb)
          have n6_ := Aside0.mk (blk_below (g := gb145) (o := .cells #[.string t124, .int .i64 t125, .int .i64 t126, .int .i64 t127, .slice Ao30 t128.length co30, .slice Ao31 t131.length co31, .bool t134] 28 (0, 0)) (by (with_reducible repeat (first | refine blk_drewN ?_ _ | refine blk_drew ?_ | refine blk_alloc ?_ _)); exact BK145.out) hb)
          have n7_ := Aside0.mk (blk_below (g := gb146) (o := .cells #[.string t135, .int .i64 t136, .int .i64 t137, .slice Ao33 t138.length co33, .slice Ao34 t141.length co34, .bool t144] 31 (0, 0)) (by (with_reducible repeat (first | refine blk_drewN ?_ _ | refine blk_drew ?_ | refine blk_alloc ?_ _)); exact BK146.out) hb)
          have n8_ := Aside0.mk (blk_below (g := gb149) (o := .cells #[.int .i64 t147, .int .i64 t148] 25 (0, 0)) (by (with_reducible repeat (first | refine blk_drewN ?_ _ | refine blk_drew ?_ | refine blk_alloc ?_ _)); exact BK149.out) hb)
          have n9_ := Aside0.mk (blk_below (g := gb154) (o := .cells #[.string t135, .int .i64 (wrap64 (t136 + t155)), .int .i64 (wrap64 (t137 + t156)), .slice Ao33 t138.length co33, .slice Ao34 t141.length co34, .bool t144] 31 (0, 0)) (by (with_reducible repeat (first | refine blk_drewN ?_ _ | refine blk_drew ?_ | refine blk_alloc ?_ _)); exact BK154.out) hb)
          have n10_ := Aside0.mk (blk_below (g := gb159) (o := .cells #[.int .i64 ji19, .int .i64 ji21] 25 (0, 0)) (by (with_reducible repeat (first | refine blk_drewN ?_ _ | refine blk_drew ?_ | refine blk_alloc ?_ _)); exact BK159.out) hb)
          have n11_ := Aside0.mk (below_step (by repeat (first | (with_reducible first | exact HB.out | apply below_alloc | apply pw_below_drewN | apply below_drew1 | refine below_set ?_ GE145.out | refine below_set ?_ GE146.out | refine below_set ?_ GE149.out | refine below_set ?_ GE154.out | refine below_set ?_ GE159.out) | exact HB.out)) hb)
          clear HO130
          clear HO133
          clear HO140
          clear HO143
          clear HO152
          clear HO162
          clear BK145
          clear BK146
          clear BK149
          clear BK154
          clear BK159
          clear HB
          have HO130 := n0_
          have HO133 := n1_
          have HO140 := n2_
          have HO143 := n3_
          have HO152 := n4_
          have HO162 := n5_
          have BK145 := n6_
          have BK146 := n7_
          have BK149 := n8_
          have BK154 := n9_
          have BK159 := n10_
          have HB := n11_
          clear n0_ n1_ n2_ n3_ n4_ n5_ n6_ n7_ n8_ n9_ n10_ n11_
          (try clear hb)
          (try clear hb2)
          (try clear hk)
          (try clear hi)
          refine hK.out _ _ ⟨(blk_cell BK145.out 0).trans rfl, (blk_cell BK145.out 1).trans rfl, (blk_cell BK145.out 2).trans rfl, (blk_cell BK145.out 3).trans rfl, (blk_cell BK145.out 4).trans rfl, (blk_cell BK145.out 5).trans rfl, (blk_cell BK145.out 6).trans rfl, (blk_cell BK154.out 0).trans rfl, (blk_cell BK154.out 1).trans rfl, (blk_cell BK154.out 2).trans rfl, (blk_cell BK154.out 3).trans rfl, (blk_cell BK154.out 4).trans rfl, (blk_cell BK154.out 5).trans rfl, (blk_cell BK149.out 0).trans rfl, (blk_cell BK149.out 1).trans rfl, (blk_cell BK146.out 0).trans rfl, (blk_cell BK146.out 1).trans rfl, (blk_cell BK146.out 2).trans rfl, (blk_cell BK146.out 3).trans rfl, (blk_cell BK146.out 4).trans rfl, (blk_cell BK146.out 5).trans rfl, (blk_cell BK159.out 0).trans rfl, (blk_cell BK159.out 1).trans rfl⟩ (fun hHeld => ?_)
          clear hK K
          refine norm_ (a' := ?_) ?_ ?_
          rotate_left
          · show Act.put _ (some 79) _ = _
            simp only [Act.put, List.setIfInBounds_toArray, List.set_cons_zero, List.set_cons_succ, i64_w, i32_w]
            rfl
          refine pure_ (i := 9) (N := some 80) (v := ?_) (a' := ?_) #[true, true, true, true, true, true, true, true, true, true, false, false, false, false, false, false, false, false, false, false, false, false, false, false, false, false, false] rfl rfl (any_of HT_.out (by kernel_rfl)) (fun _ _ _ h => h) (Or.inl ⟨by rfl, ?_⟩) ?_ ?_
          rotate_left
          · intro w'
            go_simp
            with_reducible rfl
          rotate_left
          · simp only [Act.put, List.setIfInBounds_toArray, List.set_cons_zero, List.set_cons_succ, i64_w, i32_w]
            rfl
          refine pure_ (i := 10) (N := some 81) (v := ?_) (a' := ?_) #[true, true, true, true, true, true, true, true, true, true, true, false, false, false, false, false, false, false, false, false, false, false, false, false, false, false, false] rfl rfl (any_of HT_.out (by kernel_rfl)) (fun _ _ _ h => h) (Or.inl ⟨by rfl, ?_⟩) ?_ ?_
          rotate_left
          · intro w'
            go_simp
            with_reducible rfl
          rotate_left
          · simp only [Act.put, List.setIfInBounds_toArray, List.set_cons_zero, List.set_cons_succ, i64_w, i32_w]
            rfl
          refine pure_ (i := 14) (N := some 85) (v := ?_) (a' := ?_) #[true, true, true, true, true, true, true, true, true, true, true, false, false, false, true, false, false, false, false, false, false, false, false, false, false, false, false] rfl rfl (any_of HT_.out (by kernel_rfl)) (fun _ _ _ h => h) (Or.inl ⟨by rfl, ?_⟩) ?_ ?_
          rotate_left
          · intro w'
            go_simp
            with_reducible rfl
          rotate_left
          · simp only [Act.put, List.setIfInBounds_toArray, List.set_cons_zero, List.set_cons_succ, i64_w, i32_w]
            rfl
          refine take_ (i := 11) (N := some 82) (v := ?_) (a' := ?_) #[true, true, true, true, true, true, true, true, true, true, true, true, false, false, true, false, false, false, false, false, false, false, false, false, false, false, false] rfl rfl (take_ofW HT_.out HW_.out (by kernel_rfl)) (fun _ _ _ h => h) (Or.inl ⟨by rfl, ?_⟩) hHeld ?_ ?_
          rotate_left
          · rintro w' ⟨s0, s1, s2, s3, s4, s5, s6, s7, s8, s9, s10, s11, s12, s13, s14, s15, s16, s17, s18, s19, s20, s21, s22⟩
            go_simp
            with_reducible rfl
          rotate_left
          · simp only [Act.put, List.setIfInBounds_toArray, List.set_cons_zero, List.set_cons_succ, i64_w, i32_w]
            rfl
          refine take_ (i := 12) (N := some 83) (v := ?_) (a' := ?_) #[true, true, true, true, true, true, true, true, true, true, true, true, true, false, true, false, false, false, false, false, false, false, false, false, false, false, false] rfl rfl (take_ofW HT_.out HW_.out (by kernel_rfl)) (fun _ _ _ h => h) (Or.inl ⟨by rfl, ?_⟩) hHeld ?_ ?_
          rotate_left
          · rintro w' ⟨s0, s1, s2, s3, s4, s5, s6, s7, s8, s9, s10, s11, s12, s13, s14, s15, s16, s17, s18, s19, s20, s21, s22⟩
            go_simp
            with_reducible rfl
          rotate_left
          · simp only [Act.put, List.setIfInBounds_toArray, List.set_cons_zero, List.set_cons_succ, i64_w, i32_w]
            rfl
          refine take_ (i := 13) (N := some 84) (v := ?_) (a' := ?_) #[true, true, true, true, true, true, true, true, true, true, true, true, true, true, true, false, false, false, false, false, false, false, false, false, false, false, false] rfl rfl (take_ofW HT_.out HW_.out (by kernel_rfl)) (fun _ _ _ h => h) (Or.inl ⟨by rfl, ?_⟩) hHeld ?_ ?_
          rotate_left
          · rintro w' ⟨s0, s1, s2, s3, s4, s5, s6, s7, s8, s9, s10, s11, s12, s13, s14, s15, s16, s17, s18, s19, s20, s21, s22⟩
            go_simp
            with_reducible rfl
          rotate_left
          · simp only [Act.put, List.setIfInBounds_toArray, List.set_cons_zero, List.set_cons_succ, i64_w, i32_w]
            rfl
          refine one_ (i := 15) (N := some 86) #[true, true, true, true, true, true, true, true, true, true, true, true, true, true, true, true, false, false, false, false, false, false, false, false, false, false, false] rfl rfl (one_of HT_.out (by kernel_rfl)) (by decide) (fun K hK => ?_)
          refine goes_ Try.func17 (by kernel_rfl) rfl #[.slice A6 l6.length c6] (by rfl) rfl rfl (by (try simp only [List.map_toArray, List.map_cons, List.map_nil]); first | done | rfl | (simp only [List.length_drop, List.length_take]; rfl)) ?_
          with_reducible refine (joinerylaw5_beside.calls k _ _ l6 t164 _ ?side1 ?side2 A64.out).mono ?_
          (case side1 => repeat (first | exact (Kd.C_below HR6.out HB.out) | (with_reducible refine Kd.C_alloc ?_ _) | (with_reducible refine Kd.C_drewN ?_ _) | (with_reducible refine Kd.C_drew ?_)))
          (case side2 => exact HC6.out)
          rintro e w82 ⟨v165, rfl, ho0, hb⟩
          refine ⟨_, rfl, ?_⟩
          have n0_ := Aside0.mk (Kd.R_below (by (with_reducible repeat (first | apply Kd.R_alloc | apply Kd.R_drewN | apply Kd.R_drew)); exact HO130.out) hb)
          have n1_ := Aside0.mk (Kd.R_below (by (with_reducible repeat (first | apply Kd.R_alloc | apply Kd.R_drewN | apply Kd.R_drew)); exact HO133.out) hb)
          have n2_ := Aside0.mk (Kd.R_below (by (with_reducible repeat (first | apply Kd.R_alloc | apply Kd.R_drewN | apply Kd.R_drew)); exact HO140.out) hb)
          have n3_ := Aside0.mk (Kd.R_below (by (with_reducible repeat (first | apply Kd.R_alloc | apply Kd.R_drewN | apply Kd.R_drew)); exact HO143.out) hb)
          have n4_ := Aside0.mk (Kd.R_elder' (by (with_reducible repeat (first | apply Kd.R_alloc | apply Kd.R_drewN | apply Kd.R_drew)); exact HO152.out) (Kd.R_base ho0) hb)
          have n5_ := Aside0.mk (Kd.R_elder' (by (with_reducible repeat (first | apply Kd.R_alloc | apply Kd.R_drewN | apply Kd.R_drew)); exact HO162.out) (Kd.R_base ho0) hb)
          have n6_ := Aside0.mk (Kd.R_lower (Kd.R_new' (Kd.R_new' ho0 (Kd.R_lt (by (with_reducible repeat (first | apply Kd.R_alloc | apply Kd.R_drewN | apply Kd.R_drew)); exact HO152.out))) (Kd.R_lt (by (with_reducible repeat (first | apply Kd.R_alloc | apply Kd.R_drewN | apply Kd.R_drew)); exact HO162.out))) (below_size (by repeat (first | (with_reducible first | exact HB.out | apply below_alloc | apply pw_below_drewN | apply below_drew1 | refine below_set ?_ GE145.out | refine below_set ?_ GE146.out | refine below_set ?_ GE149.out | refine below_set ?_ GE154.out | refine below_set ?_ GE159.out) | exact HB.out))))
          have n7_ := Aside0.mk (blk_below (g := gb145) (o := .cells #[.string t124, .int .i64 t125, .int .i64 t126, .int .i64 t127, .slice Ao30 t128.length co30, .slice Ao31 t131.length co31, .bool t134] 28 (0, 0)) (by (with_reducible repeat (first | refine blk_drewN ?_ _ | refine blk_drew ?_ | refine blk_alloc ?_ _)); exact BK145.out) hb)
          have n8_ := Aside0.mk (blk_below (g := gb146) (o := .cells #[.string t135, .int .i64 t136, .int .i64 t137, .slice Ao33 t138.length co33, .slice Ao34 t141.length co34, .bool t144] 31 (0, 0)) (by (with_reducible repeat (first | refine blk_drewN ?_ _ | refine blk_drew ?_ | refine blk_alloc ?_ _)); exact BK146.out) hb)
          have n9_ := Aside0.mk (blk_below (g := gb149) (o := .cells #[.int .i64 t147, .int .i64 t148] 25 (0, 0)) (by (with_reducible repeat (first | refine blk_drewN ?_ _ | refine blk_drew ?_ | refine blk_alloc ?_ _)); exact BK149.out) hb)
          have n10_ := Aside0.mk (blk_below (g := gb154) (o := .cells #[.string t135, .int .i64 (wrap64 (t136 + t155)), .int .i64 (wrap64 (t137 + t156)), .slice Ao33 t138.length co33, .slice Ao34 t141.length co34, .bool t144] 31 (0, 0)) (by (with_reducible repeat (first | refine blk_drewN ?_ _ | refine blk_drew ?_ | refine blk_alloc ?_ _)); exact BK154.out) hb)
          have n11_ := Aside0.mk (blk_below (g := gb159) (o := .cells #[.int .i64 ji19, .int .i64 ji21] 25 (0, 0)) (by (with_reducible repeat (first | refine blk_drewN ?_ _ | refine blk_drew ?_ | refine blk_alloc ?_ _)); exact BK159.out) hb)
          have n12_ := Aside0.mk (below_step (by repeat (first | (with_reducible first | exact HB.out | apply below_alloc | apply pw_below_drewN | apply below_drew1 | refine below_set ?_ GE145.out | refine below_set ?_ GE146.out | refine below_set ?_ GE149.out | refine below_set ?_ GE154.out | refine below_set ?_ GE159.out) | exact HB.out)) hb)
          clear HO130
          clear HO133
          clear HO140
          clear HO143
          clear HO152
          clear HO162
          clear BK145
          clear BK146
          clear BK149
          clear BK154
          clear BK159
          clear HB
          have HO130 := n0_
          have HO133 := n1_
          have HO140 := n2_
          have HO143 := n3_
          have HO152 := n4_
          have HO162 := n5_
          have HO166 := n6_
          have BK145 := n7_
          have BK146 := n8_
          have BK149 := n9_
          have BK154 := n10_
          have BK159 := n11_
          have HB := n12_
          clear n0_ n1_ n2_ n3_ n4_ n5_ n6_ n7_ n8_ n9_ n10_ n11_ n12_
          (try clear hb)
          (try clear hb2)
          (try clear hk)
          (try clear hi)
          (try clear ho0)
          obtain ⟨Ao83, co83, eo83⟩ := Kd.R_slice HO166.out
          (first | subst eo83 | (injection eo83 with f1_ f2_ f3_; have f4_ := f1_.symm; have f5_ := f3_.symm; clear f1_ f2_ f3_; subst f4_; subst f5_))
          refine hK.out _ _ ⟨(blk_cell BK145.out 0).trans rfl, (blk_cell BK145.out 1).trans rfl, (blk_cell BK145.out 2).trans rfl, (blk_cell BK145.out 3).trans rfl, (blk_cell BK145.out 4).trans rfl, (blk_cell BK145.out 5).trans rfl, (blk_cell BK145.out 6).trans rfl, (blk_cell BK154.out 0).trans rfl, (blk_cell BK154.out 1).trans rfl, (blk_cell BK154.out 2).trans rfl, (blk_cell BK154.out 3).trans rfl, (blk_cell BK154.out 4).trans rfl, (blk_cell BK154.out 5).trans rfl, (blk_cell BK149.out 0).trans rfl, (blk_cell BK149.out 1).trans rfl, (blk_cell BK146.out 0).trans rfl, (blk_cell BK146.out 1).trans rfl, (blk_cell BK146.out 2).trans rfl, (blk_cell BK146.out 3).trans rfl, (blk_cell BK146.out 4).trans rfl, (blk_cell BK146.out 5).trans rfl, (blk_cell BK159.out 0).trans rfl, (blk_cell BK159.out 1).trans rfl⟩ (fun hHeld => ?_)
          clear hK K
          refine norm_ (a' := ?_) ?_ ?_
          rotate_left
          · show Act.put _ (some 86) _ = _
            simp only [Act.put, List.setIfInBounds_toArray, List.set_cons_zero, List.set_cons_succ, i64_w, i32_w]
            rfl
          refine one_ (i := 16) (N := some 87) #[true, true, true, true, true, true, true, true, true, true, true, true, true, true, true, true, true, false, false, false, false, false, false, false, false, false, false] rfl rfl (one_of HT_.out (by kernel_rfl)) (by decide) (fun K hK => ?_)
          refine goes_ Try.func16 (by kernel_rfl) rfl #[.agg #[.string t124, .int .i64 t125, .int .i64 t126, .int .i64 t127, .slice Ao30 t128.length co30, .slice Ao31 t131.length co31, .bool t134], .agg #[.string t135, .int .i64 t136, .int .i64 t137, .slice Ao33 t138.length co33, .slice Ao34 t141.length co34, .bool t144], .agg #[.int .i64 ji19, .int .i64 ji21], .slice Ao83 t164.length co83] (by rfl) rfl rfl (by (try simp only [List.map_toArray, List.map_cons, List.map_nil]); first | done | (simp only [hji19, hji21]; rfl) | rfl | (simp only [List.length_drop, List.length_take]; rfl)) ?_
          with_reducible refine (fit_Why.calls k t124 t125 t126 t127 _ _ t128 _ _ t131 t134 t135 t136 t137 _ _ t138 _ _ t141 t144 ji19 ji21 _ _ t164 t167 _ ?side1 ?side2 ?side3 ?side4 ?side5 ?side6 ?side7 ?side8 ?side9 ?side10 A65.out).mono ?_
          (case side1 => repeat (first | exact (Kd.R_reads' HO130.out).2.2 | (with_reducible refine Kd.C_alloc ?_ _) | (with_reducible refine Kd.C_drewN ?_ _) | (with_reducible refine Kd.C_drew ?_)))
          (case side2 => exact (Kd.R_reads' HO130.out).2.1)
          (case side3 => repeat (first | exact (Kd.R_reads' HO133.out).2.2 | (with_reducible refine Kd.C_alloc ?_ _) | (with_reducible refine Kd.C_drewN ?_ _) | (with_reducible refine Kd.C_drew ?_)))
          (case side4 => exact (Kd.R_reads' HO133.out).2.1)
          (case side5 => repeat (first | exact (Kd.R_reads' HO140.out).2.2 | (with_reducible refine Kd.C_alloc ?_ _) | (with_reducible refine Kd.C_drewN ?_ _) | (with_reducible refine Kd.C_drew ?_)))
          (case side6 => exact (Kd.R_reads' HO140.out).2.1)
          (case side7 => repeat (first | exact (Kd.R_reads' HO143.out).2.2 | (with_reducible refine Kd.C_alloc ?_ _) | (with_reducible refine Kd.C_drewN ?_ _) | (with_reducible refine Kd.C_drew ?_)))
          (case side8 => exact (Kd.R_reads' HO143.out).2.1)
          (case side9 => repeat (first | exact (Kd.R_reads' HO166.out).2.2 | (with_reducible refine Kd.C_alloc ?_ _) | (with_reducible refine Kd.C_drewN ?_ _) | (with_reducible refine Kd.C_drew ?_)))
          (case side10 => exact (Kd.R_reads' HO166.out).2.1)
          rintro e w84 ⟨rfl, hb⟩
          refine ⟨_, rfl, ?_⟩
          have n0_ := Aside0.mk (Kd.R_below (by (with_reducible repeat (first | apply Kd.R_alloc | apply Kd.R_drewN | apply Kd.R_drew)); exact HO130.out) hb)
          have n1_ := Aside0.mk (Kd.R_below (by (with_reducible repeat (first | apply Kd.R_alloc | apply Kd.R_drewN | apply Kd.R_drew)); exact HO133.out) hb)
          have n2_ := Aside0.mk (Kd.R_below (by (with_reducible repeat (first | apply Kd.R_alloc | apply Kd.R_drewN | apply Kd.R_drew)); exact HO140.out) hb)
          have n3_ := Aside0.mk (Kd.R_below (by (with_reducible repeat (first | apply Kd.R_alloc | apply Kd.R_drewN | apply Kd.R_drew)); exact HO143.out) hb)
          have n4_ := Aside0.mk (Kd.R_below (by (with_reducible repeat (first | apply Kd.R_alloc | apply Kd.R_drewN | apply Kd.R_drew)); exact HO152.out) hb)
          have n5_ := Aside0.mk (Kd.R_below (by (with_reducible repeat (first | apply Kd.R_alloc | apply Kd.R_drewN | apply Kd.R_drew)); exact HO162.out) hb)
          have n6_ := Aside0.mk (Kd.R_below (by (with_reducible repeat (first | apply Kd.R_alloc | apply Kd.R_drewN | apply Kd.R_drew)); exact HO166.out) hb)
          have n7_ := Aside0.mk (blk_below (g := gb145) (o := .cells #[.string t124, .int .i64 t125, .int .i64 t126, .int .i64 t127, .slice Ao30 t128.length co30, .slice Ao31 t131.length co31, .bool t134] 28 (0, 0)) (by (with_reducible repeat (first | refine blk_drewN ?_ _ | refine blk_drew ?_ | refine blk_alloc ?_ _)); exact BK145.out) hb)
          have n8_ := Aside0.mk (blk_below (g := gb146) (o := .cells #[.string t135, .int .i64 t136, .int .i64 t137, .slice Ao33 t138.length co33, .slice Ao34 t141.length co34, .bool t144] 31 (0, 0)) (by (with_reducible repeat (first | refine blk_drewN ?_ _ | refine blk_drew ?_ | refine blk_alloc ?_ _)); exact BK146.out) hb)
          have n9_ := Aside0.mk (blk_below (g := gb149) (o := .cells #[.int .i64 t147, .int .i64 t148] 25 (0, 0)) (by (with_reducible repeat (first | refine blk_drewN ?_ _ | refine blk_drew ?_ | refine blk_alloc ?_ _)); exact BK149.out) hb)
          have n10_ := Aside0.mk (blk_below (g := gb154) (o := .cells #[.string t135, .int .i64 (wrap64 (t136 + t155)), .int .i64 (wrap64 (t137 + t156)), .slice Ao33 t138.length co33, .slice Ao34 t141.length co34, .bool t144] 31 (0, 0)) (by (with_reducible repeat (first | refine blk_drewN ?_ _ | refine blk_drew ?_ | refine blk_alloc ?_ _)); exact BK154.out) hb)
          have n11_ := Aside0.mk (blk_below (g := gb159) (o := .cells #[.int .i64 ji19, .int .i64 ji21] 25 (0, 0)) (by (with_reducible repeat (first | refine blk_drewN ?_ _ | refine blk_drew ?_ | refine blk_alloc ?_ _)); exact BK159.out) hb)
          have n12_ := Aside0.mk (below_step (by repeat (first | (with_reducible first | exact HB.out | apply below_alloc | apply pw_below_drewN | apply below_drew1 | refine below_set ?_ GE145.out | refine below_set ?_ GE146.out | refine below_set ?_ GE149.out | refine below_set ?_ GE154.out | refine below_set ?_ GE159.out) | exact HB.out)) hb)
          clear HO130
          clear HO133
          clear HO140
          clear HO143
          clear HO152
          clear HO162
          clear HO166
          clear BK145
          clear BK146
          clear BK149
          clear BK154
          clear BK159
          clear HB
          have HO130 := n0_
          have HO133 := n1_
          have HO140 := n2_
          have HO143 := n3_
          have HO152 := n4_
          have HO162 := n5_
          have HO166 := n6_
          have BK145 := n7_
          have BK146 := n8_
          have BK149 := n9_
          have BK154 := n10_
          have BK159 := n11_
          have HB := n12_
          clear n0_ n1_ n2_ n3_ n4_ n5_ n6_ n7_ n8_ n9_ n10_ n11_ n12_
          (try clear hb)
          (try clear hb2)
          (try clear hk)
          (try clear hi)
          refine hK.out _ _ ⟨(blk_cell BK145.out 0).trans rfl, (blk_cell BK145.out 1).trans rfl, (blk_cell BK145.out 2).trans rfl, (blk_cell BK145.out 3).trans rfl, (blk_cell BK145.out 4).trans rfl, (blk_cell BK145.out 5).trans rfl, (blk_cell BK145.out 6).trans rfl, (blk_cell BK154.out 0).trans rfl, (blk_cell BK154.out 1).trans rfl, (blk_cell BK154.out 2).trans rfl, (blk_cell BK154.out 3).trans rfl, (blk_cell BK154.out 4).trans rfl, (blk_cell BK154.out 5).trans rfl, (blk_cell BK149.out 0).trans rfl, (blk_cell BK149.out 1).trans rfl, (blk_cell BK146.out 0).trans rfl, (blk_cell BK146.out 1).trans rfl, (blk_cell BK146.out 2).trans rfl, (blk_cell BK146.out 3).trans rfl, (blk_cell BK146.out 4).trans rfl, (blk_cell BK146.out 5).trans rfl, (blk_cell BK159.out 0).trans rfl, (blk_cell BK159.out 1).trans rfl⟩ (fun hHeld => ?_)
          clear hK K
          refine norm_ (a' := ?_) ?_ ?_
          rotate_left
          · show Act.put _ (some 87) _ = _
            simp only [Act.put, List.setIfInBounds_toArray, List.set_cons_zero, List.set_cons_succ, i64_w, i32_w]
            rfl
          refine pure_ (i := 17) (N := some 88) (v := ?_) (a' := ?_) #[true, true, true, true, true, true, true, true, true, true, true, true, true, true, true, true, true, true, false, false, false, false, false, false, false, false, false] rfl rfl (any_of HT_.out (by kernel_rfl)) (fun _ _ _ h => h) (Or.inl ⟨by rfl, ?_⟩) ?_ ?_
          rotate_left
          · intro w'
            go_simp
            with_reducible rfl
          rotate_left
          · simp only [Act.put, List.setIfInBounds_toArray, List.set_cons_zero, List.set_cons_succ, i64_w, i32_w]
            rfl
          refine pure_ (i := 18) (N := some 89) (v := ?_) (a' := ?_) #[true, true, true, true, true, true, true, true, true, true, true, true, true, true, true, true, true, true, true, false, false, false, false, false, false, false, false] rfl rfl (any_of HT_.out (by kernel_rfl)) (fun _ _ _ h => h) (Or.inl ⟨by rfl, ?_⟩) ?_ ?_
          rotate_left
          · intro w'
            go_simp
            with_reducible rfl
          rotate_left
          · simp only [Act.put, List.setIfInBounds_toArray, List.set_cons_zero, List.set_cons_succ, i64_w, i32_w]
            rfl
          refine pure_ (i := 19) (N := some 90) (v := ?_) (a' := ?_) #[true, true, true, true, true, true, true, true, true, true, true, true, true, true, true, true, true, true, true, true, false, false, false, false, false, false, false] rfl rfl (any_of HT_.out (by kernel_rfl)) (fun _ _ _ h => h) (Or.inl ⟨by rfl, ?_⟩) ?_ ?_
          rotate_left
          · intro w'
            go_simp
            with_reducible rfl
          rotate_left
          · simp only [Act.put, List.setIfInBounds_toArray, List.set_cons_zero, List.set_cons_succ, i64_w, i32_w]
            rfl
          refine pure_ (i := 20) (N := some 91) (v := undef) (a' := ?_) #[true, true, true, true, true, true, true, true, true, true, true, true, true, true, true, true, true, true, true, true, true, false, false, false, false, false, false] rfl rfl (any_of HT_.out (by kernel_rfl)) (fun _ _ _ h => h) (Or.inr ⟨by rfl, rfl⟩) ?_ ?_
          rotate_left
          · simp only [Act.put, List.setIfInBounds_toArray, List.set_cons_zero, List.set_cons_succ, i64_w, i32_w]
            rfl
          refine pure_ (i := 21) (N := some 92) (v := undef) (a' := ?_) #[true, true, true, true, true, true, true, true, true, true, true, true, true, true, true, true, true, true, true, true, true, true, false, false, false, false, false] rfl rfl (any_of HT_.out (by kernel_rfl)) (fun _ _ _ h => h) (Or.inr ⟨by rfl, rfl⟩) ?_ ?_
          rotate_left
          · simp only [Act.put, List.setIfInBounds_toArray, List.set_cons_zero, List.set_cons_succ, i64_w, i32_w]
            rfl
          refine pure_ (i := 22) (N := some 93) (v := undef) (a' := ?_) #[true, true, true, true, true, true, true, true, true, true, true, true, true, true, true, true, true, true, true, true, true, true, true, false, false, false, false] rfl rfl (any_of HT_.out (by kernel_rfl)) (fun _ _ _ h => h) (Or.inr ⟨by rfl, rfl⟩) ?_ ?_
          rotate_left
          · simp only [Act.put, List.setIfInBounds_toArray, List.set_cons_zero, List.set_cons_succ, i64_w, i32_w]
            rfl
          refine pure_ (i := 23) (N := some 94) (v := undef) (a' := ?_) #[true, true, true, true, true, true, true, true, true, true, true, true, true, true, true, true, true, true, true, true, true, true, true, true, false, false, false] rfl rfl (any_of HT_.out (by kernel_rfl)) (fun _ _ _ h => h) (Or.inr ⟨by rfl, rfl⟩) ?_ ?_
          rotate_left
          · simp only [Act.put, List.setIfInBounds_toArray, List.set_cons_zero, List.set_cons_succ, i64_w, i32_w]
            rfl
          refine pure_ (i := 24) (N := some 95) (v := undef) (a' := ?_) #[true, true, true, true, true, true, true, true, true, true, true, true, true, true, true, true, true, true, true, true, true, true, true, true, true, false, false] rfl rfl (any_of HT_.out (by kernel_rfl)) (fun _ _ _ h => h) (Or.inr ⟨by rfl, rfl⟩) ?_ ?_
          rotate_left
          · simp only [Act.put, List.setIfInBounds_toArray, List.set_cons_zero, List.set_cons_succ, i64_w, i32_w]
            rfl
          refine pure_ (i := 25) (N := some 96) (v := ?_) (a' := ?_) #[true, true, true, true, true, true, true, true, true, true, true, true, true, true, true, true, true, true, true, true, true, true, true, true, true, true, false] rfl rfl (any_of HT_.out (by kernel_rfl)) (fun _ _ _ h => h) (Or.inl ⟨by rfl, ?_⟩) ?_ ?_
          rotate_left
          · intro w'
            go_simp
            with_reducible rfl
          rotate_left
          · simp only [Act.put, List.setIfInBounds_toArray, List.set_cons_zero, List.set_cons_succ, i64_w, i32_w]
            rfl
          refine pure_ (i := 26) (N := some 97) (v := ?_) (a' := ?_) #[true, true, true, true, true, true, true, true, true, true, true, true, true, true, true, true, true, true, true, true, true, true, true, true, true, true, true] rfl rfl (any_of HT_.out (by kernel_rfl)) (fun _ _ _ h => h) (Or.inl ⟨by rfl, ?_⟩) ?_ ?_
          rotate_left
          · intro w'
            go_simp
            with_reducible rfl
          rotate_left
          · simp only [Act.put, List.setIfInBounds_toArray, List.set_cons_zero, List.set_cons_succ, i64_w, i32_w]
            rfl
          refine done_ (done_of HT_.out (by kernel_rfl)) ?_
          try go_wp2
          go_meet
          case rel => exact ⟨_, (true), (by first | rfl | (simp; done) | (simp [*]; done)), H', ⟨by first | omega | exact Nat.le_refl _⟩, ⟨by (with_reducible repeat (first | apply Kd.R_alloc | apply Kd.R_drewN | apply Kd.R_drew)); exact Kd.R_mono HO130.out (fun _ hk => ⟨hk.1, ⟨hk.2.1, ⟨hk.2.2, ⟨hk.2.1, hk.2.2⟩⟩⟩⟩)⟩, ⟨by (with_reducible repeat (first | apply Kd.R_alloc | apply Kd.R_drewN | apply Kd.R_drew)); exact Kd.R_mono HO133.out (fun _ hk => ⟨hk.1, ⟨hk.2.1, ⟨hk.2.2, ⟨hk.2.1, hk.2.2⟩⟩⟩⟩)⟩, ⟨by (with_reducible repeat (first | apply Kd.R_alloc | apply Kd.R_drewN | apply Kd.R_drew)); exact Kd.R_mono HO140.out (fun _ hk => ⟨hk.1, ⟨hk.2.1, ⟨hk.2.2, hk.2.2⟩⟩⟩)⟩, ⟨by (with_reducible repeat (first | apply Kd.R_alloc | apply Kd.R_drewN | apply Kd.R_drew)); exact Kd.R_mono HO143.out (fun _ hk => ⟨hk.1, ⟨hk.2.1, ⟨hk.2.2, hk.2.2⟩⟩⟩)⟩, ⟨by (with_reducible repeat (first | apply Kd.R_alloc | apply Kd.R_drewN | apply Kd.R_drew)); exact Kd.R_mono HO140.out (fun _ hk => ⟨hk.1, ⟨hk.2.1, ⟨hk.2.2, hk.2.2⟩⟩⟩)⟩, ⟨by (with_reducible repeat (first | apply Kd.R_alloc | apply Kd.R_drewN | apply Kd.R_drew)); exact Kd.R_mono HO143.out (fun _ hk => ⟨hk.1, ⟨hk.2.1, ⟨hk.2.2, hk.2.2⟩⟩⟩)⟩, ⟨by (with_reducible repeat (first | refine blk_drewN ?_ _ | refine blk_drew ?_ | refine blk_alloc ?_ _)); exact BK145.out⟩, ⟨by (with_reducible repeat (first | refine blk_drewN ?_ _ | refine blk_drew ?_ | refine blk_alloc ?_ _)); exact BK146.out⟩, ⟨by (with_reducible repeat (first | refine blk_drewN ?_ _ | refine blk_drew ?_ | refine blk_alloc ?_ _)); exact BK149.out⟩, ⟨by (with_reducible repeat (first | refine blk_drewN ?_ _ | refine blk_drew ?_ | refine blk_alloc ?_ _)); exact BK154.out⟩, ⟨by (with_reducible repeat (first | refine blk_drewN ?_ _ | refine blk_drew ?_ | refine blk_alloc ?_ _)); exact BK159.out⟩, ⟨by repeat (first | (with_reducible first | exact HB.out | apply below_alloc | apply pw_below_drewN | apply below_drew1 | refine below_set ?_ GE145.out | refine below_set ?_ GE146.out | refine below_set ?_ GE149.out | refine below_set ?_ GE154.out | refine below_set ?_ GE159.out) | exact HB.out)⟩⟩
      · rw [if_neg c63] at H
        have c63b0 : (t163 == 0) = false := beq_eq_false_iff_ne.mpr c63
        have c63b1 : (t163 != 0) = true := bne_iff_ne.mpr c63
        have H' := Aside0.mk H
        clear H
        try go_wp2
        (try simp only [drewN_out])
        have n0_ : Aside0 (Kd.R Kd.string 9 ((w57.setCell ⟨gb159, 0, none⟩ (.int .i64 ji19)).setCell ⟨gb159, 1, none⟩ (.int .i64 ji21)) w.heap.size (fun k_ => some k_ ≠ (.slice Ao31 t131.length co31 : Value).ownBlock ∧ some k_ ≠ (.slice Ao33 t138.length co33 : Value).ownBlock ∧ some k_ ≠ (.slice Ao34 t141.length co34 : Value).ownBlock) (.slice Ao30 t128.length co30) t128) := ⟨by (with_reducible repeat (first | apply Kd.R_alloc | apply Kd.R_drewN | apply Kd.R_drew)); exact Kd.R_mono (Kd.R_far (p := ⟨gb159, 1, none⟩) (Kd.R_far (p := ⟨gb159, 0, none⟩) (Kd.R_types HO130.out BK159.out (by decide)) (fun _ hk => hk.2) (.int .i64 ji19)) (fun _ hk => hk.2) (.int .i64 ji21)) (fun _ hk => ⟨hk.1.1, ⟨hk.1.2.1, hk.1.2.2⟩⟩)⟩
        have n1_ : Aside0 (Kd.R Kd.string 9 ((w57.setCell ⟨gb159, 0, none⟩ (.int .i64 ji19)).setCell ⟨gb159, 1, none⟩ (.int .i64 ji21)) w.heap.size (fun k_ => some k_ ≠ (.slice Ao30 t128.length co30 : Value).ownBlock ∧ some k_ ≠ (.slice Ao33 t138.length co33 : Value).ownBlock ∧ some k_ ≠ (.slice Ao34 t141.length co34 : Value).ownBlock) (.slice Ao31 t131.length co31) t131) := ⟨by (with_reducible repeat (first | apply Kd.R_alloc | apply Kd.R_drewN | apply Kd.R_drew)); exact Kd.R_mono (Kd.R_far (p := ⟨gb159, 1, none⟩) (Kd.R_far (p := ⟨gb159, 0, none⟩) (Kd.R_types HO133.out BK159.out (by decide)) (fun _ hk => hk.2) (.int .i64 ji19)) (fun _ hk => hk.2) (.int .i64 ji21)) (fun _ hk => ⟨hk.1.1, ⟨hk.1.2.1, hk.1.2.2⟩⟩)⟩
        have n2_ : Aside0 (Kd.R Kd.string 9 ((w57.setCell ⟨gb159, 0, none⟩ (.int .i64 ji19)).setCell ⟨gb159, 1, none⟩ (.int .i64 ji21)) w.heap.size (fun k_ => some k_ ≠ (.slice Ao30 t128.length co30 : Value).ownBlock ∧ some k_ ≠ (.slice Ao31 t131.length co31 : Value).ownBlock ∧ some k_ ≠ (.slice Ao34 t141.length co34 : Value).ownBlock) (.slice Ao33 t138.length co33) t138) := ⟨by (with_reducible repeat (first | apply Kd.R_alloc | apply Kd.R_drewN | apply Kd.R_drew)); exact Kd.R_mono (Kd.R_far (p := ⟨gb159, 1, none⟩) (Kd.R_far (p := ⟨gb159, 0, none⟩) (Kd.R_types HO140.out BK159.out (by decide)) (fun _ hk => hk.2) (.int .i64 ji19)) (fun _ hk => hk.2) (.int .i64 ji21)) (fun _ hk => ⟨hk.1.1, ⟨hk.1.2.1, hk.1.2.2⟩⟩)⟩
        have n3_ : Aside0 (Kd.R Kd.string 9 ((w57.setCell ⟨gb159, 0, none⟩ (.int .i64 ji19)).setCell ⟨gb159, 1, none⟩ (.int .i64 ji21)) w.heap.size (fun k_ => some k_ ≠ (.slice Ao30 t128.length co30 : Value).ownBlock ∧ some k_ ≠ (.slice Ao31 t131.length co31 : Value).ownBlock ∧ some k_ ≠ (.slice Ao33 t138.length co33 : Value).ownBlock) (.slice Ao34 t141.length co34) t141) := ⟨by (with_reducible repeat (first | apply Kd.R_alloc | apply Kd.R_drewN | apply Kd.R_drew)); exact Kd.R_mono (Kd.R_far (p := ⟨gb159, 1, none⟩) (Kd.R_far (p := ⟨gb159, 0, none⟩) (Kd.R_types HO143.out BK159.out (by decide)) (fun _ hk => hk.2) (.int .i64 ji19)) (fun _ hk => hk.2) (.int .i64 ji21)) (fun _ hk => ⟨hk.1.1, ⟨hk.1.2.1, hk.1.2.2⟩⟩)⟩
        have n4_ : Aside0 (Kd.R k41 41 ((w57.setCell ⟨gb159, 0, none⟩ (.int .i64 ji19)).setCell ⟨gb159, 1, none⟩ (.int .i64 ji21)) w.heap.size (fun _ => True) (.slice Ao42 t150.length co42) t150) := ⟨by (with_reducible repeat (first | apply Kd.R_alloc | apply Kd.R_drewN | apply Kd.R_drew)); exact Kd.R_mono (Kd.R_far (p := ⟨gb159, 1, none⟩) (Kd.R_far (p := ⟨gb159, 0, none⟩) (Kd.R_types HO152.out BK159.out (by decide)) (fun _ hk => hk.2) (.int .i64 ji19)) (fun _ hk => hk.2) (.int .i64 ji21)) (fun _ hk => trivial)⟩
        have n5_ : Aside0 (((w57.setCell ⟨gb159, 0, none⟩ (.int .i64 ji19)).setCell ⟨gb159, 1, none⟩ (.int .i64 ji21)).heap[gb145]? = some (.cells #[.string t124, .int .i64 t125, .int .i64 t126, .int .i64 t127, .slice Ao30 t128.length co30, .slice Ao31 t131.length co31, .bool t134] 28 (0, 0))) := ⟨by (with_reducible repeat (first | refine blk_drewN ?_ _ | refine blk_drew ?_ | refine blk_alloc ?_ _)); refine blk_far ?_ NB145_159.out _; (with_reducible repeat (first | refine blk_drewN ?_ _ | refine blk_drew ?_ | refine blk_alloc ?_ _)); refine blk_far ?_ NB145_159.out _; (with_reducible repeat (first | refine blk_drewN ?_ _ | refine blk_drew ?_ | refine blk_alloc ?_ _)); exact BK145.out⟩
        have n6_ : Aside0 (((w57.setCell ⟨gb159, 0, none⟩ (.int .i64 ji19)).setCell ⟨gb159, 1, none⟩ (.int .i64 ji21)).heap[gb146]? = some (.cells #[.string t135, .int .i64 t136, .int .i64 t137, .slice Ao33 t138.length co33, .slice Ao34 t141.length co34, .bool t144] 31 (0, 0))) := ⟨by (with_reducible repeat (first | refine blk_drewN ?_ _ | refine blk_drew ?_ | refine blk_alloc ?_ _)); refine blk_far ?_ NB146_159.out _; (with_reducible repeat (first | refine blk_drewN ?_ _ | refine blk_drew ?_ | refine blk_alloc ?_ _)); refine blk_far ?_ NB146_159.out _; (with_reducible repeat (first | refine blk_drewN ?_ _ | refine blk_drew ?_ | refine blk_alloc ?_ _)); exact BK146.out⟩
        have n7_ : Aside0 (((w57.setCell ⟨gb159, 0, none⟩ (.int .i64 ji19)).setCell ⟨gb159, 1, none⟩ (.int .i64 ji21)).heap[gb149]? = some (.cells #[.int .i64 t147, .int .i64 t148] 25 (0, 0))) := ⟨by (with_reducible repeat (first | refine blk_drewN ?_ _ | refine blk_drew ?_ | refine blk_alloc ?_ _)); refine blk_far ?_ NB149_159.out _; (with_reducible repeat (first | refine blk_drewN ?_ _ | refine blk_drew ?_ | refine blk_alloc ?_ _)); refine blk_far ?_ NB149_159.out _; (with_reducible repeat (first | refine blk_drewN ?_ _ | refine blk_drew ?_ | refine blk_alloc ?_ _)); exact BK149.out⟩
        have n8_ : Aside0 (((w57.setCell ⟨gb159, 0, none⟩ (.int .i64 ji19)).setCell ⟨gb159, 1, none⟩ (.int .i64 ji21)).heap[gb154]? = some (.cells #[.string t135, .int .i64 (wrap64 (t136 + t155)), .int .i64 (wrap64 (t137 + t156)), .slice Ao33 t138.length co33, .slice Ao34 t141.length co34, .bool t144] 31 (0, 0))) := ⟨by (with_reducible repeat (first | refine blk_drewN ?_ _ | refine blk_drew ?_ | refine blk_alloc ?_ _)); refine blk_far ?_ NB154_159.out _; (with_reducible repeat (first | refine blk_drewN ?_ _ | refine blk_drew ?_ | refine blk_alloc ?_ _)); refine blk_far ?_ NB154_159.out _; (with_reducible repeat (first | refine blk_drewN ?_ _ | refine blk_drew ?_ | refine blk_alloc ?_ _)); exact BK154.out⟩
        have n9_ : Aside0 (((w57.setCell ⟨gb159, 0, none⟩ (.int .i64 ji19)).setCell ⟨gb159, 1, none⟩ (.int .i64 ji21)).heap[gb159]? = some (.cells #[.int .i64 ji19, .int .i64 ji21] 25 (0, 0))) := ⟨by (with_reducible repeat (first | refine blk_drewN ?_ _ | refine blk_drew ?_ | refine blk_alloc ?_ _)); refine blk_put (cs := #[.int .i64 ji19, .int .i64 0]) ?_ 1 _ rfl; (with_reducible repeat (first | refine blk_drewN ?_ _ | refine blk_drew ?_ | refine blk_alloc ?_ _)); refine blk_put (cs := #[.int .i64 0, .int .i64 0]) ?_ 0 _ rfl; (with_reducible repeat (first | refine blk_drewN ?_ _ | refine blk_drew ?_ | refine blk_alloc ?_ _)); exact BK159.out⟩
        have n10_ : Aside0 (Below w.heap.size w ((w57.setCell ⟨gb159, 0, none⟩ (.int .i64 ji19)).setCell ⟨gb159, 1, none⟩ (.int .i64 ji21))) := ⟨by repeat (first | (with_reducible first | exact HB.out | apply below_alloc | apply pw_below_drewN | apply below_drew1 | refine below_set ?_ GE145.out | refine below_set ?_ GE146.out | refine below_set ?_ GE149.out | refine below_set ?_ GE154.out | refine below_set ?_ GE159.out) | exact HB.out)⟩
        (try clear HO130)
        (try clear HO133)
        (try clear HO140)
        (try clear HO143)
        (try clear HO152)
        (try clear BK145)
        (try clear BK146)
        (try clear BK149)
        (try clear BK154)
        (try clear BK159)
        (try clear HB)
        generalize ((w57.setCell ⟨gb159, 0, none⟩ (.int .i64 ji19)).setCell ⟨gb159, 1, none⟩ (.int .i64 ji21)) = w85 at n0_ n1_ n2_ n3_ n4_ n5_ n6_ n7_ n8_ n9_ n10_ ⊢
        have HO130 := n0_
        have HO133 := n1_
        have HO140 := n2_
        have HO143 := n3_
        have HO152 := n4_
        have BK145 := n5_
        have BK146 := n6_
        have BK149 := n7_
        have BK154 := n8_
        have BK159 := n9_
        have HB := n10_
        clear n0_ n1_ n2_ n3_ n4_ n5_ n6_ n7_ n8_ n9_ n10_
        have n0_ := Aside0.mk (Kd.R_drew HO130.out)
        have n1_ := Aside0.mk (Kd.R_drew HO133.out)
        have n2_ := Aside0.mk (Kd.R_drew HO140.out)
        have n3_ := Aside0.mk (Kd.R_drew HO143.out)
        have n4_ := Aside0.mk (Kd.R_drew HO152.out)
        have n5_ := Aside0.mk (blk_drew BK145.out)
        have n6_ := Aside0.mk (blk_drew BK146.out)
        have n7_ := Aside0.mk (blk_drew BK149.out)
        have n8_ := Aside0.mk (blk_drew BK154.out)
        have n9_ := Aside0.mk (blk_drew BK159.out)
        have n10_ := Aside0.mk (below_drew1 HB.out)
        clear HO130
        clear HO133
        clear HO140
        clear HO143
        clear HO152
        clear BK145
        clear BK146
        clear BK149
        clear BK154
        clear BK159
        clear HB
        have HO130 := n0_
        have HO133 := n1_
        have HO140 := n2_
        have HO143 := n3_
        have HO152 := n4_
        have BK145 := n5_
        have BK146 := n6_
        have BK149 := n7_
        have BK154 := n8_
        have BK159 := n9_
        have HB := n10_
        clear n0_ n1_ n2_ n3_ n4_ n5_ n6_ n7_ n8_ n9_ n10_
        refine start_ (n := 27) (S := fun w' => w'.cell? ⟨gb145, 0, none⟩ = some (.string t124) ∧ w'.cell? ⟨gb145, 1, none⟩ = some (.int .i64 t125) ∧ w'.cell? ⟨gb145, 2, none⟩ = some (.int .i64 t126) ∧ w'.cell? ⟨gb145, 3, none⟩ = some (.int .i64 t127) ∧ w'.cell? ⟨gb145, 4, none⟩ = some (.slice Ao30 t128.length co30) ∧ w'.cell? ⟨gb145, 5, none⟩ = some (.slice Ao31 t131.length co31) ∧ w'.cell? ⟨gb145, 6, none⟩ = some (.bool t134) ∧ w'.cell? ⟨gb154, 0, none⟩ = some (.string t135) ∧ w'.cell? ⟨gb154, 1, none⟩ = some (.int .i64 (wrap64 (t136 + t155))) ∧ w'.cell? ⟨gb154, 2, none⟩ = some (.int .i64 (wrap64 (t137 + t156))) ∧ w'.cell? ⟨gb154, 3, none⟩ = some (.slice Ao33 t138.length co33) ∧ w'.cell? ⟨gb154, 4, none⟩ = some (.slice Ao34 t141.length co34) ∧ w'.cell? ⟨gb154, 5, none⟩ = some (.bool t144) ∧ w'.cell? ⟨gb149, 0, none⟩ = some (.int .i64 t147) ∧ w'.cell? ⟨gb149, 1, none⟩ = some (.int .i64 t148)) (ds := []) #[false, false, false, false, false, false, false, false, false, false, false, false, false, false, false, false, false, false, false, false, false, false, false, false, false, false, false] (by kernel_rfl) rfl rfl ⟨(blk_cell BK145.out 0).trans rfl, (blk_cell BK145.out 1).trans rfl, (blk_cell BK145.out 2).trans rfl, (blk_cell BK145.out 3).trans rfl, (blk_cell BK145.out 4).trans rfl, (blk_cell BK145.out 5).trans rfl, (blk_cell BK145.out 6).trans rfl, (blk_cell BK154.out 0).trans rfl, (blk_cell BK154.out 1).trans rfl, (blk_cell BK154.out 2).trans rfl, (blk_cell BK154.out 3).trans rfl, (blk_cell BK154.out 4).trans rfl, (blk_cell BK154.out 5).trans rfl, (blk_cell BK149.out 0).trans rfl, (blk_cell BK149.out 1).trans rfl⟩ (fun hHeld => ?_); refine with_tabW joinerylaw5_FitMore.tab9 joinerylaw5_FitMore.bits9 (fun HT_ HW_ => ?_)
        generalize w85.drew = w86 at HO130 HO133 HO140 HO143 HO152 BK145 BK146 BK149 BK154 BK159 HB hHeld ⊢
        refine pure_ (i := 0) (N := some 71) (v := ?_) (a' := ?_) #[true, false, false, false, false, false, false, false, false, false, false, false, false, false, false, false, false, false, false, false, false, false, false, false, false, false, false] rfl rfl (any_of HT_.out (by kernel_rfl)) (fun _ _ _ h => h) (Or.inl ⟨by rfl, ?_⟩) ?_ ?_
        rotate_left
        · intro w'
          go_simp
          with_reducible rfl
        rotate_left
        · simp only [Act.put, List.setIfInBounds_toArray, List.set_cons_zero, List.set_cons_succ, i64_w, i32_w]
          rfl
        refine pure_ (i := 1) (N := some 72) (v := ?_) (a' := ?_) #[true, true, false, false, false, false, false, false, false, false, false, false, false, false, false, false, false, false, false, false, false, false, false, false, false, false, false] rfl rfl (any_of HT_.out (by kernel_rfl)) (fun _ _ _ h => h) (Or.inl ⟨by rfl, ?_⟩) ?_ ?_
        rotate_left
        · intro w'
          go_simp
          with_reducible rfl
        rotate_left
        · simp only [Act.put, List.setIfInBounds_toArray, List.set_cons_zero, List.set_cons_succ, i64_w, i32_w]
          rfl
        refine pure_ (i := 2) (N := some 73) (v := ?_) (a' := ?_) #[true, true, true, false, false, false, false, false, false, false, false, false, false, false, false, false, false, false, false, false, false, false, false, false, false, false, false] rfl rfl (any_of HT_.out (by kernel_rfl)) (fun _ _ _ h => h) (Or.inl ⟨by rfl, ?_⟩) ?_ ?_
        rotate_left
        · intro w'
          go_simp
          with_reducible rfl
        rotate_left
        · simp only [Act.put, List.setIfInBounds_toArray, List.set_cons_zero, List.set_cons_succ, i64_w, i32_w]
          rfl
        refine pure_ (i := 6) (N := some 77) (v := ?_) (a' := ?_) #[true, true, true, false, false, false, true, false, false, false, false, false, false, false, false, false, false, false, false, false, false, false, false, false, false, false, false] rfl rfl (any_of HT_.out (by kernel_rfl)) (fun _ _ _ h => h) (Or.inl ⟨by rfl, ?_⟩) ?_ ?_
        rotate_left
        · intro w'
          go_simp
          with_reducible rfl
        rotate_left
        · simp only [Act.put, List.setIfInBounds_toArray, List.set_cons_zero, List.set_cons_succ, i64_w, i32_w]
          rfl
        refine take_ (i := 3) (N := some 74) (v := ?_) (a' := ?_) #[true, true, true, true, false, false, true, false, false, false, false, false, false, false, false, false, false, false, false, false, false, false, false, false, false, false, false] rfl rfl (take_ofW HT_.out HW_.out (by kernel_rfl)) (fun _ _ _ h => h) (Or.inl ⟨by rfl, ?_⟩) hHeld ?_ ?_
        rotate_left
        · rintro w' ⟨s0, s1, s2, s3, s4, s5, s6, s7, s8, s9, s10, s11, s12, s13, s14⟩
          go_simp
          with_reducible rfl
        rotate_left
        · simp only [Act.put, List.setIfInBounds_toArray, List.set_cons_zero, List.set_cons_succ, i64_w, i32_w]
          rfl
        refine take_ (i := 4) (N := some 75) (v := ?_) (a' := ?_) #[true, true, true, true, true, false, true, false, false, false, false, false, false, false, false, false, false, false, false, false, false, false, false, false, false, false, false] rfl rfl (take_ofW HT_.out HW_.out (by kernel_rfl)) (fun _ _ _ h => h) (Or.inl ⟨by rfl, ?_⟩) hHeld ?_ ?_
        rotate_left
        · rintro w' ⟨s0, s1, s2, s3, s4, s5, s6, s7, s8, s9, s10, s11, s12, s13, s14⟩
          go_simp
          with_reducible rfl
        rotate_left
        · simp only [Act.put, List.setIfInBounds_toArray, List.set_cons_zero, List.set_cons_succ, i64_w, i32_w]
          rfl
        refine take_ (i := 5) (N := some 76) (v := ?_) (a' := ?_) #[true, true, true, true, true, true, true, false, false, false, false, false, false, false, false, false, false, false, false, false, false, false, false, false, false, false, false] rfl rfl (take_ofW HT_.out HW_.out (by kernel_rfl)) (fun _ _ _ h => h) (Or.inl ⟨by rfl, ?_⟩) hHeld ?_ ?_
        rotate_left
        · rintro w' ⟨s0, s1, s2, s3, s4, s5, s6, s7, s8, s9, s10, s11, s12, s13, s14⟩
          go_simp
          with_reducible rfl
        rotate_left
        · simp only [Act.put, List.setIfInBounds_toArray, List.set_cons_zero, List.set_cons_succ, i64_w, i32_w]
          rfl
        refine one_ (i := 7) (N := some 78) #[true, true, true, true, true, true, true, true, false, false, false, false, false, false, false, false, false, false, false, false, false, false, false, false, false, false, false] rfl rfl (one_of HT_.out (by kernel_rfl)) (by decide) (fun K hK => ?_)
        refine goes_ Try.func17 (by kernel_rfl) rfl #[.slice A6 l6.length c6] (by rfl) rfl rfl (by (try simp only [List.map_toArray, List.map_cons, List.map_nil]); first | done | rfl | (simp only [List.length_drop, List.length_take]; rfl)) ?_
        with_reducible refine (joinerylaw5_beside.calls k _ _ l6 t160 _ ?side1 ?side2 A61.out).mono ?_
        (case side1 => repeat (first | exact (Kd.C_below HR6.out HB.out) | (with_reducible refine Kd.C_alloc ?_ _) | (with_reducible refine Kd.C_drewN ?_ _) | (with_reducible refine Kd.C_drew ?_)))
        (case side2 => exact HC6.out)
        rintro e w87 ⟨v161, rfl, ho0, hb⟩
        refine ⟨_, rfl, ?_⟩
        have n0_ := Aside0.mk (Kd.R_below (by (with_reducible repeat (first | apply Kd.R_alloc | apply Kd.R_drewN | apply Kd.R_drew)); exact HO130.out) hb)
        have n1_ := Aside0.mk (Kd.R_below (by (with_reducible repeat (first | apply Kd.R_alloc | apply Kd.R_drewN | apply Kd.R_drew)); exact HO133.out) hb)
        have n2_ := Aside0.mk (Kd.R_below (by (with_reducible repeat (first | apply Kd.R_alloc | apply Kd.R_drewN | apply Kd.R_drew)); exact HO140.out) hb)
        have n3_ := Aside0.mk (Kd.R_below (by (with_reducible repeat (first | apply Kd.R_alloc | apply Kd.R_drewN | apply Kd.R_drew)); exact HO143.out) hb)
        have n4_ := Aside0.mk (Kd.R_elder' (by (with_reducible repeat (first | apply Kd.R_alloc | apply Kd.R_drewN | apply Kd.R_drew)); exact HO152.out) (Kd.R_base ho0) hb)
        have n5_ := Aside0.mk (Kd.R_lower (Kd.R_new' ho0 (Kd.R_lt (by (with_reducible repeat (first | apply Kd.R_alloc | apply Kd.R_drewN | apply Kd.R_drew)); exact HO152.out))) (below_size (by repeat (first | (with_reducible first | exact HB.out | apply below_alloc | apply pw_below_drewN | apply below_drew1 | refine below_set ?_ GE145.out | refine below_set ?_ GE146.out | refine below_set ?_ GE149.out | refine below_set ?_ GE154.out | refine below_set ?_ GE159.out) | exact HB.out))))
        have n6_ := Aside0.mk (blk_below (g := gb145) (o := .cells #[.string t124, .int .i64 t125, .int .i64 t126, .int .i64 t127, .slice Ao30 t128.length co30, .slice Ao31 t131.length co31, .bool t134] 28 (0, 0)) (by (with_reducible repeat (first | refine blk_drewN ?_ _ | refine blk_drew ?_ | refine blk_alloc ?_ _)); exact BK145.out) hb)
        have n7_ := Aside0.mk (blk_below (g := gb146) (o := .cells #[.string t135, .int .i64 t136, .int .i64 t137, .slice Ao33 t138.length co33, .slice Ao34 t141.length co34, .bool t144] 31 (0, 0)) (by (with_reducible repeat (first | refine blk_drewN ?_ _ | refine blk_drew ?_ | refine blk_alloc ?_ _)); exact BK146.out) hb)
        have n8_ := Aside0.mk (blk_below (g := gb149) (o := .cells #[.int .i64 t147, .int .i64 t148] 25 (0, 0)) (by (with_reducible repeat (first | refine blk_drewN ?_ _ | refine blk_drew ?_ | refine blk_alloc ?_ _)); exact BK149.out) hb)
        have n9_ := Aside0.mk (blk_below (g := gb154) (o := .cells #[.string t135, .int .i64 (wrap64 (t136 + t155)), .int .i64 (wrap64 (t137 + t156)), .slice Ao33 t138.length co33, .slice Ao34 t141.length co34, .bool t144] 31 (0, 0)) (by (with_reducible repeat (first | refine blk_drewN ?_ _ | refine blk_drew ?_ | refine blk_alloc ?_ _)); exact BK154.out) hb)
        have n10_ := Aside0.mk (blk_below (g := gb159) (o := .cells #[.int .i64 ji19, .int .i64 ji21] 25 (0, 0)) (by (with_reducible repeat (first | refine blk_drewN ?_ _ | refine blk_drew ?_ | refine blk_alloc ?_ _)); exact BK159.out) hb)
        have n11_ := Aside0.mk (below_step (by repeat (first | (with_reducible first | exact HB.out | apply below_alloc | apply pw_below_drewN | apply below_drew1 | refine below_set ?_ GE145.out | refine below_set ?_ GE146.out | refine below_set ?_ GE149.out | refine below_set ?_ GE154.out | refine below_set ?_ GE159.out) | exact HB.out)) hb)
        clear HO130
        clear HO133
        clear HO140
        clear HO143
        clear HO152
        clear BK145
        clear BK146
        clear BK149
        clear BK154
        clear BK159
        clear HB
        have HO130 := n0_
        have HO133 := n1_
        have HO140 := n2_
        have HO143 := n3_
        have HO152 := n4_
        have HO162 := n5_
        have BK145 := n6_
        have BK146 := n7_
        have BK149 := n8_
        have BK154 := n9_
        have BK159 := n10_
        have HB := n11_
        clear n0_ n1_ n2_ n3_ n4_ n5_ n6_ n7_ n8_ n9_ n10_ n11_
        (try clear hb)
        (try clear hb2)
        (try clear hk)
        (try clear hi)
        (try clear ho0)
        obtain ⟨Ao88, co88, eo88⟩ := Kd.R_slice HO162.out
        (first | subst eo88 | (injection eo88 with f1_ f2_ f3_; have f4_ := f1_.symm; have f5_ := f3_.symm; clear f1_ f2_ f3_; subst f4_; subst f5_))
        refine hK.out _ _ ⟨(blk_cell BK145.out 0).trans rfl, (blk_cell BK145.out 1).trans rfl, (blk_cell BK145.out 2).trans rfl, (blk_cell BK145.out 3).trans rfl, (blk_cell BK145.out 4).trans rfl, (blk_cell BK145.out 5).trans rfl, (blk_cell BK145.out 6).trans rfl, (blk_cell BK154.out 0).trans rfl, (blk_cell BK154.out 1).trans rfl, (blk_cell BK154.out 2).trans rfl, (blk_cell BK154.out 3).trans rfl, (blk_cell BK154.out 4).trans rfl, (blk_cell BK154.out 5).trans rfl, (blk_cell BK149.out 0).trans rfl, (blk_cell BK149.out 1).trans rfl⟩ (fun hHeld => ?_)
        clear hK K
        refine norm_ (a' := ?_) ?_ ?_
        rotate_left
        · show Act.put _ (some 78) _ = _
          simp only [Act.put, List.setIfInBounds_toArray, List.set_cons_zero, List.set_cons_succ, i64_w, i32_w]
          rfl
        refine one_ (i := 8) (N := some 79) #[true, true, true, true, true, true, true, true, true, false, false, false, false, false, false, false, false, false, false, false, false, false, false, false, false, false, false] rfl rfl (one_of HT_.out (by kernel_rfl)) (by decide) (fun K hK => ?_)
        refine goes_ Try.func16 (by kernel_rfl) rfl #[.agg #[.string t124, .int .i64 t125, .int .i64 t126, .int .i64 t127, .slice Ao30 t128.length co30, .slice Ao31 t131.length co31, .bool t134], .agg #[.string t135, .int .i64 (wrap64 (t136 + t155)), .int .i64 (wrap64 (t137 + t156)), .slice Ao33 t138.length co33, .slice Ao34 t141.length co34, .bool t144], .agg #[.int .i64 t147, .int .i64 t148], .slice Ao88 t160.length co88] (by rfl) rfl rfl (by (try simp only [List.map_toArray, List.map_cons, List.map_nil]); first | done | rfl | (simp only [List.length_drop, List.length_take]; rfl)) ?_
        with_reducible refine (fit_Why.calls k t124 t125 t126 t127 _ _ t128 _ _ t131 t134 t135 (wrap64 (t136 + t155)) (wrap64 (t137 + t156)) _ _ t138 _ _ t141 t144 t147 t148 _ _ t160 t163 _ ?side1 ?side2 ?side3 ?side4 ?side5 ?side6 ?side7 ?side8 ?side9 ?side10 A62.out).mono ?_
        (case side1 => repeat (first | exact (Kd.R_reads' HO130.out).2.2 | (with_reducible refine Kd.C_alloc ?_ _) | (with_reducible refine Kd.C_drewN ?_ _) | (with_reducible refine Kd.C_drew ?_)))
        (case side2 => exact (Kd.R_reads' HO130.out).2.1)
        (case side3 => repeat (first | exact (Kd.R_reads' HO133.out).2.2 | (with_reducible refine Kd.C_alloc ?_ _) | (with_reducible refine Kd.C_drewN ?_ _) | (with_reducible refine Kd.C_drew ?_)))
        (case side4 => exact (Kd.R_reads' HO133.out).2.1)
        (case side5 => repeat (first | exact (Kd.R_reads' HO140.out).2.2 | (with_reducible refine Kd.C_alloc ?_ _) | (with_reducible refine Kd.C_drewN ?_ _) | (with_reducible refine Kd.C_drew ?_)))
        (case side6 => exact (Kd.R_reads' HO140.out).2.1)
        (case side7 => repeat (first | exact (Kd.R_reads' HO143.out).2.2 | (with_reducible refine Kd.C_alloc ?_ _) | (with_reducible refine Kd.C_drewN ?_ _) | (with_reducible refine Kd.C_drew ?_)))
        (case side8 => exact (Kd.R_reads' HO143.out).2.1)
        (case side9 => repeat (first | exact (Kd.R_reads' HO162.out).2.2 | (with_reducible refine Kd.C_alloc ?_ _) | (with_reducible refine Kd.C_drewN ?_ _) | (with_reducible refine Kd.C_drew ?_)))
        (case side10 => exact (Kd.R_reads' HO162.out).2.1)
        rintro e w89 ⟨rfl, hb⟩
        refine ⟨_, rfl, ?_⟩
        have n0_ := Aside0.mk (Kd.R_below (by (with_reducible repeat (first | apply Kd.R_alloc | apply Kd.R_drewN | apply Kd.R_drew)); exact HO130.out) hb)
        have n1_ := Aside0.mk (Kd.R_below (by (with_reducible repeat (first | apply Kd.R_alloc | apply Kd.R_drewN | apply Kd.R_drew)); exact HO133.out) hb)
        have n2_ := Aside0.mk (Kd.R_below (by (with_reducible repeat (first | apply Kd.R_alloc | apply Kd.R_drewN | apply Kd.R_drew)); exact HO140.out) hb)
        have n3_ := Aside0.mk (Kd.R_below (by (with_reducible repeat (first | apply Kd.R_alloc | apply Kd.R_drewN | apply Kd.R_drew)); exact HO143.out) hb)
        have n4_ := Aside0.mk (Kd.R_below (by (with_reducible repeat (first | apply Kd.R_alloc | apply Kd.R_drewN | apply Kd.R_drew)); exact HO152.out) hb)
        have n5_ := Aside0.mk (Kd.R_below (by (with_reducible repeat (first | apply Kd.R_alloc | apply Kd.R_drewN | apply Kd.R_drew)); exact HO162.out) hb)
        have n6_ := Aside0.mk (blk_below (g := gb145) (o := .cells #[.string t124, .int .i64 t125, .int .i64 t126, .int .i64 t127, .slice Ao30 t128.length co30, .slice Ao31 t131.length co31, .bool t134] 28 (0, 0)) (by (with_reducible repeat (first | refine blk_drewN ?_ _ | refine blk_drew ?_ | refine blk_alloc ?_ _)); exact BK145.out) hb)
        have n7_ := Aside0.mk (blk_below (g := gb146) (o := .cells #[.string t135, .int .i64 t136, .int .i64 t137, .slice Ao33 t138.length co33, .slice Ao34 t141.length co34, .bool t144] 31 (0, 0)) (by (with_reducible repeat (first | refine blk_drewN ?_ _ | refine blk_drew ?_ | refine blk_alloc ?_ _)); exact BK146.out) hb)
        have n8_ := Aside0.mk (blk_below (g := gb149) (o := .cells #[.int .i64 t147, .int .i64 t148] 25 (0, 0)) (by (with_reducible repeat (first | refine blk_drewN ?_ _ | refine blk_drew ?_ | refine blk_alloc ?_ _)); exact BK149.out) hb)
        have n9_ := Aside0.mk (blk_below (g := gb154) (o := .cells #[.string t135, .int .i64 (wrap64 (t136 + t155)), .int .i64 (wrap64 (t137 + t156)), .slice Ao33 t138.length co33, .slice Ao34 t141.length co34, .bool t144] 31 (0, 0)) (by (with_reducible repeat (first | refine blk_drewN ?_ _ | refine blk_drew ?_ | refine blk_alloc ?_ _)); exact BK154.out) hb)
        have n10_ := Aside0.mk (blk_below (g := gb159) (o := .cells #[.int .i64 ji19, .int .i64 ji21] 25 (0, 0)) (by (with_reducible repeat (first | refine blk_drewN ?_ _ | refine blk_drew ?_ | refine blk_alloc ?_ _)); exact BK159.out) hb)
        have n11_ := Aside0.mk (below_step (by repeat (first | (with_reducible first | exact HB.out | apply below_alloc | apply pw_below_drewN | apply below_drew1 | refine below_set ?_ GE145.out | refine below_set ?_ GE146.out | refine below_set ?_ GE149.out | refine below_set ?_ GE154.out | refine below_set ?_ GE159.out) | exact HB.out)) hb)
        clear HO130
        clear HO133
        clear HO140
        clear HO143
        clear HO152
        clear HO162
        clear BK145
        clear BK146
        clear BK149
        clear BK154
        clear BK159
        clear HB
        have HO130 := n0_
        have HO133 := n1_
        have HO140 := n2_
        have HO143 := n3_
        have HO152 := n4_
        have HO162 := n5_
        have BK145 := n6_
        have BK146 := n7_
        have BK149 := n8_
        have BK154 := n9_
        have BK159 := n10_
        have HB := n11_
        clear n0_ n1_ n2_ n3_ n4_ n5_ n6_ n7_ n8_ n9_ n10_ n11_
        (try clear hb)
        (try clear hb2)
        (try clear hk)
        (try clear hi)
        refine hK.out _ _ ⟨(blk_cell BK145.out 0).trans rfl, (blk_cell BK145.out 1).trans rfl, (blk_cell BK145.out 2).trans rfl, (blk_cell BK145.out 3).trans rfl, (blk_cell BK145.out 4).trans rfl, (blk_cell BK145.out 5).trans rfl, (blk_cell BK145.out 6).trans rfl, (blk_cell BK154.out 0).trans rfl, (blk_cell BK154.out 1).trans rfl, (blk_cell BK154.out 2).trans rfl, (blk_cell BK154.out 3).trans rfl, (blk_cell BK154.out 4).trans rfl, (blk_cell BK154.out 5).trans rfl, (blk_cell BK149.out 0).trans rfl, (blk_cell BK149.out 1).trans rfl⟩ (fun hHeld => ?_)
        clear hK K
        refine norm_ (a' := ?_) ?_ ?_
        rotate_left
        · show Act.put _ (some 79) _ = _
          simp only [Act.put, List.setIfInBounds_toArray, List.set_cons_zero, List.set_cons_succ, i64_w, i32_w]
          rfl
        refine pure_ (i := 9) (N := some 80) (v := ?_) (a' := ?_) #[true, true, true, true, true, true, true, true, true, true, false, false, false, false, false, false, false, false, false, false, false, false, false, false, false, false, false] rfl rfl (any_of HT_.out (by kernel_rfl)) (fun _ _ _ h => h) (Or.inl ⟨by rfl, ?_⟩) ?_ ?_
        rotate_left
        · intro w'
          go_simp
          with_reducible rfl
        rotate_left
        · simp only [Act.put, List.setIfInBounds_toArray, List.set_cons_zero, List.set_cons_succ, i64_w, i32_w]
          rfl
        refine pure_ (i := 10) (N := some 81) (v := ?_) (a' := ?_) #[true, true, true, true, true, true, true, true, true, true, true, false, false, false, false, false, false, false, false, false, false, false, false, false, false, false, false] rfl rfl (any_of HT_.out (by kernel_rfl)) (fun _ _ _ h => h) (Or.inl ⟨by rfl, ?_⟩) ?_ ?_
        rotate_left
        · intro w'
          go_simp
          with_reducible rfl
        rotate_left
        · simp only [Act.put, List.setIfInBounds_toArray, List.set_cons_zero, List.set_cons_succ, i64_w, i32_w]
          rfl
        refine pure_ (i := 11) (N := some 82) (v := undef) (a' := ?_) #[true, true, true, true, true, true, true, true, true, true, true, true, false, false, false, false, false, false, false, false, false, false, false, false, false, false, false] rfl rfl (any_of HT_.out (by kernel_rfl)) (fun _ _ _ h => h) (Or.inr ⟨by rfl, rfl⟩) ?_ ?_
        rotate_left
        · simp only [Act.put, List.setIfInBounds_toArray, List.set_cons_zero, List.set_cons_succ, i64_w, i32_w]
          rfl
        refine pure_ (i := 12) (N := some 83) (v := undef) (a' := ?_) #[true, true, true, true, true, true, true, true, true, true, true, true, true, false, false, false, false, false, false, false, false, false, false, false, false, false, false] rfl rfl (any_of HT_.out (by kernel_rfl)) (fun _ _ _ h => h) (Or.inr ⟨by rfl, rfl⟩) ?_ ?_
        rotate_left
        · simp only [Act.put, List.setIfInBounds_toArray, List.set_cons_zero, List.set_cons_succ, i64_w, i32_w]
          rfl
        refine pure_ (i := 13) (N := some 84) (v := undef) (a' := ?_) #[true, true, true, true, true, true, true, true, true, true, true, true, true, true, false, false, false, false, false, false, false, false, false, false, false, false, false] rfl rfl (any_of HT_.out (by kernel_rfl)) (fun _ _ _ h => h) (Or.inr ⟨by rfl, rfl⟩) ?_ ?_
        rotate_left
        · simp only [Act.put, List.setIfInBounds_toArray, List.set_cons_zero, List.set_cons_succ, i64_w, i32_w]
          rfl
        refine pure_ (i := 14) (N := some 85) (v := undef) (a' := ?_) #[true, true, true, true, true, true, true, true, true, true, true, true, true, true, true, false, false, false, false, false, false, false, false, false, false, false, false] rfl rfl (any_of HT_.out (by kernel_rfl)) (fun _ _ _ h => h) (Or.inr ⟨by rfl, rfl⟩) ?_ ?_
        rotate_left
        · simp only [Act.put, List.setIfInBounds_toArray, List.set_cons_zero, List.set_cons_succ, i64_w, i32_w]
          rfl
        refine pure_ (i := 15) (N := some 86) (v := undef) (a' := ?_) #[true, true, true, true, true, true, true, true, true, true, true, true, true, true, true, true, false, false, false, false, false, false, false, false, false, false, false] rfl rfl (any_of HT_.out (by kernel_rfl)) (fun _ _ _ h => h) (Or.inr ⟨by rfl, rfl⟩) ?_ ?_
        rotate_left
        · simp only [Act.put, List.setIfInBounds_toArray, List.set_cons_zero, List.set_cons_succ, i64_w, i32_w]
          rfl
        refine pure_ (i := 16) (N := some 87) (v := undef) (a' := ?_) #[true, true, true, true, true, true, true, true, true, true, true, true, true, true, true, true, true, false, false, false, false, false, false, false, false, false, false] rfl rfl (any_of HT_.out (by kernel_rfl)) (fun _ _ _ h => h) (Or.inr ⟨by rfl, rfl⟩) ?_ ?_
        rotate_left
        · simp only [Act.put, List.setIfInBounds_toArray, List.set_cons_zero, List.set_cons_succ, i64_w, i32_w]
          rfl
        refine pure_ (i := 17) (N := some 88) (v := undef) (a' := ?_) #[true, true, true, true, true, true, true, true, true, true, true, true, true, true, true, true, true, true, false, false, false, false, false, false, false, false, false] rfl rfl (any_of HT_.out (by kernel_rfl)) (fun _ _ _ h => h) (Or.inr ⟨by rfl, rfl⟩) ?_ ?_
        rotate_left
        · simp only [Act.put, List.setIfInBounds_toArray, List.set_cons_zero, List.set_cons_succ, i64_w, i32_w]
          rfl
        refine pure_ (i := 18) (N := some 89) (v := ?_) (a' := ?_) #[true, true, true, true, true, true, true, true, true, true, true, true, true, true, true, true, true, true, true, false, false, false, false, false, false, false, false] rfl rfl (any_of HT_.out (by kernel_rfl)) (fun _ _ _ h => h) (Or.inl ⟨by rfl, ?_⟩) ?_ ?_
        rotate_left
        · intro w'
          go_simp
          with_reducible rfl
        rotate_left
        · simp only [Act.put, List.setIfInBounds_toArray, List.set_cons_zero, List.set_cons_succ, i64_w, i32_w]
          rfl
        refine pure_ (i := 19) (N := some 90) (v := ?_) (a' := ?_) #[true, true, true, true, true, true, true, true, true, true, true, true, true, true, true, true, true, true, true, true, false, false, false, false, false, false, false] rfl rfl (any_of HT_.out (by kernel_rfl)) (fun _ _ _ h => h) (Or.inl ⟨by rfl, ?_⟩) ?_ ?_
        rotate_left
        · intro w'
          go_simp
          with_reducible rfl
        rotate_left
        · simp only [Act.put, List.setIfInBounds_toArray, List.set_cons_zero, List.set_cons_succ, i64_w, i32_w]
          rfl
        refine pure_ (i := 20) (N := some 91) (v := undef) (a' := ?_) #[true, true, true, true, true, true, true, true, true, true, true, true, true, true, true, true, true, true, true, true, true, false, false, false, false, false, false] rfl rfl (any_of HT_.out (by kernel_rfl)) (fun _ _ _ h => h) (Or.inr ⟨by rfl, rfl⟩) ?_ ?_
        rotate_left
        · simp only [Act.put, List.setIfInBounds_toArray, List.set_cons_zero, List.set_cons_succ, i64_w, i32_w]
          rfl
        refine pure_ (i := 21) (N := some 92) (v := undef) (a' := ?_) #[true, true, true, true, true, true, true, true, true, true, true, true, true, true, true, true, true, true, true, true, true, true, false, false, false, false, false] rfl rfl (any_of HT_.out (by kernel_rfl)) (fun _ _ _ h => h) (Or.inr ⟨by rfl, rfl⟩) ?_ ?_
        rotate_left
        · simp only [Act.put, List.setIfInBounds_toArray, List.set_cons_zero, List.set_cons_succ, i64_w, i32_w]
          rfl
        refine pure_ (i := 22) (N := some 93) (v := undef) (a' := ?_) #[true, true, true, true, true, true, true, true, true, true, true, true, true, true, true, true, true, true, true, true, true, true, true, false, false, false, false] rfl rfl (any_of HT_.out (by kernel_rfl)) (fun _ _ _ h => h) (Or.inr ⟨by rfl, rfl⟩) ?_ ?_
        rotate_left
        · simp only [Act.put, List.setIfInBounds_toArray, List.set_cons_zero, List.set_cons_succ, i64_w, i32_w]
          rfl
        refine pure_ (i := 23) (N := some 94) (v := undef) (a' := ?_) #[true, true, true, true, true, true, true, true, true, true, true, true, true, true, true, true, true, true, true, true, true, true, true, true, false, false, false] rfl rfl (any_of HT_.out (by kernel_rfl)) (fun _ _ _ h => h) (Or.inr ⟨by rfl, rfl⟩) ?_ ?_
        rotate_left
        · simp only [Act.put, List.setIfInBounds_toArray, List.set_cons_zero, List.set_cons_succ, i64_w, i32_w]
          rfl
        refine pure_ (i := 24) (N := some 95) (v := undef) (a' := ?_) #[true, true, true, true, true, true, true, true, true, true, true, true, true, true, true, true, true, true, true, true, true, true, true, true, true, false, false] rfl rfl (any_of HT_.out (by kernel_rfl)) (fun _ _ _ h => h) (Or.inr ⟨by rfl, rfl⟩) ?_ ?_
        rotate_left
        · simp only [Act.put, List.setIfInBounds_toArray, List.set_cons_zero, List.set_cons_succ, i64_w, i32_w]
          rfl
        refine pure_ (i := 25) (N := some 96) (v := ?_) (a' := ?_) #[true, true, true, true, true, true, true, true, true, true, true, true, true, true, true, true, true, true, true, true, true, true, true, true, true, true, false] rfl rfl (any_of HT_.out (by kernel_rfl)) (fun _ _ _ h => h) (Or.inl ⟨by rfl, ?_⟩) ?_ ?_
        rotate_left
        · intro w'
          go_simp
          with_reducible rfl
        rotate_left
        · simp only [Act.put, List.setIfInBounds_toArray, List.set_cons_zero, List.set_cons_succ, i64_w, i32_w]
          rfl
        refine pure_ (i := 26) (N := some 97) (v := ?_) (a' := ?_) #[true, true, true, true, true, true, true, true, true, true, true, true, true, true, true, true, true, true, true, true, true, true, true, true, true, true, true] rfl rfl (any_of HT_.out (by kernel_rfl)) (fun _ _ _ h => h) (Or.inl ⟨by rfl, ?_⟩) ?_ ?_
        rotate_left
        · intro w'
          go_simp
          with_reducible rfl
        rotate_left
        · simp only [Act.put, List.setIfInBounds_toArray, List.set_cons_zero, List.set_cons_succ, i64_w, i32_w]
          rfl
        refine done_ (done_of HT_.out (by kernel_rfl)) ?_
        try go_wp2
        go_meet
        case rel => exact ⟨_, (true), (by first | rfl | (simp; done) | (simp [*]; done)), H', ⟨by first | omega | exact Nat.le_refl _⟩, ⟨by (with_reducible repeat (first | apply Kd.R_alloc | apply Kd.R_drewN | apply Kd.R_drew)); exact Kd.R_mono HO130.out (fun _ hk => ⟨hk.1, ⟨hk.2.1, ⟨hk.2.2, ⟨hk.2.1, hk.2.2⟩⟩⟩⟩)⟩, ⟨by (with_reducible repeat (first | apply Kd.R_alloc | apply Kd.R_drewN | apply Kd.R_drew)); exact Kd.R_mono HO133.out (fun _ hk => ⟨hk.1, ⟨hk.2.1, ⟨hk.2.2, ⟨hk.2.1, hk.2.2⟩⟩⟩⟩)⟩, ⟨by (with_reducible repeat (first | apply Kd.R_alloc | apply Kd.R_drewN | apply Kd.R_drew)); exact Kd.R_mono HO140.out (fun _ hk => ⟨hk.1, ⟨hk.2.1, ⟨hk.2.2, hk.2.2⟩⟩⟩)⟩, ⟨by (with_reducible repeat (first | apply Kd.R_alloc | apply Kd.R_drewN | apply Kd.R_drew)); exact Kd.R_mono HO143.out (fun _ hk => ⟨hk.1, ⟨hk.2.1, ⟨hk.2.2, hk.2.2⟩⟩⟩)⟩, ⟨by (with_reducible repeat (first | apply Kd.R_alloc | apply Kd.R_drewN | apply Kd.R_drew)); exact Kd.R_mono HO140.out (fun _ hk => ⟨hk.1, ⟨hk.2.1, ⟨hk.2.2, hk.2.2⟩⟩⟩)⟩, ⟨by (with_reducible repeat (first | apply Kd.R_alloc | apply Kd.R_drewN | apply Kd.R_drew)); exact Kd.R_mono HO143.out (fun _ hk => ⟨hk.1, ⟨hk.2.1, ⟨hk.2.2, hk.2.2⟩⟩⟩)⟩, ⟨by (with_reducible repeat (first | refine blk_drewN ?_ _ | refine blk_drew ?_ | refine blk_alloc ?_ _)); exact BK145.out⟩, ⟨by (with_reducible repeat (first | refine blk_drewN ?_ _ | refine blk_drew ?_ | refine blk_alloc ?_ _)); exact BK146.out⟩, ⟨by (with_reducible repeat (first | refine blk_drewN ?_ _ | refine blk_drew ?_ | refine blk_alloc ?_ _)); exact BK149.out⟩, ⟨by (with_reducible repeat (first | refine blk_drewN ?_ _ | refine blk_drew ?_ | refine blk_alloc ?_ _)); exact BK154.out⟩, ⟨by (with_reducible repeat (first | refine blk_drewN ?_ _ | refine blk_drew ?_ | refine blk_alloc ?_ _)); exact BK159.out⟩, ⟨by repeat (first | (with_reducible first | exact HB.out | apply below_alloc | apply pw_below_drewN | apply below_drew1 | refine below_set ?_ GE145.out | refine below_set ?_ GE146.out | refine below_set ?_ GE149.out | refine below_set ?_ GE154.out | refine below_set ?_ GE159.out) | exact HB.out)⟩⟩
    · rw [if_neg c60] at H
      have c60b0 : (t153 == 0) = false := beq_eq_false_iff_ne.mpr c60
      have c60b1 : (t153 != 0) = true := bne_iff_ne.mpr c60
      (first | rw [c60b0] | (simp only [i64_w, i32_w]; rw [c60b0]) | skip)
      have H' := Aside0.mk H
      clear H
      try go_wp2
      (try simp only [drewN_out])
      have n0_ : Aside0 (Kd.R Kd.string 9 ((w57.setCell ⟨gb159, 0, none⟩ (.int .i64 ji19)).setCell ⟨gb159, 1, none⟩ (.int .i64 ji21)) w.heap.size (fun k_ => some k_ ≠ (.slice Ao31 t131.length co31 : Value).ownBlock ∧ some k_ ≠ (.slice Ao33 t138.length co33 : Value).ownBlock ∧ some k_ ≠ (.slice Ao34 t141.length co34 : Value).ownBlock) (.slice Ao30 t128.length co30) t128) := ⟨by (with_reducible repeat (first | apply Kd.R_alloc | apply Kd.R_drewN | apply Kd.R_drew)); exact Kd.R_mono (Kd.R_far (p := ⟨gb159, 1, none⟩) (Kd.R_far (p := ⟨gb159, 0, none⟩) (Kd.R_types HO130.out BK159.out (by decide)) (fun _ hk => hk.2) (.int .i64 ji19)) (fun _ hk => hk.2) (.int .i64 ji21)) (fun _ hk => ⟨hk.1.1, ⟨hk.1.2.1, hk.1.2.2⟩⟩)⟩
      have n1_ : Aside0 (Kd.R Kd.string 9 ((w57.setCell ⟨gb159, 0, none⟩ (.int .i64 ji19)).setCell ⟨gb159, 1, none⟩ (.int .i64 ji21)) w.heap.size (fun k_ => some k_ ≠ (.slice Ao30 t128.length co30 : Value).ownBlock ∧ some k_ ≠ (.slice Ao33 t138.length co33 : Value).ownBlock ∧ some k_ ≠ (.slice Ao34 t141.length co34 : Value).ownBlock) (.slice Ao31 t131.length co31) t131) := ⟨by (with_reducible repeat (first | apply Kd.R_alloc | apply Kd.R_drewN | apply Kd.R_drew)); exact Kd.R_mono (Kd.R_far (p := ⟨gb159, 1, none⟩) (Kd.R_far (p := ⟨gb159, 0, none⟩) (Kd.R_types HO133.out BK159.out (by decide)) (fun _ hk => hk.2) (.int .i64 ji19)) (fun _ hk => hk.2) (.int .i64 ji21)) (fun _ hk => ⟨hk.1.1, ⟨hk.1.2.1, hk.1.2.2⟩⟩)⟩
      have n2_ : Aside0 (Kd.R Kd.string 9 ((w57.setCell ⟨gb159, 0, none⟩ (.int .i64 ji19)).setCell ⟨gb159, 1, none⟩ (.int .i64 ji21)) w.heap.size (fun k_ => some k_ ≠ (.slice Ao30 t128.length co30 : Value).ownBlock ∧ some k_ ≠ (.slice Ao31 t131.length co31 : Value).ownBlock ∧ some k_ ≠ (.slice Ao34 t141.length co34 : Value).ownBlock) (.slice Ao33 t138.length co33) t138) := ⟨by (with_reducible repeat (first | apply Kd.R_alloc | apply Kd.R_drewN | apply Kd.R_drew)); exact Kd.R_mono (Kd.R_far (p := ⟨gb159, 1, none⟩) (Kd.R_far (p := ⟨gb159, 0, none⟩) (Kd.R_types HO140.out BK159.out (by decide)) (fun _ hk => hk.2) (.int .i64 ji19)) (fun _ hk => hk.2) (.int .i64 ji21)) (fun _ hk => ⟨hk.1.1, ⟨hk.1.2.1, hk.1.2.2⟩⟩)⟩
      have n3_ : Aside0 (Kd.R Kd.string 9 ((w57.setCell ⟨gb159, 0, none⟩ (.int .i64 ji19)).setCell ⟨gb159, 1, none⟩ (.int .i64 ji21)) w.heap.size (fun k_ => some k_ ≠ (.slice Ao30 t128.length co30 : Value).ownBlock ∧ some k_ ≠ (.slice Ao31 t131.length co31 : Value).ownBlock ∧ some k_ ≠ (.slice Ao33 t138.length co33 : Value).ownBlock) (.slice Ao34 t141.length co34) t141) := ⟨by (with_reducible repeat (first | apply Kd.R_alloc | apply Kd.R_drewN | apply Kd.R_drew)); exact Kd.R_mono (Kd.R_far (p := ⟨gb159, 1, none⟩) (Kd.R_far (p := ⟨gb159, 0, none⟩) (Kd.R_types HO143.out BK159.out (by decide)) (fun _ hk => hk.2) (.int .i64 ji19)) (fun _ hk => hk.2) (.int .i64 ji21)) (fun _ hk => ⟨hk.1.1, ⟨hk.1.2.1, hk.1.2.2⟩⟩)⟩
      have n4_ : Aside0 (Kd.R k41 41 ((w57.setCell ⟨gb159, 0, none⟩ (.int .i64 ji19)).setCell ⟨gb159, 1, none⟩ (.int .i64 ji21)) w.heap.size (fun _ => True) (.slice Ao42 t150.length co42) t150) := ⟨by (with_reducible repeat (first | apply Kd.R_alloc | apply Kd.R_drewN | apply Kd.R_drew)); exact Kd.R_mono (Kd.R_far (p := ⟨gb159, 1, none⟩) (Kd.R_far (p := ⟨gb159, 0, none⟩) (Kd.R_types HO152.out BK159.out (by decide)) (fun _ hk => hk.2) (.int .i64 ji19)) (fun _ hk => hk.2) (.int .i64 ji21)) (fun _ hk => trivial)⟩
      have n5_ : Aside0 (((w57.setCell ⟨gb159, 0, none⟩ (.int .i64 ji19)).setCell ⟨gb159, 1, none⟩ (.int .i64 ji21)).heap[gb145]? = some (.cells #[.string t124, .int .i64 t125, .int .i64 t126, .int .i64 t127, .slice Ao30 t128.length co30, .slice Ao31 t131.length co31, .bool t134] 28 (0, 0))) := ⟨by (with_reducible repeat (first | refine blk_drewN ?_ _ | refine blk_drew ?_ | refine blk_alloc ?_ _)); refine blk_far ?_ NB145_159.out _; (with_reducible repeat (first | refine blk_drewN ?_ _ | refine blk_drew ?_ | refine blk_alloc ?_ _)); refine blk_far ?_ NB145_159.out _; (with_reducible repeat (first | refine blk_drewN ?_ _ | refine blk_drew ?_ | refine blk_alloc ?_ _)); exact BK145.out⟩
      have n6_ : Aside0 (((w57.setCell ⟨gb159, 0, none⟩ (.int .i64 ji19)).setCell ⟨gb159, 1, none⟩ (.int .i64 ji21)).heap[gb146]? = some (.cells #[.string t135, .int .i64 t136, .int .i64 t137, .slice Ao33 t138.length co33, .slice Ao34 t141.length co34, .bool t144] 31 (0, 0))) := ⟨by (with_reducible repeat (first | refine blk_drewN ?_ _ | refine blk_drew ?_ | refine blk_alloc ?_ _)); refine blk_far ?_ NB146_159.out _; (with_reducible repeat (first | refine blk_drewN ?_ _ | refine blk_drew ?_ | refine blk_alloc ?_ _)); refine blk_far ?_ NB146_159.out _; (with_reducible repeat (first | refine blk_drewN ?_ _ | refine blk_drew ?_ | refine blk_alloc ?_ _)); exact BK146.out⟩
      have n7_ : Aside0 (((w57.setCell ⟨gb159, 0, none⟩ (.int .i64 ji19)).setCell ⟨gb159, 1, none⟩ (.int .i64 ji21)).heap[gb149]? = some (.cells #[.int .i64 t147, .int .i64 t148] 25 (0, 0))) := ⟨by (with_reducible repeat (first | refine blk_drewN ?_ _ | refine blk_drew ?_ | refine blk_alloc ?_ _)); refine blk_far ?_ NB149_159.out _; (with_reducible repeat (first | refine blk_drewN ?_ _ | refine blk_drew ?_ | refine blk_alloc ?_ _)); refine blk_far ?_ NB149_159.out _; (with_reducible repeat (first | refine blk_drewN ?_ _ | refine blk_drew ?_ | refine blk_alloc ?_ _)); exact BK149.out⟩
      have n8_ : Aside0 (((w57.setCell ⟨gb159, 0, none⟩ (.int .i64 ji19)).setCell ⟨gb159, 1, none⟩ (.int .i64 ji21)).heap[gb154]? = some (.cells #[.string t135, .int .i64 (wrap64 (t136 + t155)), .int .i64 (wrap64 (t137 + t156)), .slice Ao33 t138.length co33, .slice Ao34 t141.length co34, .bool t144] 31 (0, 0))) := ⟨by (with_reducible repeat (first | refine blk_drewN ?_ _ | refine blk_drew ?_ | refine blk_alloc ?_ _)); refine blk_far ?_ NB154_159.out _; (with_reducible repeat (first | refine blk_drewN ?_ _ | refine blk_drew ?_ | refine blk_alloc ?_ _)); refine blk_far ?_ NB154_159.out _; (with_reducible repeat (first | refine blk_drewN ?_ _ | refine blk_drew ?_ | refine blk_alloc ?_ _)); exact BK154.out⟩
      have n9_ : Aside0 (((w57.setCell ⟨gb159, 0, none⟩ (.int .i64 ji19)).setCell ⟨gb159, 1, none⟩ (.int .i64 ji21)).heap[gb159]? = some (.cells #[.int .i64 ji19, .int .i64 ji21] 25 (0, 0))) := ⟨by (with_reducible repeat (first | refine blk_drewN ?_ _ | refine blk_drew ?_ | refine blk_alloc ?_ _)); refine blk_put (cs := #[.int .i64 ji19, .int .i64 0]) ?_ 1 _ rfl; (with_reducible repeat (first | refine blk_drewN ?_ _ | refine blk_drew ?_ | refine blk_alloc ?_ _)); refine blk_put (cs := #[.int .i64 0, .int .i64 0]) ?_ 0 _ rfl; (with_reducible repeat (first | refine blk_drewN ?_ _ | refine blk_drew ?_ | refine blk_alloc ?_ _)); exact BK159.out⟩
      have n10_ : Aside0 (Below w.heap.size w ((w57.setCell ⟨gb159, 0, none⟩ (.int .i64 ji19)).setCell ⟨gb159, 1, none⟩ (.int .i64 ji21))) := ⟨by repeat (first | (with_reducible first | exact HB.out | apply below_alloc | apply pw_below_drewN | apply below_drew1 | refine below_set ?_ GE145.out | refine below_set ?_ GE146.out | refine below_set ?_ GE149.out | refine below_set ?_ GE154.out | refine below_set ?_ GE159.out) | exact HB.out)⟩
      (try clear HO130)
      (try clear HO133)
      (try clear HO140)
      (try clear HO143)
      (try clear HO152)
      (try clear BK145)
      (try clear BK146)
      (try clear BK149)
      (try clear BK154)
      (try clear BK159)
      (try clear HB)
      generalize ((w57.setCell ⟨gb159, 0, none⟩ (.int .i64 ji19)).setCell ⟨gb159, 1, none⟩ (.int .i64 ji21)) = w90 at n0_ n1_ n2_ n3_ n4_ n5_ n6_ n7_ n8_ n9_ n10_ ⊢
      have HO130 := n0_
      have HO133 := n1_
      have HO140 := n2_
      have HO143 := n3_
      have HO152 := n4_
      have BK145 := n5_
      have BK146 := n6_
      have BK149 := n7_
      have BK154 := n8_
      have BK159 := n9_
      have HB := n10_
      clear n0_ n1_ n2_ n3_ n4_ n5_ n6_ n7_ n8_ n9_ n10_
      have n0_ := Aside0.mk (Kd.R_drew HO130.out)
      have n1_ := Aside0.mk (Kd.R_drew HO133.out)
      have n2_ := Aside0.mk (Kd.R_drew HO140.out)
      have n3_ := Aside0.mk (Kd.R_drew HO143.out)
      have n4_ := Aside0.mk (Kd.R_drew HO152.out)
      have n5_ := Aside0.mk (blk_drew BK145.out)
      have n6_ := Aside0.mk (blk_drew BK146.out)
      have n7_ := Aside0.mk (blk_drew BK149.out)
      have n8_ := Aside0.mk (blk_drew BK154.out)
      have n9_ := Aside0.mk (blk_drew BK159.out)
      have n10_ := Aside0.mk (below_drew1 HB.out)
      clear HO130
      clear HO133
      clear HO140
      clear HO143
      clear HO152
      clear BK145
      clear BK146
      clear BK149
      clear BK154
      clear BK159
      clear HB
      have HO130 := n0_
      have HO133 := n1_
      have HO140 := n2_
      have HO143 := n3_
      have HO152 := n4_
      have BK145 := n5_
      have BK146 := n6_
      have BK149 := n7_
      have BK154 := n8_
      have BK159 := n9_
      have HB := n10_
      clear n0_ n1_ n2_ n3_ n4_ n5_ n6_ n7_ n8_ n9_ n10_
      refine start_ (n := 27) (S := fun w' => True) (ds := []) #[false, false, false, false, false, false, false, false, false, false, false, false, false, false, false, false, false, false, false, false, false, false, false, false, false, false, false] (by kernel_rfl) rfl rfl trivial (fun hHeld => ?_); refine with_tabW joinerylaw5_FitMore.tab9 joinerylaw5_FitMore.bits9 (fun HT_ HW_ => ?_)
      generalize w90.drew = w91 at HO130 HO133 HO140 HO143 HO152 BK145 BK146 BK149 BK154 BK159 HB hHeld ⊢
      refine pure_ (i := 0) (N := some 71) (v := ?_) (a' := ?_) #[true, false, false, false, false, false, false, false, false, false, false, false, false, false, false, false, false, false, false, false, false, false, false, false, false, false, false] rfl rfl (any_of HT_.out (by kernel_rfl)) (fun _ _ _ h => h) (Or.inl ⟨by rfl, ?_⟩) ?_ ?_
      rotate_left
      · intro w'
        go_simp
        with_reducible rfl
      rotate_left
      · simp only [Act.put, List.setIfInBounds_toArray, List.set_cons_zero, List.set_cons_succ, i64_w, i32_w]
        rfl
      refine pure_ (i := 1) (N := some 72) (v := ?_) (a' := ?_) #[true, true, false, false, false, false, false, false, false, false, false, false, false, false, false, false, false, false, false, false, false, false, false, false, false, false, false] rfl rfl (any_of HT_.out (by kernel_rfl)) (fun _ _ _ h => h) (Or.inl ⟨by rfl, ?_⟩) ?_ ?_
      rotate_left
      · intro w'
        go_simp
        with_reducible rfl
      rotate_left
      · simp only [Act.put, List.setIfInBounds_toArray, List.set_cons_zero, List.set_cons_succ, i64_w, i32_w]
        rfl
      refine pure_ (i := 2) (N := some 73) (v := ?_) (a' := ?_) #[true, true, true, false, false, false, false, false, false, false, false, false, false, false, false, false, false, false, false, false, false, false, false, false, false, false, false] rfl rfl (any_of HT_.out (by kernel_rfl)) (fun _ _ _ h => h) (Or.inl ⟨by rfl, ?_⟩) ?_ ?_
      rotate_left
      · intro w'
        go_simp
        with_reducible rfl
      rotate_left
      · simp only [Act.put, List.setIfInBounds_toArray, List.set_cons_zero, List.set_cons_succ, i64_w, i32_w]
        rfl
      refine pure_ (i := 3) (N := some 74) (v := undef) (a' := ?_) #[true, true, true, true, false, false, false, false, false, false, false, false, false, false, false, false, false, false, false, false, false, false, false, false, false, false, false] rfl rfl (any_of HT_.out (by kernel_rfl)) (fun _ _ _ h => h) (Or.inr ⟨by rfl, rfl⟩) ?_ ?_
      rotate_left
      · simp only [Act.put, List.setIfInBounds_toArray, List.set_cons_zero, List.set_cons_succ, i64_w, i32_w]
        rfl
      refine pure_ (i := 4) (N := some 75) (v := undef) (a' := ?_) #[true, true, true, true, true, false, false, false, false, false, false, false, false, false, false, false, false, false, false, false, false, false, false, false, false, false, false] rfl rfl (any_of HT_.out (by kernel_rfl)) (fun _ _ _ h => h) (Or.inr ⟨by rfl, rfl⟩) ?_ ?_
      rotate_left
      · simp only [Act.put, List.setIfInBounds_toArray, List.set_cons_zero, List.set_cons_succ, i64_w, i32_w]
        rfl
      refine pure_ (i := 5) (N := some 76) (v := undef) (a' := ?_) #[true, true, true, true, true, true, false, false, false, false, false, false, false, false, false, false, false, false, false, false, false, false, false, false, false, false, false] rfl rfl (any_of HT_.out (by kernel_rfl)) (fun _ _ _ h => h) (Or.inr ⟨by rfl, rfl⟩) ?_ ?_
      rotate_left
      · simp only [Act.put, List.setIfInBounds_toArray, List.set_cons_zero, List.set_cons_succ, i64_w, i32_w]
        rfl
      refine pure_ (i := 6) (N := some 77) (v := undef) (a' := ?_) #[true, true, true, true, true, true, true, false, false, false, false, false, false, false, false, false, false, false, false, false, false, false, false, false, false, false, false] rfl rfl (any_of HT_.out (by kernel_rfl)) (fun _ _ _ h => h) (Or.inr ⟨by rfl, rfl⟩) ?_ ?_
      rotate_left
      · simp only [Act.put, List.setIfInBounds_toArray, List.set_cons_zero, List.set_cons_succ, i64_w, i32_w]
        rfl
      refine pure_ (i := 7) (N := some 78) (v := undef) (a' := ?_) #[true, true, true, true, true, true, true, true, false, false, false, false, false, false, false, false, false, false, false, false, false, false, false, false, false, false, false] rfl rfl (any_of HT_.out (by kernel_rfl)) (fun _ _ _ h => h) (Or.inr ⟨by rfl, rfl⟩) ?_ ?_
      rotate_left
      · simp only [Act.put, List.setIfInBounds_toArray, List.set_cons_zero, List.set_cons_succ, i64_w, i32_w]
        rfl
      refine pure_ (i := 8) (N := some 79) (v := undef) (a' := ?_) #[true, true, true, true, true, true, true, true, true, false, false, false, false, false, false, false, false, false, false, false, false, false, false, false, false, false, false] rfl rfl (any_of HT_.out (by kernel_rfl)) (fun _ _ _ h => h) (Or.inr ⟨by rfl, rfl⟩) ?_ ?_
      rotate_left
      · simp only [Act.put, List.setIfInBounds_toArray, List.set_cons_zero, List.set_cons_succ, i64_w, i32_w]
        rfl
      refine pure_ (i := 9) (N := some 80) (v := undef) (a' := ?_) #[true, true, true, true, true, true, true, true, true, true, false, false, false, false, false, false, false, false, false, false, false, false, false, false, false, false, false] rfl rfl (any_of HT_.out (by kernel_rfl)) (fun _ _ _ h => h) (Or.inr ⟨by rfl, rfl⟩) ?_ ?_
      rotate_left
      · simp only [Act.put, List.setIfInBounds_toArray, List.set_cons_zero, List.set_cons_succ, i64_w, i32_w]
        rfl
      refine pure_ (i := 10) (N := some 81) (v := undef) (a' := ?_) #[true, true, true, true, true, true, true, true, true, true, true, false, false, false, false, false, false, false, false, false, false, false, false, false, false, false, false] rfl rfl (any_of HT_.out (by kernel_rfl)) (fun _ _ _ h => h) (Or.inr ⟨by rfl, rfl⟩) ?_ ?_
      rotate_left
      · simp only [Act.put, List.setIfInBounds_toArray, List.set_cons_zero, List.set_cons_succ, i64_w, i32_w]
        rfl
      refine pure_ (i := 11) (N := some 82) (v := undef) (a' := ?_) #[true, true, true, true, true, true, true, true, true, true, true, true, false, false, false, false, false, false, false, false, false, false, false, false, false, false, false] rfl rfl (any_of HT_.out (by kernel_rfl)) (fun _ _ _ h => h) (Or.inr ⟨by rfl, rfl⟩) ?_ ?_
      rotate_left
      · simp only [Act.put, List.setIfInBounds_toArray, List.set_cons_zero, List.set_cons_succ, i64_w, i32_w]
        rfl
      refine pure_ (i := 12) (N := some 83) (v := undef) (a' := ?_) #[true, true, true, true, true, true, true, true, true, true, true, true, true, false, false, false, false, false, false, false, false, false, false, false, false, false, false] rfl rfl (any_of HT_.out (by kernel_rfl)) (fun _ _ _ h => h) (Or.inr ⟨by rfl, rfl⟩) ?_ ?_
      rotate_left
      · simp only [Act.put, List.setIfInBounds_toArray, List.set_cons_zero, List.set_cons_succ, i64_w, i32_w]
        rfl
      refine pure_ (i := 13) (N := some 84) (v := undef) (a' := ?_) #[true, true, true, true, true, true, true, true, true, true, true, true, true, true, false, false, false, false, false, false, false, false, false, false, false, false, false] rfl rfl (any_of HT_.out (by kernel_rfl)) (fun _ _ _ h => h) (Or.inr ⟨by rfl, rfl⟩) ?_ ?_
      rotate_left
      · simp only [Act.put, List.setIfInBounds_toArray, List.set_cons_zero, List.set_cons_succ, i64_w, i32_w]
        rfl
      refine pure_ (i := 14) (N := some 85) (v := undef) (a' := ?_) #[true, true, true, true, true, true, true, true, true, true, true, true, true, true, true, false, false, false, false, false, false, false, false, false, false, false, false] rfl rfl (any_of HT_.out (by kernel_rfl)) (fun _ _ _ h => h) (Or.inr ⟨by rfl, rfl⟩) ?_ ?_
      rotate_left
      · simp only [Act.put, List.setIfInBounds_toArray, List.set_cons_zero, List.set_cons_succ, i64_w, i32_w]
        rfl
      refine pure_ (i := 15) (N := some 86) (v := undef) (a' := ?_) #[true, true, true, true, true, true, true, true, true, true, true, true, true, true, true, true, false, false, false, false, false, false, false, false, false, false, false] rfl rfl (any_of HT_.out (by kernel_rfl)) (fun _ _ _ h => h) (Or.inr ⟨by rfl, rfl⟩) ?_ ?_
      rotate_left
      · simp only [Act.put, List.setIfInBounds_toArray, List.set_cons_zero, List.set_cons_succ, i64_w, i32_w]
        rfl
      refine pure_ (i := 16) (N := some 87) (v := undef) (a' := ?_) #[true, true, true, true, true, true, true, true, true, true, true, true, true, true, true, true, true, false, false, false, false, false, false, false, false, false, false] rfl rfl (any_of HT_.out (by kernel_rfl)) (fun _ _ _ h => h) (Or.inr ⟨by rfl, rfl⟩) ?_ ?_
      rotate_left
      · simp only [Act.put, List.setIfInBounds_toArray, List.set_cons_zero, List.set_cons_succ, i64_w, i32_w]
        rfl
      refine pure_ (i := 17) (N := some 88) (v := undef) (a' := ?_) #[true, true, true, true, true, true, true, true, true, true, true, true, true, true, true, true, true, true, false, false, false, false, false, false, false, false, false] rfl rfl (any_of HT_.out (by kernel_rfl)) (fun _ _ _ h => h) (Or.inr ⟨by rfl, rfl⟩) ?_ ?_
      rotate_left
      · simp only [Act.put, List.setIfInBounds_toArray, List.set_cons_zero, List.set_cons_succ, i64_w, i32_w]
        rfl
      refine pure_ (i := 18) (N := some 89) (v := undef) (a' := ?_) #[true, true, true, true, true, true, true, true, true, true, true, true, true, true, true, true, true, true, true, false, false, false, false, false, false, false, false] rfl rfl (any_of HT_.out (by kernel_rfl)) (fun _ _ _ h => h) (Or.inr ⟨by rfl, rfl⟩) ?_ ?_
      rotate_left
      · simp only [Act.put, List.setIfInBounds_toArray, List.set_cons_zero, List.set_cons_succ, i64_w, i32_w]
        rfl
      refine pure_ (i := 19) (N := some 90) (v := undef) (a' := ?_) #[true, true, true, true, true, true, true, true, true, true, true, true, true, true, true, true, true, true, true, true, false, false, false, false, false, false, false] rfl rfl (any_of HT_.out (by kernel_rfl)) (fun _ _ _ h => h) (Or.inr ⟨by rfl, rfl⟩) ?_ ?_
      rotate_left
      · simp only [Act.put, List.setIfInBounds_toArray, List.set_cons_zero, List.set_cons_succ, i64_w, i32_w]
        rfl
      refine pure_ (i := 20) (N := some 91) (v := undef) (a' := ?_) #[true, true, true, true, true, true, true, true, true, true, true, true, true, true, true, true, true, true, true, true, true, false, false, false, false, false, false] rfl rfl (any_of HT_.out (by kernel_rfl)) (fun _ _ _ h => h) (Or.inr ⟨by rfl, rfl⟩) ?_ ?_
      rotate_left
      · simp only [Act.put, List.setIfInBounds_toArray, List.set_cons_zero, List.set_cons_succ, i64_w, i32_w]
        rfl
      refine pure_ (i := 21) (N := some 92) (v := undef) (a' := ?_) #[true, true, true, true, true, true, true, true, true, true, true, true, true, true, true, true, true, true, true, true, true, true, false, false, false, false, false] rfl rfl (any_of HT_.out (by kernel_rfl)) (fun _ _ _ h => h) (Or.inr ⟨by rfl, rfl⟩) ?_ ?_
      rotate_left
      · simp only [Act.put, List.setIfInBounds_toArray, List.set_cons_zero, List.set_cons_succ, i64_w, i32_w]
        rfl
      refine pure_ (i := 22) (N := some 93) (v := undef) (a' := ?_) #[true, true, true, true, true, true, true, true, true, true, true, true, true, true, true, true, true, true, true, true, true, true, true, false, false, false, false] rfl rfl (any_of HT_.out (by kernel_rfl)) (fun _ _ _ h => h) (Or.inr ⟨by rfl, rfl⟩) ?_ ?_
      rotate_left
      · simp only [Act.put, List.setIfInBounds_toArray, List.set_cons_zero, List.set_cons_succ, i64_w, i32_w]
        rfl
      refine pure_ (i := 23) (N := some 94) (v := undef) (a' := ?_) #[true, true, true, true, true, true, true, true, true, true, true, true, true, true, true, true, true, true, true, true, true, true, true, true, false, false, false] rfl rfl (any_of HT_.out (by kernel_rfl)) (fun _ _ _ h => h) (Or.inr ⟨by rfl, rfl⟩) ?_ ?_
      rotate_left
      · simp only [Act.put, List.setIfInBounds_toArray, List.set_cons_zero, List.set_cons_succ, i64_w, i32_w]
        rfl
      refine pure_ (i := 24) (N := some 95) (v := undef) (a' := ?_) #[true, true, true, true, true, true, true, true, true, true, true, true, true, true, true, true, true, true, true, true, true, true, true, true, true, false, false] rfl rfl (any_of HT_.out (by kernel_rfl)) (fun _ _ _ h => h) (Or.inr ⟨by rfl, rfl⟩) ?_ ?_
      rotate_left
      · simp only [Act.put, List.setIfInBounds_toArray, List.set_cons_zero, List.set_cons_succ, i64_w, i32_w]
        rfl
      refine pure_ (i := 25) (N := some 96) (v := undef) (a' := ?_) #[true, true, true, true, true, true, true, true, true, true, true, true, true, true, true, true, true, true, true, true, true, true, true, true, true, true, false] rfl rfl (any_of HT_.out (by kernel_rfl)) (fun _ _ _ h => h) (Or.inr ⟨by rfl, rfl⟩) ?_ ?_
      rotate_left
      · simp only [Act.put, List.setIfInBounds_toArray, List.set_cons_zero, List.set_cons_succ, i64_w, i32_w]
        rfl
      refine pure_ (i := 26) (N := some 97) (v := ?_) (a' := ?_) #[true, true, true, true, true, true, true, true, true, true, true, true, true, true, true, true, true, true, true, true, true, true, true, true, true, true, true] rfl rfl (any_of HT_.out (by kernel_rfl)) (fun _ _ _ h => h) (Or.inl ⟨by rfl, ?_⟩) ?_ ?_
      rotate_left
      · intro w'
        go_simp
        with_reducible rfl
      rotate_left
      · simp only [Act.put, List.setIfInBounds_toArray, List.set_cons_zero, List.set_cons_succ, i64_w, i32_w]
        rfl
      refine done_ (done_of HT_.out (by kernel_rfl)) ?_
      try go_wp2
      go_meet
      case rel => exact ⟨_, (false), (by first | rfl | (simp; done) | (simp [*]; done)), H', ⟨by first | omega | exact Nat.le_refl _⟩, ⟨by (with_reducible repeat (first | apply Kd.R_alloc | apply Kd.R_drewN | apply Kd.R_drew)); exact Kd.R_mono HO130.out (fun _ hk => ⟨hk.1, ⟨hk.2.1, ⟨hk.2.2, ⟨hk.2.1, hk.2.2⟩⟩⟩⟩)⟩, ⟨by (with_reducible repeat (first | apply Kd.R_alloc | apply Kd.R_drewN | apply Kd.R_drew)); exact Kd.R_mono HO133.out (fun _ hk => ⟨hk.1, ⟨hk.2.1, ⟨hk.2.2, ⟨hk.2.1, hk.2.2⟩⟩⟩⟩)⟩, ⟨by (with_reducible repeat (first | apply Kd.R_alloc | apply Kd.R_drewN | apply Kd.R_drew)); exact Kd.R_mono HO140.out (fun _ hk => ⟨hk.1, ⟨hk.2.1, ⟨hk.2.2, hk.2.2⟩⟩⟩)⟩, ⟨by (with_reducible repeat (first | apply Kd.R_alloc | apply Kd.R_drewN | apply Kd.R_drew)); exact Kd.R_mono HO143.out (fun _ hk => ⟨hk.1, ⟨hk.2.1, ⟨hk.2.2, hk.2.2⟩⟩⟩)⟩, ⟨by (with_reducible repeat (first | apply Kd.R_alloc | apply Kd.R_drewN | apply Kd.R_drew)); exact Kd.R_mono HO140.out (fun _ hk => ⟨hk.1, ⟨hk.2.1, ⟨hk.2.2, hk.2.2⟩⟩⟩)⟩, ⟨by (with_reducible repeat (first | apply Kd.R_alloc | apply Kd.R_drewN | apply Kd.R_drew)); exact Kd.R_mono HO143.out (fun _ hk => ⟨hk.1, ⟨hk.2.1, ⟨hk.2.2, hk.2.2⟩⟩⟩)⟩, ⟨by (with_reducible repeat (first | refine blk_drewN ?_ _ | refine blk_drew ?_ | refine blk_alloc ?_ _)); exact BK145.out⟩, ⟨by (with_reducible repeat (first | refine blk_drewN ?_ _ | refine blk_drew ?_ | refine blk_alloc ?_ _)); exact BK146.out⟩, ⟨by (with_reducible repeat (first | refine blk_drewN ?_ _ | refine blk_drew ?_ | refine blk_alloc ?_ _)); exact BK149.out⟩, ⟨by (with_reducible repeat (first | refine blk_drewN ?_ _ | refine blk_drew ?_ | refine blk_alloc ?_ _)); exact BK154.out⟩, ⟨by (with_reducible repeat (first | refine blk_drewN ?_ _ | refine blk_drew ?_ | refine blk_alloc ?_ _)); exact BK159.out⟩, ⟨by repeat (first | (with_reducible first | exact HB.out | apply below_alloc | apply pw_below_drewN | apply below_drew1 | refine below_set ?_ GE145.out | refine below_set ?_ GE146.out | refine below_set ?_ GE149.out | refine below_set ?_ GE154.out | refine below_set ?_ GE159.out) | exact HB.out)⟩⟩
  case rest =>
    clear HC22
    try clear c1
    try clear p2
    try clear c6
    try clear p6
    try clear c16
    try clear c17
    try clear c60
    try clear c60b0
    try clear c60b1
    try clear c63
    try clear c63b0
    try clear c63b1
    try clear p64
    obtain ⟨kq, x97_21, rfl, HA, HJ21, HO_146004, HO_146005, HO_147003, HO_147004, HO_155003, HO_155004, BK145, BK146, BK149, BK154, BK159, HB⟩ := hcut
    cases kq with
    | zero => exact absurd HA.out (by simp [joinerylaw5_FitMore.j0])
    | succ kj21 =>
      have H := HA.out
      clear HA
      simp only [joinerylaw5_FitMore.j0] at H
      by_cases c92 : x97_21 = true
      · subst c92
        have H1 : (some false) = some r := by rw [if_pos rfl] at H; exact H
        clear H
        have H := H1
        clear H1
        obtain rfl := Option.some.inj H
        exact absurd hT_.out (by simp)
      · replace c92 := Bool.eq_false_iff.mpr c92
        subst c92
        have H1 : ((joinerylaw5_beside.f kj21 l6).bind fun t173 => ((fit_Why.f kj21 t124 t125 t126 t127 (([(⟨#[110, 111, 110, 101]⟩ : ByteArray)] : List ByteArray)) t131 t134 t135 t136 t137 t138 t141 t144 t147 t148 t173).bind fun t176 => (if t144 = true then (if t176 = 1 then (some true) else (some false)) else (some (t176 == 2))))) = some r := by rw [if_neg (show ¬ (false = true) by decide)] at H; exact H
        clear H
        have H := H1
        clear H1
        obtain ⟨y170, hy170⟩ : ∃ y_ : List ByteArray, y_ = (([(⟨#[110, 111, 110, 101]⟩ : ByteArray)] : List ByteArray)) := ⟨_, rfl⟩
        replace H : ((joinerylaw5_beside.f kj21 l6).bind fun t173 => ((fit_Why.f kj21 t124 t125 t126 t127 y170 t131 t134 t135 t136 t137 t138 t141 t144 t147 t148 t173).bind fun t176 => (if t144 = true then (if t176 = 1 then (some true) else (some false)) else (some (t176 == 2))))) = some r := by first | (rw [hy170]; with_reducible exact H) | (have H2_ := (Option.bind_some _ _).symm.trans H; rw [hy170]; with_reducible exact H2_) | (have H2_ := (Option.bind_some _ _).symm.trans H; with_reducible exact H2_) | with_reducible exact H | (rw [hy170]; exact H) | exact H
        have Ny170 := Aside0.mk hy170
        clear hy170
        replace H := Option.bind_eq_some_iff.mp H
        obtain ⟨t173, A930, H⟩ := H
        replace H : ((fit_Why.f kj21 t124 t125 t126 t127 y170 t131 t134 t135 t136 t137 t138 t141 t144 t147 t148 t173).bind fun t176 => (if t144 = true then (if t176 = 1 then (some true) else (some false)) else (some (t176 == 2)))) = some r := H
        have A93 := Aside0.mk A930
        clear A930
        replace H := Option.bind_eq_some_iff.mp H
        obtain ⟨t176, A940, H⟩ := H
        replace H : (if t144 = true then (if t176 = 1 then (some true) else (some false)) else (some (t176 == 2))) = some r := H
        have A94 := Aside0.mk A940
        clear A940
        by_cases c95 : t144 = true
        · subst c95
          have H1 : (if t176 = 1 then (some true) else (some false)) = some r := by rw [if_pos rfl] at H; exact H
          clear H
          have H := H1
          clear H1
          by_cases c96 : t176 = 1
          · rw [if_pos c96] at H
            have c96b0 : (t176 == 1) = true := beq_iff_eq.mpr c96
            have c96b1 : (t176 != 1) = false := bne_eq_false_iff_eq.mpr c96
            clear c96
            obtain rfl := Option.some.inj H
            exact joinerylaw5_FitMore.part2 k a0 a1 a2 a3 a4 a5 A6 c6 l6 w HR6 HC6 A8 t124 t125 t126 t127 t128 t131 t134 A10 t135 t136 t137 t138 t141 t147 A12 t148 A13 t150 A14 t153 t155 A16 t156 A17 t157 A18 ji19 hji19 hji19l hji19m hji19_ t158 A20 ji21 hji21 hji21l hji21m hji21_ gb145 GE145 gb146 GE146 NB145_146 NB146_145 Ao30 co30 Ao31 co31 Ao33 co33 Ao34 co34 gb149 GE149 NB145_149 NB149_145 NB146_149 NB149_146 gb154 GE154 NB145_154 NB154_145 NB146_154 NB154_146 gb159 GE159 NB145_159 NB159_145 NB146_159 NB159_146 wc u23 u24 u25 u26 u27 u28 u29 u30 u31 u32 u33 u34 u35 u36 u37 u38 u39 u40 u41 u42 u43 u44 u45 u46 u47 u48 u49 u50 u51 u52 u53 u54 u55 u56 u57 u58 u59 u60 u61 u62 u63 u64 u65 u66 u67 u68 u69 u70 u71 u72 u73 u74 u75 u76 u77 u78 u79 u80 u81 u82 u83 u84 u85 u86 u87 u88 u89 u90 u91 u92 u93 u94 u95 u96 u98 u99 u100 u101 u102 u103 u104 u105 u106 u107 u108 u109 u110 u111 u112 u113 u114 u115 u116 u117 u118 u119 u120 u121 HO_146004 HO_146005 HO_147003 HO_147004 HO_155003 HO_155004 BK145 BK149 BK159 HB kj21 HJ21 y170 Ny170 t173 A93 t176 A11 A15 BK146 BK154 A94 c96b0 c96b1 hT_ _ _ (by assumption) (by assumption)
          · rw [if_neg c96] at H
            have c96b0 : (t176 == 1) = false := beq_eq_false_iff_ne.mpr c96
            have c96b1 : (t176 != 1) = true := bne_iff_ne.mpr c96
            obtain rfl := Option.some.inj H
            exact absurd hT_.out (by simp)
        · replace c95 := Bool.eq_false_iff.mpr c95
          subst c95
          have H1 : (some (t176 == 2)) = some r := by rw [if_neg (show ¬ (false = true) by decide)] at H; exact H
          clear H
          have H := H1
          clear H1
          obtain rfl := Option.some.inj H
          exact joinerylaw5_FitMore.part3 k a0 a1 a2 a3 a4 a5 A6 c6 l6 w HR6 HC6 A8 t124 t125 t126 t127 t128 t131 t134 A10 t135 t136 t137 t138 t141 t147 A12 t148 A13 t150 A14 t153 t155 A16 t156 A17 t157 A18 ji19 hji19 hji19l hji19m hji19_ t158 A20 ji21 hji21 hji21l hji21m hji21_ gb145 GE145 gb146 GE146 NB145_146 NB146_145 Ao30 co30 Ao31 co31 Ao33 co33 Ao34 co34 gb149 GE149 NB145_149 NB149_145 NB146_149 NB149_146 gb154 GE154 NB145_154 NB154_145 NB146_154 NB154_146 gb159 GE159 NB145_159 NB159_145 NB146_159 NB159_146 wc u23 u24 u25 u26 u27 u28 u29 u30 u31 u32 u33 u34 u35 u36 u37 u38 u39 u40 u41 u42 u43 u44 u45 u46 u47 u48 u49 u50 u51 u52 u53 u54 u55 u56 u57 u58 u59 u60 u61 u62 u63 u64 u65 u66 u67 u68 u69 u70 u71 u72 u73 u74 u75 u76 u77 u78 u79 u80 u81 u82 u83 u84 u85 u86 u87 u88 u89 u90 u91 u92 u93 u94 u95 u96 u98 u99 u100 u101 u102 u103 u104 u105 u106 u107 u108 u109 u110 u111 u112 u113 u114 u115 u116 u117 u118 u119 u120 u121 HO_146004 HO_146005 HO_147003 HO_147004 HO_155003 HO_155004 BK145 BK149 BK159 HB kj21 HJ21 y170 Ny170 t173 A93 t176 A11 A15 BK146 BK154 A94 hT_ _ _ (by assumption) (by assumption)

end Go.Proofs.Ytciedbaeenhgkaa.M
