-- Printed by wip/tools/gprint.py (the kit's print, hand-proved contracts laid in): functions of the program as Lean functions, each with the proof that the machine's call comes to its answer.
import Derived.Test.YtciedbaeenhgkaaQx0
import Derived.Test.YtciedbaeenhgkaaQx2
import Derived.Test.YtciedbaeenhgkaaQw
import Derived.Test.YtciedbaeenhgkaaCut
import Derived.Test.YtciedbaeenhgkaaK0
import Derived.Test.YtciedbaeenhgkaaK1
namespace Go.Proofs.Ytciedbaeenhgkaa.M
open Go.RowKit Go.Proofs.Ytciedbaeenhgkaa Go.Proofs.Ytciedbaeenhgkaa.Base Go.Proofs.Ytciedbaeenhgkaa.BaseM Go.Proofs.Ytciedbaeenhgkaa.BaseR Go.Proofs.Ytciedbaeenhgkaa.Q Go.Proofs.YtciedbaeenhgkaaW.PrintWords Go.Proofs.YtciedbaeenhgkaaW.PrintLast Go.Proofs.YtciedbaeenhgkaaW.PrintMore
attribute [local go_sem] fwd_normal fwd_ret fwd_exit fwd_panic max2_int min2_int max_two min_two max_three min_three max_four min_four   -- for this text's walks alone
set_option linter.unusedVariables false
set_option linter.unusedSimpArgs false


set_option maxHeartbeats 8000000 in
set_option maxRecDepth 100000 in
theorem joinerylaw5_FitKnown.part1 (k : Nat) (a0 : Int) (w : World) (A2 : Aside0 (joinerylaw5_known.f k = some true)) (y178 : List ByteArray) (Ny178 : Aside0 (y178 = [ByteArray.mk #[98, 105, 103]])) (y181 : List ByteArray) (Ny181 : Aside0 (y181 = [ByteArray.mk #[206, 179]])) (y185 : List ByteArray) (Ny185 : Aside0 (y185 = [ByteArray.mk #[98, 105, 103], ByteArray.mk #[115, 115, 100]])) (y188 : List ByteArray) (Ny188 : Aside0 (y188 = [ByteArray.mk #[206, 179]])) (y196 : List ByteArray) (Ny196 : Aside0 (y196 = [ByteArray.mk #[115, 115, 100]])) (y199 : List ByteArray) (Ny199 : Aside0 (y199 = [ByteArray.mk #[119, 101, 115, 116], ByteArray.mk #[206, 179]])) (y202 : List S41) (Ny202 : Aside0 (y202 = [S41.mk (ByteArray.mk #[113]) (ByteArray.mk #[110]) (S25.mk 0 0) false])) (y205 : List S41) (Ny205 : Aside0 (y205 = [S41.mk (ByteArray.mk #[113]) (ByteArray.mk #[110]) (S25.mk 0 0) false, S41.mk (ByteArray.mk #[114]) (ByteArray.mk #[110]) (S25.mk 0 0) true])) (t208 : Int) (A4 : Aside0 (fit_Why.f k (ByteArray.mk #[112]) 0 2 3 y178 y181 false (ByteArray.mk #[110]) 5 5 y185 y188 false 3 2 [] = some t208)) (t209 : Int) (A5 : Aside0 (fit_Why.f k (ByteArray.mk #[112]) 0 2 3 y178 y181 false (ByteArray.mk #[110]) 5 5 [] y188 true 9 0 y205 = some t209)) (t210 : Int) (A6 : Aside0 (fit_Why.f k (ByteArray.mk #[112]) 0 2 3 y178 y181 false (ByteArray.mk #[110]) 5 5 y196 y188 false 9 0 y205 = some t210)) (t211 : Int) (A7 : Aside0 (fit_Why.f k (ByteArray.mk #[112]) 0 2 3 y178 y181 false (ByteArray.mk #[110]) 5 5 y185 y199 false 9 0 y205 = some t211)) (t212 : Int) (A8 : Aside0 (fit_Why.f k (ByteArray.mk #[112]) 0 2 3 y178 y181 false (ByteArray.mk #[110]) 5 5 y185 y188 false 4 0 y205 = some t212)) (t213 : Int) (A9 : Aside0 (fit_Why.f k (ByteArray.mk #[112]) 0 2 3 y178 y181 false (ByteArray.mk #[110]) 5 5 y185 y188 false 0 3 y205 = some t213)) (t214 : Int) (A10 : Aside0 (fit_Why.f k (ByteArray.mk #[112]) 0 2 3 y178 y181 true (ByteArray.mk #[110]) 5 5 y185 y188 false 0 0 y202 = some t214)) (t215 : Int) (A11 : Aside0 (fit_Why.f k (ByteArray.mk #[112]) 0 2 3 y178 y181 true (ByteArray.mk #[110]) 5 5 y185 y188 false 0 0 y205 = some t215)) (t216 : Int) (A12 : Aside0 (fit_Why.f k (ByteArray.mk #[112]) 0 2 3 y178 y181 false (ByteArray.mk #[110]) 5 5 y185 y188 false 0 0 y205 = some t216)) (t217 : Int) (A13 : Aside0 (fit_Why.f k (ByteArray.mk #[112]) 0 2 3 y178 y181 false (ByteArray.mk #[110]) 5 5 y185 y188 false 0 0 y202 = some t217)) (t218 : Int) (A14 : Aside0 (fit_Why.f k (ByteArray.mk #[112]) 0 2 3 y178 y181 true (ByteArray.mk #[110]) 5 5 y185 y188 false 0 0 [] = some t218)) (t219 : Int) (A15 : Aside0 (fit_Why.f k (ByteArray.mk #[112]) 0 2 3 y178 y181 false (ByteArray.mk #[110]) 5 5 y185 y188 false 9223372036854775807 0 [] = some t219)) (y220 : List Int) (Ny220 : Aside0 (y220 = [t208, t209, t210, t211, t212, t213, t214, t215, t216, t217, t218, t219])) (y223 : List Int) (Ny223 : Aside0 (y223 = [0, 1, 2, 3, 4, 4, 5, 5, 6, 0, 0, 4])) (t226 : Int) (A16 : Aside0 (joinerylaw5_within.f a0 (↑y220.length : Int) = some t226)) (c17b0 : decide (0 ≤ t226) = true) (c18b0 : decide (t226 < (↑y220.length : Int)) = true) (c19b0 : decide (t226 < (↑y223.length : Int)) = true) (hT_ : Aside0 ((rd y220 t226 == rd y223 t226) = true)) (Ao25 : Option Addr) (co25 : Nat) (Ao26 : Option Addr) (co26 : Nat) (gb184 : Nat) (GE184 : Aside0 (w.heap.size ≤ gb184)) (Ao33 : Option Addr) (co33 : Nat) (Ao34 : Option Addr) (co34 : Nat) (gb191 : Nat) (GE191 : Aside0 (w.heap.size ≤ gb191)) (gb192 : Nat) (GE192 : Aside0 (w.heap.size ≤ gb192)) (w43 : World) (HO180 : Aside0 (Kd.string.R 9 w43.drew w.heap.size (fun k_ => some k_ ≠ (Value.slice Ao25 y181.length co25).ownBlock ∧ some k_ ≠ (Value.slice Ao34 y185.length co34).ownBlock ∧ some k_ ≠ (Value.slice Ao33 y188.length co33).ownBlock) (Value.slice Ao26 y178.length co26) y178)) (HO183 : Aside0 (Kd.string.R 9 w43.drew w.heap.size (fun k_ => some k_ ≠ (Value.slice Ao26 y178.length co26).ownBlock ∧ some k_ ≠ (Value.slice Ao34 y185.length co34).ownBlock ∧ some k_ ≠ (Value.slice Ao33 y188.length co33).ownBlock) (Value.slice Ao25 y181.length co25) y181)) (HO187 : Aside0 (Kd.string.R 9 w43.drew w.heap.size (fun k_ => some k_ ≠ (Value.slice Ao26 y178.length co26).ownBlock ∧ some k_ ≠ (Value.slice Ao25 y181.length co25).ownBlock ∧ some k_ ≠ (Value.slice Ao33 y188.length co33).ownBlock) (Value.slice Ao34 y185.length co34) y185)) (HO190 : Aside0 (Kd.string.R 9 w43.drew w.heap.size (fun k_ => some k_ ≠ (Value.slice Ao26 y178.length co26).ownBlock ∧ some k_ ≠ (Value.slice Ao25 y181.length co25).ownBlock ∧ some k_ ≠ (Value.slice Ao34 y185.length co34).ownBlock) (Value.slice Ao33 y188.length co33) y188)) (BK184 : Aside0 (w43.drew.heap[gb184]? = some (Obj.cells #[Value.string (ByteArray.mk #[112]), Value.int IntKind.i64 0, Value.int IntKind.i64 2, Value.int IntKind.i64 3, Value.slice Ao26 y178.length co26, Value.slice Ao25 y181.length co25, Value.bool false] 28))) (BK191 : Aside0 (w43.drew.heap[gb191]? = some (Obj.cells #[Value.string (ByteArray.mk #[110]), Value.int IntKind.i64 5, Value.int IntKind.i64 5, Value.slice Ao34 y185.length co34, Value.slice Ao33 y188.length co33, Value.bool false] 31))) (BK192 : Aside0 (w43.drew.heap[gb192]? = some (Obj.cells #[Value.string (ByteArray.mk #[112]), Value.int IntKind.i64 0, Value.int IntKind.i64 2, Value.int IntKind.i64 3, Value.slice Ao26 y178.length co26, Value.slice Ao25 y181.length co25, Value.bool true] 28))) (HB : Aside0 (Below w.heap.size w w43.drew)) (Kc0 : Act → World → Prop) (hKc0 : ∀ (a_0 : Act) (w_0 : World), Code.wp Try.prog ((Try.f4.body.bind (fromRegion 8)).getD .skip) (bodyPost Try.prog Try.f4 fun e w' => e = Ending.returned (Value.bool (rd y220 t226 == rd y223 t226)) ∧ Below w.heap.size w w') a_0 w_0 → Kc0 a_0 w_0) :
    Code.wp Try.prog ((Try.f4.body.bind (regionAt 7)).getD .skip) (Exit.then Kc0 (bodyPost Try.prog Try.f4 fun e w' => e = Ending.returned (Value.bool (rd y220 t226 == rd y223 t226)) ∧ Below w.heap.size w w')) (Act.mk (List.toArray (Value.int IntKind.i64 a0 :: undef :: Value.bool false :: Value.pointer (some (Addr.mk gb184 0 none)) :: Value.pointer (some (Addr.mk gb191 0 none)) :: Value.pointer (some (Addr.mk gb192 0 none)) :: undef :: undef :: undef :: undef :: undef :: undef :: undef :: undef :: Value.bool true :: Value.bool false :: Value.agg #[Value.int IntKind.i64 2, Value.int IntKind.i64 3] :: Value.slice Ao26 y178.length co26 :: Value.slice Ao25 y181.length co25 :: Value.agg #[Value.string (ByteArray.mk #[112]), Value.int IntKind.i64 0, Value.int IntKind.i64 2, Value.int IntKind.i64 3, Value.slice Ao26 y178.length co26, Value.slice Ao25 y181.length co25, Value.bool false] :: Value.agg #[Value.int IntKind.i64 5, Value.int IntKind.i64 5] :: Value.slice Ao34 y185.length co34 :: Value.slice Ao33 y188.length co33 :: Value.agg #[Value.string (ByteArray.mk #[110]), Value.int IntKind.i64 5, Value.int IntKind.i64 5, Value.slice Ao34 y185.length co34, Value.slice Ao33 y188.length co33, Value.bool false] :: Value.agg #[Value.string (ByteArray.mk #[112]), Value.int IntKind.i64 0, Value.int IntKind.i64 2, Value.int IntKind.i64 3, Value.slice Ao26 y178.length co26, Value.slice Ao25 y181.length co25, Value.bool false] :: Value.pointer (some (Addr.mk gb192 6 none)) :: undef :: undef :: undef :: undef :: undef :: undef :: undef :: undef :: undef :: undef :: undef :: undef :: undef :: undef :: undef :: undef :: undef :: undef :: undef :: undef :: undef :: undef :: undef :: undef :: undef :: undef :: undef :: undef :: undef :: undef :: undef :: undef :: undef :: undef :: undef :: undef :: undef :: undef :: undef :: undef :: undef :: undef :: undef :: undef :: undef :: undef :: undef :: undef :: undef :: undef :: undef :: undef :: undef :: undef :: undef :: undef :: undef :: undef :: undef :: undef :: undef :: undef :: undef :: undef :: undef :: undef :: undef :: undef :: undef :: undef :: undef :: undef :: undef :: undef :: undef :: undef :: undef :: undef :: undef :: undef :: undef :: undef :: undef :: undef :: undef :: undef :: [])) []) w43 := by
  have hu25 := Try.underlying25
  have hu28 := Try.underlying28
  have hu31 := Try.underlying31
  have hu41 := Try.underlying41
  conv => arg 2; whnf
  conv at hKc0 => enter [a_0, w_0, 1, 2]; whnf
  refine start_ (n := 9) (S := fun w' => w'.cell? ⟨gb191, 0, none⟩ = some (.string (⟨#[110]⟩ : ByteArray)) ∧ w'.cell? ⟨gb191, 1, none⟩ = some (.int .i64 5) ∧ w'.cell? ⟨gb191, 2, none⟩ = some (.int .i64 5) ∧ w'.cell? ⟨gb191, 3, none⟩ = some (.slice Ao34 y185.length co34) ∧ w'.cell? ⟨gb191, 4, none⟩ = some (.slice Ao33 y188.length co33) ∧ w'.cell? ⟨gb191, 5, none⟩ = some (.bool false)) (ds := []) #[false, false, false, false, false, false, false, false, false] (by kernel_rfl) rfl rfl ⟨(blk_cell BK191.out 0).trans rfl, (blk_cell BK191.out 1).trans rfl, (blk_cell BK191.out 2).trans rfl, (blk_cell BK191.out 3).trans rfl, (blk_cell BK191.out 4).trans rfl, (blk_cell BK191.out 5).trans rfl⟩ (fun hHeld => ?_); refine with_tabW joinerylaw5_FitKnown.tab7 joinerylaw5_FitKnown.bits7 (fun HT_ HW_ => ?_)
  generalize w43.drew = w44 at HO180 HO183 HO187 HO190 BK184 BK191 BK192 HB hHeld ⊢
  refine take_ (i := 0) (N := some 26) (v := ?_) (a' := ?_) #[true, false, false, false, false, false, false, false, false] rfl rfl (take_ofW HT_.out HW_.out (by kernel_rfl)) (fun _ _ _ h => h) (Or.inl ⟨by rfl, ?_⟩) hHeld ?_ ?_
  rotate_left
  · rintro w' ⟨s0, s1, s2, s3, s4, s5⟩
    go_simp
    with_reducible rfl
  rotate_left
  · simp only [Act.put, List.setIfInBounds_toArray, List.set_cons_zero, List.set_cons_succ, i64_w, i32_w]
    rfl
  refine take_ (i := 1) (N := some 27) (v := ?_) (a' := ?_) #[true, true, false, false, false, false, false, false, false] rfl rfl (take_ofW HT_.out HW_.out (by kernel_rfl)) (fun _ _ _ h => h) (Or.inl ⟨by rfl, ?_⟩) hHeld ?_ ?_
  rotate_left
  · rintro w' ⟨s0, s1, s2, s3, s4, s5⟩
    go_simp
    with_reducible rfl
  rotate_left
  · simp only [Act.put, List.setIfInBounds_toArray, List.set_cons_zero, List.set_cons_succ, i64_w, i32_w]
    rfl
  refine take_ (i := 2) (N := some 28) (v := ?_) (a' := ?_) #[true, true, true, false, false, false, false, false, false] rfl rfl (take_ofW HT_.out HW_.out (by kernel_rfl)) (fun _ _ _ h => h) (Or.inl ⟨by rfl, ?_⟩) hHeld ?_ ?_
  rotate_left
  · rintro w' ⟨s0, s1, s2, s3, s4, s5⟩
    go_simp
    with_reducible rfl
  rotate_left
  · simp only [Act.put, List.setIfInBounds_toArray, List.set_cons_zero, List.set_cons_succ, i64_w, i32_w]
    rfl
  refine join_ (σ := Nat × Nat × Nat) 3 #[true, true, true, true, true, true, false, false, false] (fun s_ => [(6, .pointer (some ⟨s_.1, 0, none⟩)), (7, .pointer (some ⟨s_.2.1, 0, none⟩)), (8, .pointer (some ⟨s_.2.2, 0, none⟩))]) (fun s_ w' => (w'.cell? ⟨gb191, 0, none⟩ = some (.string (⟨#[110]⟩ : ByteArray)) ∧ w'.cell? ⟨gb191, 1, none⟩ = some (.int .i64 5) ∧ w'.cell? ⟨gb191, 2, none⟩ = some (.int .i64 5) ∧ w'.cell? ⟨gb191, 3, none⟩ = some (.slice Ao34 y185.length co34) ∧ w'.cell? ⟨gb191, 4, none⟩ = some (.slice Ao33 y188.length co33) ∧ w'.cell? ⟨gb191, 5, none⟩ = some (.bool false)) ∧ (Kd.R Kd.string 9 w' w.heap.size (fun k_ => some k_ ≠ (.slice Ao25 y181.length co25 : Value).ownBlock ∧ some k_ ≠ (.slice Ao34 y185.length co34 : Value).ownBlock ∧ some k_ ≠ (.slice Ao33 y188.length co33 : Value).ownBlock) (.slice Ao26 y178.length co26) y178) ∧ (Kd.R Kd.string 9 w' w.heap.size (fun k_ => some k_ ≠ (.slice Ao26 y178.length co26 : Value).ownBlock ∧ some k_ ≠ (.slice Ao34 y185.length co34 : Value).ownBlock ∧ some k_ ≠ (.slice Ao33 y188.length co33 : Value).ownBlock) (.slice Ao25 y181.length co25) y181) ∧ (Kd.R Kd.string 9 w' w.heap.size (fun k_ => some k_ ≠ (.slice Ao26 y178.length co26 : Value).ownBlock ∧ some k_ ≠ (.slice Ao25 y181.length co25 : Value).ownBlock ∧ some k_ ≠ (.slice Ao33 y188.length co33 : Value).ownBlock) (.slice Ao34 y185.length co34) y185) ∧ (Kd.R Kd.string 9 w' w.heap.size (fun k_ => some k_ ≠ (.slice Ao26 y178.length co26 : Value).ownBlock ∧ some k_ ≠ (.slice Ao25 y181.length co25 : Value).ownBlock ∧ some k_ ≠ (.slice Ao34 y185.length co34 : Value).ownBlock) (.slice Ao33 y188.length co33) y188) ∧ (w'.heap[gb184]? = some (.cells #[.string (⟨#[112]⟩ : ByteArray), .int .i64 0, .int .i64 2, .int .i64 3, .slice Ao26 y178.length co26, .slice Ao25 y181.length co25, .bool false] 28 (0, 0))) ∧ (w'.heap[gb191]? = some (.cells #[.string (⟨#[110]⟩ : ByteArray), .int .i64 5, .int .i64 5, .slice Ao34 y185.length co34, .slice Ao33 y188.length co33, .bool false] 31 (0, 0))) ∧ (w'.heap[gb192]? = some (.cells #[.string (⟨#[112]⟩ : ByteArray), .int .i64 0, .int .i64 2, .int .i64 3, .slice Ao26 y178.length co26, .slice Ao25 y181.length co25, .bool true] 28 (0, 0))) ∧ (w'.heap[s_.1]? = some (.cells #[.string (⟨#[]⟩ : ByteArray), .int .i64 0, .int .i64 0, .slice none 0 0, .slice none 0 0, .bool false] 31 (0, 0))) ∧ (w'.heap[s_.2.1]? = some (.cells #[.string (⟨#[]⟩ : ByteArray), .int .i64 0, .int .i64 0, .slice none 0 0, .slice none 0 0, .bool false] 31 (0, 0))) ∧ (w'.heap[s_.2.2]? = some (.cells #[.string (⟨#[]⟩ : ByteArray), .int .i64 0, .int .i64 0, .slice none 0 0, .slice none 0 0, .bool false] 31 (0, 0))) ∧ (w.heap.size ≤ s_.1) ∧ (w.heap.size ≤ s_.1) ∧ (gb184 ≠ s_.1) ∧ (s_.1 ≠ gb184) ∧ (gb191 ≠ s_.1) ∧ (s_.1 ≠ gb191) ∧ (gb192 ≠ s_.1) ∧ (s_.1 ≠ gb192) ∧ (s_.2.1 ≠ s_.1) ∧ (s_.1 ≠ s_.2.1) ∧ (s_.2.2 ≠ s_.1) ∧ (s_.1 ≠ s_.2.2) ∧ (w.heap.size ≤ s_.2.1) ∧ (w.heap.size ≤ s_.2.1) ∧ (gb184 ≠ s_.2.1) ∧ (s_.2.1 ≠ gb184) ∧ (gb191 ≠ s_.2.1) ∧ (s_.2.1 ≠ gb191) ∧ (gb192 ≠ s_.2.1) ∧ (s_.2.1 ≠ gb192) ∧ (s_.2.2 ≠ s_.2.1) ∧ (s_.2.1 ≠ s_.2.2) ∧ (w.heap.size ≤ s_.2.2) ∧ (w.heap.size ≤ s_.2.2) ∧ (gb184 ≠ s_.2.2) ∧ (s_.2.2 ≠ gb184) ∧ (gb191 ≠ s_.2.2) ∧ (s_.2.2 ≠ gb191) ∧ (gb192 ≠ s_.2.2) ∧ (s_.2.2 ≠ gb192) ∧ (Below w.heap.size w w')) ?_ ?_
  rotate_left
  · intro hJ3_4_5
    refine join_ (σ := Nat × Nat) 4 #[true, true, true, true, true, false, false, false, false] (fun s_ => [(6, .pointer (some ⟨s_.1, 0, none⟩)), (7, .pointer (some ⟨s_.2, 0, none⟩))]) (fun s_ w' => (w'.cell? ⟨gb191, 0, none⟩ = some (.string (⟨#[110]⟩ : ByteArray)) ∧ w'.cell? ⟨gb191, 1, none⟩ = some (.int .i64 5) ∧ w'.cell? ⟨gb191, 2, none⟩ = some (.int .i64 5) ∧ w'.cell? ⟨gb191, 3, none⟩ = some (.slice Ao34 y185.length co34) ∧ w'.cell? ⟨gb191, 4, none⟩ = some (.slice Ao33 y188.length co33) ∧ w'.cell? ⟨gb191, 5, none⟩ = some (.bool false)) ∧ (Kd.R Kd.string 9 w' w.heap.size (fun k_ => some k_ ≠ (.slice Ao25 y181.length co25 : Value).ownBlock ∧ some k_ ≠ (.slice Ao34 y185.length co34 : Value).ownBlock ∧ some k_ ≠ (.slice Ao33 y188.length co33 : Value).ownBlock) (.slice Ao26 y178.length co26) y178) ∧ (Kd.R Kd.string 9 w' w.heap.size (fun k_ => some k_ ≠ (.slice Ao26 y178.length co26 : Value).ownBlock ∧ some k_ ≠ (.slice Ao34 y185.length co34 : Value).ownBlock ∧ some k_ ≠ (.slice Ao33 y188.length co33 : Value).ownBlock) (.slice Ao25 y181.length co25) y181) ∧ (Kd.R Kd.string 9 w' w.heap.size (fun k_ => some k_ ≠ (.slice Ao26 y178.length co26 : Value).ownBlock ∧ some k_ ≠ (.slice Ao25 y181.length co25 : Value).ownBlock ∧ some k_ ≠ (.slice Ao33 y188.length co33 : Value).ownBlock) (.slice Ao34 y185.length co34) y185) ∧ (Kd.R Kd.string 9 w' w.heap.size (fun k_ => some k_ ≠ (.slice Ao26 y178.length co26 : Value).ownBlock ∧ some k_ ≠ (.slice Ao25 y181.length co25 : Value).ownBlock ∧ some k_ ≠ (.slice Ao34 y185.length co34 : Value).ownBlock) (.slice Ao33 y188.length co33) y188) ∧ (w'.heap[gb184]? = some (.cells #[.string (⟨#[112]⟩ : ByteArray), .int .i64 0, .int .i64 2, .int .i64 3, .slice Ao26 y178.length co26, .slice Ao25 y181.length co25, .bool false] 28 (0, 0))) ∧ (w'.heap[gb191]? = some (.cells #[.string (⟨#[110]⟩ : ByteArray), .int .i64 5, .int .i64 5, .slice Ao34 y185.length co34, .slice Ao33 y188.length co33, .bool false] 31 (0, 0))) ∧ (w'.heap[gb192]? = some (.cells #[.string (⟨#[112]⟩ : ByteArray), .int .i64 0, .int .i64 2, .int .i64 3, .slice Ao26 y178.length co26, .slice Ao25 y181.length co25, .bool true] 28 (0, 0))) ∧ (w'.heap[s_.1]? = some (.cells #[.string (⟨#[]⟩ : ByteArray), .int .i64 0, .int .i64 0, .slice none 0 0, .slice none 0 0, .bool false] 31 (0, 0))) ∧ (w'.heap[s_.2]? = some (.cells #[.string (⟨#[]⟩ : ByteArray), .int .i64 0, .int .i64 0, .slice none 0 0, .slice none 0 0, .bool false] 31 (0, 0))) ∧ (w.heap.size ≤ s_.1) ∧ (w.heap.size ≤ s_.1) ∧ (gb184 ≠ s_.1) ∧ (s_.1 ≠ gb184) ∧ (gb191 ≠ s_.1) ∧ (s_.1 ≠ gb191) ∧ (gb192 ≠ s_.1) ∧ (s_.1 ≠ gb192) ∧ (s_.2 ≠ s_.1) ∧ (s_.1 ≠ s_.2) ∧ (w.heap.size ≤ s_.2) ∧ (w.heap.size ≤ s_.2) ∧ (gb184 ≠ s_.2) ∧ (s_.2 ≠ gb184) ∧ (gb191 ≠ s_.2) ∧ (s_.2 ≠ gb191) ∧ (gb192 ≠ s_.2) ∧ (s_.2 ≠ gb192) ∧ (Below w.heap.size w w')) ?_ ?_
    rotate_left
    · intro hJ3_4
      refine join_ (σ := Nat × Nat) 4 #[true, true, true, true, false, true, false, false, false] (fun s_ => [(6, .pointer (some ⟨s_.1, 0, none⟩)), (8, .pointer (some ⟨s_.2, 0, none⟩))]) (fun s_ w' => (w'.cell? ⟨gb191, 0, none⟩ = some (.string (⟨#[110]⟩ : ByteArray)) ∧ w'.cell? ⟨gb191, 1, none⟩ = some (.int .i64 5) ∧ w'.cell? ⟨gb191, 2, none⟩ = some (.int .i64 5) ∧ w'.cell? ⟨gb191, 3, none⟩ = some (.slice Ao34 y185.length co34) ∧ w'.cell? ⟨gb191, 4, none⟩ = some (.slice Ao33 y188.length co33) ∧ w'.cell? ⟨gb191, 5, none⟩ = some (.bool false)) ∧ (Kd.R Kd.string 9 w' w.heap.size (fun k_ => some k_ ≠ (.slice Ao25 y181.length co25 : Value).ownBlock ∧ some k_ ≠ (.slice Ao34 y185.length co34 : Value).ownBlock ∧ some k_ ≠ (.slice Ao33 y188.length co33 : Value).ownBlock) (.slice Ao26 y178.length co26) y178) ∧ (Kd.R Kd.string 9 w' w.heap.size (fun k_ => some k_ ≠ (.slice Ao26 y178.length co26 : Value).ownBlock ∧ some k_ ≠ (.slice Ao34 y185.length co34 : Value).ownBlock ∧ some k_ ≠ (.slice Ao33 y188.length co33 : Value).ownBlock) (.slice Ao25 y181.length co25) y181) ∧ (Kd.R Kd.string 9 w' w.heap.size (fun k_ => some k_ ≠ (.slice Ao26 y178.length co26 : Value).ownBlock ∧ some k_ ≠ (.slice Ao25 y181.length co25 : Value).ownBlock ∧ some k_ ≠ (.slice Ao33 y188.length co33 : Value).ownBlock) (.slice Ao34 y185.length co34) y185) ∧ (Kd.R Kd.string 9 w' w.heap.size (fun k_ => some k_ ≠ (.slice Ao26 y178.length co26 : Value).ownBlock ∧ some k_ ≠ (.slice Ao25 y181.length co25 : Value).ownBlock ∧ some k_ ≠ (.slice Ao34 y185.length co34 : Value).ownBlock) (.slice Ao33 y188.length co33) y188) ∧ (w'.heap[gb184]? = some (.cells #[.string (⟨#[112]⟩ : ByteArray), .int .i64 0, .int .i64 2, .int .i64 3, .slice Ao26 y178.length co26, .slice Ao25 y181.length co25, .bool false] 28 (0, 0))) ∧ (w'.heap[gb191]? = some (.cells #[.string (⟨#[110]⟩ : ByteArray), .int .i64 5, .int .i64 5, .slice Ao34 y185.length co34, .slice Ao33 y188.length co33, .bool false] 31 (0, 0))) ∧ (w'.heap[gb192]? = some (.cells #[.string (⟨#[112]⟩ : ByteArray), .int .i64 0, .int .i64 2, .int .i64 3, .slice Ao26 y178.length co26, .slice Ao25 y181.length co25, .bool true] 28 (0, 0))) ∧ (w'.heap[s_.1]? = some (.cells #[.string (⟨#[]⟩ : ByteArray), .int .i64 0, .int .i64 0, .slice none 0 0, .slice none 0 0, .bool false] 31 (0, 0))) ∧ (w'.heap[s_.2]? = some (.cells #[.string (⟨#[]⟩ : ByteArray), .int .i64 0, .int .i64 0, .slice none 0 0, .slice none 0 0, .bool false] 31 (0, 0))) ∧ (w.heap.size ≤ s_.1) ∧ (w.heap.size ≤ s_.1) ∧ (gb184 ≠ s_.1) ∧ (s_.1 ≠ gb184) ∧ (gb191 ≠ s_.1) ∧ (s_.1 ≠ gb191) ∧ (gb192 ≠ s_.1) ∧ (s_.1 ≠ gb192) ∧ (s_.2 ≠ s_.1) ∧ (s_.1 ≠ s_.2) ∧ (w.heap.size ≤ s_.2) ∧ (w.heap.size ≤ s_.2) ∧ (gb184 ≠ s_.2) ∧ (s_.2 ≠ gb184) ∧ (gb191 ≠ s_.2) ∧ (s_.2 ≠ gb191) ∧ (gb192 ≠ s_.2) ∧ (s_.2 ≠ gb192) ∧ (Below w.heap.size w w')) ?_ ?_
      rotate_left
      · intro hJ3_5
        refine join_ (σ := Nat × Nat) 4 #[true, true, true, false, true, true, false, false, false] (fun s_ => [(7, .pointer (some ⟨s_.1, 0, none⟩)), (8, .pointer (some ⟨s_.2, 0, none⟩))]) (fun s_ w' => (w'.cell? ⟨gb191, 0, none⟩ = some (.string (⟨#[110]⟩ : ByteArray)) ∧ w'.cell? ⟨gb191, 1, none⟩ = some (.int .i64 5) ∧ w'.cell? ⟨gb191, 2, none⟩ = some (.int .i64 5) ∧ w'.cell? ⟨gb191, 3, none⟩ = some (.slice Ao34 y185.length co34) ∧ w'.cell? ⟨gb191, 4, none⟩ = some (.slice Ao33 y188.length co33) ∧ w'.cell? ⟨gb191, 5, none⟩ = some (.bool false)) ∧ (Kd.R Kd.string 9 w' w.heap.size (fun k_ => some k_ ≠ (.slice Ao25 y181.length co25 : Value).ownBlock ∧ some k_ ≠ (.slice Ao34 y185.length co34 : Value).ownBlock ∧ some k_ ≠ (.slice Ao33 y188.length co33 : Value).ownBlock) (.slice Ao26 y178.length co26) y178) ∧ (Kd.R Kd.string 9 w' w.heap.size (fun k_ => some k_ ≠ (.slice Ao26 y178.length co26 : Value).ownBlock ∧ some k_ ≠ (.slice Ao34 y185.length co34 : Value).ownBlock ∧ some k_ ≠ (.slice Ao33 y188.length co33 : Value).ownBlock) (.slice Ao25 y181.length co25) y181) ∧ (Kd.R Kd.string 9 w' w.heap.size (fun k_ => some k_ ≠ (.slice Ao26 y178.length co26 : Value).ownBlock ∧ some k_ ≠ (.slice Ao25 y181.length co25 : Value).ownBlock ∧ some k_ ≠ (.slice Ao33 y188.length co33 : Value).ownBlock) (.slice Ao34 y185.length co34) y185) ∧ (Kd.R Kd.string 9 w' w.heap.size (fun k_ => some k_ ≠ (.slice Ao26 y178.length co26 : Value).ownBlock ∧ some k_ ≠ (.slice Ao25 y181.length co25 : Value).ownBlock ∧ some k_ ≠ (.slice Ao34 y185.length co34 : Value).ownBlock) (.slice Ao33 y188.length co33) y188) ∧ (w'.heap[gb184]? = some (.cells #[.string (⟨#[112]⟩ : ByteArray), .int .i64 0, .int .i64 2, .int .i64 3, .slice Ao26 y178.length co26, .slice Ao25 y181.length co25, .bool false] 28 (0, 0))) ∧ (w'.heap[gb191]? = some (.cells #[.string (⟨#[110]⟩ : ByteArray), .int .i64 5, .int .i64 5, .slice Ao34 y185.length co34, .slice Ao33 y188.length co33, .bool false] 31 (0, 0))) ∧ (w'.heap[gb192]? = some (.cells #[.string (⟨#[112]⟩ : ByteArray), .int .i64 0, .int .i64 2, .int .i64 3, .slice Ao26 y178.length co26, .slice Ao25 y181.length co25, .bool true] 28 (0, 0))) ∧ (w'.heap[s_.1]? = some (.cells #[.string (⟨#[]⟩ : ByteArray), .int .i64 0, .int .i64 0, .slice none 0 0, .slice none 0 0, .bool false] 31 (0, 0))) ∧ (w'.heap[s_.2]? = some (.cells #[.string (⟨#[]⟩ : ByteArray), .int .i64 0, .int .i64 0, .slice none 0 0, .slice none 0 0, .bool false] 31 (0, 0))) ∧ (w.heap.size ≤ s_.1) ∧ (w.heap.size ≤ s_.1) ∧ (gb184 ≠ s_.1) ∧ (s_.1 ≠ gb184) ∧ (gb191 ≠ s_.1) ∧ (s_.1 ≠ gb191) ∧ (gb192 ≠ s_.1) ∧ (s_.1 ≠ gb192) ∧ (s_.2 ≠ s_.1) ∧ (s_.1 ≠ s_.2) ∧ (w.heap.size ≤ s_.2) ∧ (w.heap.size ≤ s_.2) ∧ (gb184 ≠ s_.2) ∧ (s_.2 ≠ gb184) ∧ (gb191 ≠ s_.2) ∧ (s_.2 ≠ gb191) ∧ (gb192 ≠ s_.2) ∧ (s_.2 ≠ gb192) ∧ (Below w.heap.size w w')) ?_ ?_
        rotate_left
        · intro hJ4_5
          refine join_ (σ := Nat) 5 #[true, true, true, true, false, false, false, false, false] (fun s_ => [(6, .pointer (some ⟨s_, 0, none⟩))]) (fun s_ w' => (w'.cell? ⟨gb191, 0, none⟩ = some (.string (⟨#[110]⟩ : ByteArray)) ∧ w'.cell? ⟨gb191, 1, none⟩ = some (.int .i64 5) ∧ w'.cell? ⟨gb191, 2, none⟩ = some (.int .i64 5) ∧ w'.cell? ⟨gb191, 3, none⟩ = some (.slice Ao34 y185.length co34) ∧ w'.cell? ⟨gb191, 4, none⟩ = some (.slice Ao33 y188.length co33) ∧ w'.cell? ⟨gb191, 5, none⟩ = some (.bool false)) ∧ (Kd.R Kd.string 9 w' w.heap.size (fun k_ => some k_ ≠ (.slice Ao25 y181.length co25 : Value).ownBlock ∧ some k_ ≠ (.slice Ao34 y185.length co34 : Value).ownBlock ∧ some k_ ≠ (.slice Ao33 y188.length co33 : Value).ownBlock) (.slice Ao26 y178.length co26) y178) ∧ (Kd.R Kd.string 9 w' w.heap.size (fun k_ => some k_ ≠ (.slice Ao26 y178.length co26 : Value).ownBlock ∧ some k_ ≠ (.slice Ao34 y185.length co34 : Value).ownBlock ∧ some k_ ≠ (.slice Ao33 y188.length co33 : Value).ownBlock) (.slice Ao25 y181.length co25) y181) ∧ (Kd.R Kd.string 9 w' w.heap.size (fun k_ => some k_ ≠ (.slice Ao26 y178.length co26 : Value).ownBlock ∧ some k_ ≠ (.slice Ao25 y181.length co25 : Value).ownBlock ∧ some k_ ≠ (.slice Ao33 y188.length co33 : Value).ownBlock) (.slice Ao34 y185.length co34) y185) ∧ (Kd.R Kd.string 9 w' w.heap.size (fun k_ => some k_ ≠ (.slice Ao26 y178.length co26 : Value).ownBlock ∧ some k_ ≠ (.slice Ao25 y181.length co25 : Value).ownBlock ∧ some k_ ≠ (.slice Ao34 y185.length co34 : Value).ownBlock) (.slice Ao33 y188.length co33) y188) ∧ (w'.heap[gb184]? = some (.cells #[.string (⟨#[112]⟩ : ByteArray), .int .i64 0, .int .i64 2, .int .i64 3, .slice Ao26 y178.length co26, .slice Ao25 y181.length co25, .bool false] 28 (0, 0))) ∧ (w'.heap[gb191]? = some (.cells #[.string (⟨#[110]⟩ : ByteArray), .int .i64 5, .int .i64 5, .slice Ao34 y185.length co34, .slice Ao33 y188.length co33, .bool false] 31 (0, 0))) ∧ (w'.heap[gb192]? = some (.cells #[.string (⟨#[112]⟩ : ByteArray), .int .i64 0, .int .i64 2, .int .i64 3, .slice Ao26 y178.length co26, .slice Ao25 y181.length co25, .bool true] 28 (0, 0))) ∧ (w'.heap[s_]? = some (.cells #[.string (⟨#[]⟩ : ByteArray), .int .i64 0, .int .i64 0, .slice none 0 0, .slice none 0 0, .bool false] 31 (0, 0))) ∧ (w.heap.size ≤ s_) ∧ (w.heap.size ≤ s_) ∧ (gb184 ≠ s_) ∧ (s_ ≠ gb184) ∧ (gb191 ≠ s_) ∧ (s_ ≠ gb191) ∧ (gb192 ≠ s_) ∧ (s_ ≠ gb192) ∧ (Below w.heap.size w w')) ?_ ?_
          rotate_left
          · intro hJ3
            refine join_ (σ := Nat) 5 #[true, true, true, false, true, false, false, false, false] (fun s_ => [(7, .pointer (some ⟨s_, 0, none⟩))]) (fun s_ w' => (w'.cell? ⟨gb191, 0, none⟩ = some (.string (⟨#[110]⟩ : ByteArray)) ∧ w'.cell? ⟨gb191, 1, none⟩ = some (.int .i64 5) ∧ w'.cell? ⟨gb191, 2, none⟩ = some (.int .i64 5) ∧ w'.cell? ⟨gb191, 3, none⟩ = some (.slice Ao34 y185.length co34) ∧ w'.cell? ⟨gb191, 4, none⟩ = some (.slice Ao33 y188.length co33) ∧ w'.cell? ⟨gb191, 5, none⟩ = some (.bool false)) ∧ (Kd.R Kd.string 9 w' w.heap.size (fun k_ => some k_ ≠ (.slice Ao25 y181.length co25 : Value).ownBlock ∧ some k_ ≠ (.slice Ao34 y185.length co34 : Value).ownBlock ∧ some k_ ≠ (.slice Ao33 y188.length co33 : Value).ownBlock) (.slice Ao26 y178.length co26) y178) ∧ (Kd.R Kd.string 9 w' w.heap.size (fun k_ => some k_ ≠ (.slice Ao26 y178.length co26 : Value).ownBlock ∧ some k_ ≠ (.slice Ao34 y185.length co34 : Value).ownBlock ∧ some k_ ≠ (.slice Ao33 y188.length co33 : Value).ownBlock) (.slice Ao25 y181.length co25) y181) ∧ (Kd.R Kd.string 9 w' w.heap.size (fun k_ => some k_ ≠ (.slice Ao26 y178.length co26 : Value).ownBlock ∧ some k_ ≠ (.slice Ao25 y181.length co25 : Value).ownBlock ∧ some k_ ≠ (.slice Ao33 y188.length co33 : Value).ownBlock) (.slice Ao34 y185.length co34) y185) ∧ (Kd.R Kd.string 9 w' w.heap.size (fun k_ => some k_ ≠ (.slice Ao26 y178.length co26 : Value).ownBlock ∧ some k_ ≠ (.slice Ao25 y181.length co25 : Value).ownBlock ∧ some k_ ≠ (.slice Ao34 y185.length co34 : Value).ownBlock) (.slice Ao33 y188.length co33) y188) ∧ (w'.heap[gb184]? = some (.cells #[.string (⟨#[112]⟩ : ByteArray), .int .i64 0, .int .i64 2, .int .i64 3, .slice Ao26 y178.length co26, .slice Ao25 y181.length co25, .bool false] 28 (0, 0))) ∧ (w'.heap[gb191]? = some (.cells #[.string (⟨#[110]⟩ : ByteArray), .int .i64 5, .int .i64 5, .slice Ao34 y185.length co34, .slice Ao33 y188.length co33, .bool false] 31 (0, 0))) ∧ (w'.heap[gb192]? = some (.cells #[.string (⟨#[112]⟩ : ByteArray), .int .i64 0, .int .i64 2, .int .i64 3, .slice Ao26 y178.length co26, .slice Ao25 y181.length co25, .bool true] 28 (0, 0))) ∧ (w'.heap[s_]? = some (.cells #[.string (⟨#[]⟩ : ByteArray), .int .i64 0, .int .i64 0, .slice none 0 0, .slice none 0 0, .bool false] 31 (0, 0))) ∧ (w.heap.size ≤ s_) ∧ (w.heap.size ≤ s_) ∧ (gb184 ≠ s_) ∧ (s_ ≠ gb184) ∧ (gb191 ≠ s_) ∧ (s_ ≠ gb191) ∧ (gb192 ≠ s_) ∧ (s_ ≠ gb192) ∧ (Below w.heap.size w w')) ?_ ?_
            rotate_left
            · intro hJ4
              refine join_ (σ := Nat) 5 #[true, true, true, false, false, true, false, false, false] (fun s_ => [(8, .pointer (some ⟨s_, 0, none⟩))]) (fun s_ w' => (w'.cell? ⟨gb191, 0, none⟩ = some (.string (⟨#[110]⟩ : ByteArray)) ∧ w'.cell? ⟨gb191, 1, none⟩ = some (.int .i64 5) ∧ w'.cell? ⟨gb191, 2, none⟩ = some (.int .i64 5) ∧ w'.cell? ⟨gb191, 3, none⟩ = some (.slice Ao34 y185.length co34) ∧ w'.cell? ⟨gb191, 4, none⟩ = some (.slice Ao33 y188.length co33) ∧ w'.cell? ⟨gb191, 5, none⟩ = some (.bool false)) ∧ (Kd.R Kd.string 9 w' w.heap.size (fun k_ => some k_ ≠ (.slice Ao25 y181.length co25 : Value).ownBlock ∧ some k_ ≠ (.slice Ao34 y185.length co34 : Value).ownBlock ∧ some k_ ≠ (.slice Ao33 y188.length co33 : Value).ownBlock) (.slice Ao26 y178.length co26) y178) ∧ (Kd.R Kd.string 9 w' w.heap.size (fun k_ => some k_ ≠ (.slice Ao26 y178.length co26 : Value).ownBlock ∧ some k_ ≠ (.slice Ao34 y185.length co34 : Value).ownBlock ∧ some k_ ≠ (.slice Ao33 y188.length co33 : Value).ownBlock) (.slice Ao25 y181.length co25) y181) ∧ (Kd.R Kd.string 9 w' w.heap.size (fun k_ => some k_ ≠ (.slice Ao26 y178.length co26 : Value).ownBlock ∧ some k_ ≠ (.slice Ao25 y181.length co25 : Value).ownBlock ∧ some k_ ≠ (.slice Ao33 y188.length co33 : Value).ownBlock) (.slice Ao34 y185.length co34) y185) ∧ (Kd.R Kd.string 9 w' w.heap.size (fun k_ => some k_ ≠ (.slice Ao26 y178.length co26 : Value).ownBlock ∧ some k_ ≠ (.slice Ao25 y181.length co25 : Value).ownBlock ∧ some k_ ≠ (.slice Ao34 y185.length co34 : Value).ownBlock) (.slice Ao33 y188.length co33) y188) ∧ (w'.heap[gb184]? = some (.cells #[.string (⟨#[112]⟩ : ByteArray), .int .i64 0, .int .i64 2, .int .i64 3, .slice Ao26 y178.length co26, .slice Ao25 y181.length co25, .bool false] 28 (0, 0))) ∧ (w'.heap[gb191]? = some (.cells #[.string (⟨#[110]⟩ : ByteArray), .int .i64 5, .int .i64 5, .slice Ao34 y185.length co34, .slice Ao33 y188.length co33, .bool false] 31 (0, 0))) ∧ (w'.heap[gb192]? = some (.cells #[.string (⟨#[112]⟩ : ByteArray), .int .i64 0, .int .i64 2, .int .i64 3, .slice Ao26 y178.length co26, .slice Ao25 y181.length co25, .bool true] 28 (0, 0))) ∧ (w'.heap[s_]? = some (.cells #[.string (⟨#[]⟩ : ByteArray), .int .i64 0, .int .i64 0, .slice none 0 0, .slice none 0 0, .bool false] 31 (0, 0))) ∧ (w.heap.size ≤ s_) ∧ (w.heap.size ≤ s_) ∧ (gb184 ≠ s_) ∧ (s_ ≠ gb184) ∧ (gb191 ≠ s_) ∧ (s_ ≠ gb191) ∧ (gb192 ≠ s_) ∧ (s_ ≠ gb192) ∧ (Below w.heap.size w w')) ?_ ?_
              rotate_left
              · intro hJ5
                refine three_ (i := 3) (j := 4) (k := 5) (Ni := some 6) (Nj := some 7) (Nk := some 8) #[true, true, true, true, false, false, false, false, false] #[true, true, true, false, true, false, false, false, false] #[true, true, true, false, false, true, false, false, false] rfl rfl rfl rfl rfl rfl (three_of HT_.out (by kernel_rfl)) (by decide) (by decide) (by decide) (fun K hK => ?_) (fun K hK => ?_) (fun K hK => ?_)
                · skip
                  refine box_step ?hg (N := 6) ?hd (cs := #[.string (⟨#[]⟩ : ByteArray), .int .i64 0, .int .i64 0, .slice none 0 0, .slice none 0 0, .bool false]) (t := 31) ?hr ?_; (case hd => rfl); (case hg => rfl); (case hr => first | (go_simp; done) | (go_simp; rfl))
                  intro gb193 hg w45 hbox hb
                  have n0_ := Aside0.mk (Kd.R_below (by (with_reducible repeat (first | apply Kd.R_alloc | apply Kd.R_drewN | apply Kd.R_drew)); exact HO180.out) hb)
                  have n1_ := Aside0.mk (Kd.R_below (by (with_reducible repeat (first | apply Kd.R_alloc | apply Kd.R_drewN | apply Kd.R_drew)); exact HO183.out) hb)
                  have n2_ := Aside0.mk (Kd.R_below (by (with_reducible repeat (first | apply Kd.R_alloc | apply Kd.R_drewN | apply Kd.R_drew)); exact HO187.out) hb)
                  have n3_ := Aside0.mk (Kd.R_below (by (with_reducible repeat (first | apply Kd.R_alloc | apply Kd.R_drewN | apply Kd.R_drew)); exact HO190.out) hb)
                  have n4_ := Aside0.mk (blk_below (g := gb184) (o := .cells #[.string (⟨#[112]⟩ : ByteArray), .int .i64 0, .int .i64 2, .int .i64 3, .slice Ao26 y178.length co26, .slice Ao25 y181.length co25, .bool false] 28 (0, 0)) (by (with_reducible repeat (first | refine blk_drewN ?_ _ | refine blk_drew ?_ | refine blk_alloc ?_ _)); exact BK184.out) hb)
                  have n5_ := Aside0.mk (blk_below (g := gb191) (o := .cells #[.string (⟨#[110]⟩ : ByteArray), .int .i64 5, .int .i64 5, .slice Ao34 y185.length co34, .slice Ao33 y188.length co33, .bool false] 31 (0, 0)) (by (with_reducible repeat (first | refine blk_drewN ?_ _ | refine blk_drew ?_ | refine blk_alloc ?_ _)); exact BK191.out) hb)
                  have n6_ := Aside0.mk (blk_below (g := gb192) (o := .cells #[.string (⟨#[112]⟩ : ByteArray), .int .i64 0, .int .i64 2, .int .i64 3, .slice Ao26 y178.length co26, .slice Ao25 y181.length co25, .bool true] 28 (0, 0)) (by (with_reducible repeat (first | refine blk_drewN ?_ _ | refine blk_drew ?_ | refine blk_alloc ?_ _)); exact BK192.out) hb)
                  have n7_ := Aside0.mk (below_step (by repeat (first | (with_reducible first | exact HB.out | apply below_alloc | apply pw_below_drewN | apply below_drew1 | refine below_set ?_ GE184.out | refine below_set ?_ GE191.out | refine below_set ?_ GE192.out) | exact HB.out)) hb)
                  have n8_ := Aside0.mk (hbox)
                  have n9_ := Aside0.mk ((by rw [hg]; exact (below_size (by repeat (first | (with_reducible first | exact HB.out | apply below_alloc | apply pw_below_drewN | apply below_drew1 | refine below_set ?_ GE184.out | refine below_set ?_ GE191.out | refine below_set ?_ GE192.out) | exact HB.out))) : w.heap.size ≤ gb193))
                  have n10_ := Aside0.mk ((by rw [hg]; exact (below_size (by repeat (first | (with_reducible first | exact HB.out | apply below_alloc | apply pw_below_drewN | apply below_drew1 | refine below_set ?_ GE184.out | refine below_set ?_ GE191.out | refine below_set ?_ GE192.out) | exact HB.out))) : w.heap.size ≤ gb193))
                  have n11_ := Aside0.mk ((by rw [hg]; exact Nat.ne_of_lt (blk_lt (g := gb184) (o := .cells #[.string (⟨#[112]⟩ : ByteArray), .int .i64 0, .int .i64 2, .int .i64 3, .slice Ao26 y178.length co26, .slice Ao25 y181.length co25, .bool false] 28 (0, 0)) (by (with_reducible repeat (first | refine blk_drewN ?_ _ | refine blk_drew ?_ | refine blk_alloc ?_ _)); exact BK184.out)) : gb184 ≠ gb193))
                  have n12_ := Aside0.mk ((by rw [hg]; exact Nat.ne_of_gt (blk_lt (g := gb184) (o := .cells #[.string (⟨#[112]⟩ : ByteArray), .int .i64 0, .int .i64 2, .int .i64 3, .slice Ao26 y178.length co26, .slice Ao25 y181.length co25, .bool false] 28 (0, 0)) (by (with_reducible repeat (first | refine blk_drewN ?_ _ | refine blk_drew ?_ | refine blk_alloc ?_ _)); exact BK184.out)) : gb193 ≠ gb184))
                  have n13_ := Aside0.mk ((by rw [hg]; exact Nat.ne_of_lt (blk_lt (g := gb191) (o := .cells #[.string (⟨#[110]⟩ : ByteArray), .int .i64 5, .int .i64 5, .slice Ao34 y185.length co34, .slice Ao33 y188.length co33, .bool false] 31 (0, 0)) (by (with_reducible repeat (first | refine blk_drewN ?_ _ | refine blk_drew ?_ | refine blk_alloc ?_ _)); exact BK191.out)) : gb191 ≠ gb193))
                  have n14_ := Aside0.mk ((by rw [hg]; exact Nat.ne_of_gt (blk_lt (g := gb191) (o := .cells #[.string (⟨#[110]⟩ : ByteArray), .int .i64 5, .int .i64 5, .slice Ao34 y185.length co34, .slice Ao33 y188.length co33, .bool false] 31 (0, 0)) (by (with_reducible repeat (first | refine blk_drewN ?_ _ | refine blk_drew ?_ | refine blk_alloc ?_ _)); exact BK191.out)) : gb193 ≠ gb191))
                  have n15_ := Aside0.mk ((by rw [hg]; exact Nat.ne_of_lt (blk_lt (g := gb192) (o := .cells #[.string (⟨#[112]⟩ : ByteArray), .int .i64 0, .int .i64 2, .int .i64 3, .slice Ao26 y178.length co26, .slice Ao25 y181.length co25, .bool true] 28 (0, 0)) (by (with_reducible repeat (first | refine blk_drewN ?_ _ | refine blk_drew ?_ | refine blk_alloc ?_ _)); exact BK192.out)) : gb192 ≠ gb193))
                  have n16_ := Aside0.mk ((by rw [hg]; exact Nat.ne_of_gt (blk_lt (g := gb192) (o := .cells #[.string (⟨#[112]⟩ : ByteArray), .int .i64 0, .int .i64 2, .int .i64 3, .slice Ao26 y178.length co26, .slice Ao25 y181.length co25, .bool true] 28 (0, 0)) (by (with_reducible repeat (first | refine blk_drewN ?_ _ | refine blk_drew ?_ | refine blk_alloc ?_ _)); exact BK192.out)) : gb193 ≠ gb192))
                  clear HO180
                  clear HO183
                  clear HO187
                  clear HO190
                  clear BK184
                  clear BK191
                  clear BK192
                  clear HB
                  have HO180 := n0_
                  have HO183 := n1_
                  have HO187 := n2_
                  have HO190 := n3_
                  have BK184 := n4_
                  have BK191 := n5_
                  have BK192 := n6_
                  have HB := n7_
                  have BK193 := n8_
                  have GW193 := n9_
                  have GE193 := n10_
                  have NB184_193 := n11_
                  have NB193_184 := n12_
                  have NB191_193 := n13_
                  have NB193_191 := n14_
                  have NB192_193 := n15_
                  have NB193_192 := n16_
                  clear n0_ n1_ n2_ n3_ n4_ n5_ n6_ n7_ n8_ n9_ n10_ n11_ n12_ n13_ n14_ n15_ n16_
                  clear hb hbox hg
                  refine hK.out _ _ ⟨(blk_cell BK191.out 0).trans rfl, (blk_cell BK191.out 1).trans rfl, (blk_cell BK191.out 2).trans rfl, (blk_cell BK191.out 3).trans rfl, (blk_cell BK191.out 4).trans rfl, (blk_cell BK191.out 5).trans rfl⟩ (fun hHeld => ?_)
                  clear hK K
                  refine norm_ (a' := ?_) ?_ ?_
                  rotate_left
                  · show Act.put _ (some 6) _ = _
                    simp only [Act.put, List.setIfInBounds_toArray, List.set_cons_zero, List.set_cons_succ, i64_w, i32_w]
                    rfl
                  exact norm_ (by first | (simp only [putAll, Act.put, List.setIfInBounds_toArray, List.set_cons_zero, List.set_cons_succ]; done) | (simp only [putAll, Act.put, List.setIfInBounds_toArray, List.set_cons_zero, List.set_cons_succ]; rfl)) (hJ3 (gb193) _ ⟨hHeld, (by (with_reducible repeat (first | apply Kd.R_alloc | apply Kd.R_drewN | apply Kd.R_drew)); exact HO180.out), (by (with_reducible repeat (first | apply Kd.R_alloc | apply Kd.R_drewN | apply Kd.R_drew)); exact HO183.out), (by (with_reducible repeat (first | apply Kd.R_alloc | apply Kd.R_drewN | apply Kd.R_drew)); exact HO187.out), (by (with_reducible repeat (first | apply Kd.R_alloc | apply Kd.R_drewN | apply Kd.R_drew)); exact HO190.out), (by (with_reducible repeat (first | refine blk_drewN ?_ _ | refine blk_drew ?_ | refine blk_alloc ?_ _)); exact BK184.out), (by (with_reducible repeat (first | refine blk_drewN ?_ _ | refine blk_drew ?_ | refine blk_alloc ?_ _)); exact BK191.out), (by (with_reducible repeat (first | refine blk_drewN ?_ _ | refine blk_drew ?_ | refine blk_alloc ?_ _)); exact BK192.out), (by (with_reducible repeat (first | refine blk_drewN ?_ _ | refine blk_drew ?_ | refine blk_alloc ?_ _)); exact BK193.out), GW193.out, GE193.out, NB184_193.out, NB193_184.out, NB191_193.out, NB193_191.out, NB192_193.out, NB193_192.out, (by repeat (first | (with_reducible first | exact HB.out | apply below_alloc | apply pw_below_drewN | apply below_drew1 | refine below_set ?_ GE184.out | refine below_set ?_ GE191.out | refine below_set ?_ GE192.out | refine below_set ?_ GE193.out) | exact HB.out))⟩)
                · skip
                  refine box_step ?hg (N := 7) ?hd (cs := #[.string (⟨#[]⟩ : ByteArray), .int .i64 0, .int .i64 0, .slice none 0 0, .slice none 0 0, .bool false]) (t := 31) ?hr ?_; (case hd => rfl); (case hg => rfl); (case hr => first | (go_simp; done) | (go_simp; rfl))
                  intro gb194 hg w45 hbox hb
                  have n0_ := Aside0.mk (Kd.R_below (by (with_reducible repeat (first | apply Kd.R_alloc | apply Kd.R_drewN | apply Kd.R_drew)); exact HO180.out) hb)
                  have n1_ := Aside0.mk (Kd.R_below (by (with_reducible repeat (first | apply Kd.R_alloc | apply Kd.R_drewN | apply Kd.R_drew)); exact HO183.out) hb)
                  have n2_ := Aside0.mk (Kd.R_below (by (with_reducible repeat (first | apply Kd.R_alloc | apply Kd.R_drewN | apply Kd.R_drew)); exact HO187.out) hb)
                  have n3_ := Aside0.mk (Kd.R_below (by (with_reducible repeat (first | apply Kd.R_alloc | apply Kd.R_drewN | apply Kd.R_drew)); exact HO190.out) hb)
                  have n4_ := Aside0.mk (blk_below (g := gb184) (o := .cells #[.string (⟨#[112]⟩ : ByteArray), .int .i64 0, .int .i64 2, .int .i64 3, .slice Ao26 y178.length co26, .slice Ao25 y181.length co25, .bool false] 28 (0, 0)) (by (with_reducible repeat (first | refine blk_drewN ?_ _ | refine blk_drew ?_ | refine blk_alloc ?_ _)); exact BK184.out) hb)
                  have n5_ := Aside0.mk (blk_below (g := gb191) (o := .cells #[.string (⟨#[110]⟩ : ByteArray), .int .i64 5, .int .i64 5, .slice Ao34 y185.length co34, .slice Ao33 y188.length co33, .bool false] 31 (0, 0)) (by (with_reducible repeat (first | refine blk_drewN ?_ _ | refine blk_drew ?_ | refine blk_alloc ?_ _)); exact BK191.out) hb)
                  have n6_ := Aside0.mk (blk_below (g := gb192) (o := .cells #[.string (⟨#[112]⟩ : ByteArray), .int .i64 0, .int .i64 2, .int .i64 3, .slice Ao26 y178.length co26, .slice Ao25 y181.length co25, .bool true] 28 (0, 0)) (by (with_reducible repeat (first | refine blk_drewN ?_ _ | refine blk_drew ?_ | refine blk_alloc ?_ _)); exact BK192.out) hb)
                  have n7_ := Aside0.mk (below_step (by repeat (first | (with_reducible first | exact HB.out | apply below_alloc | apply pw_below_drewN | apply below_drew1 | refine below_set ?_ GE184.out | refine below_set ?_ GE191.out | refine below_set ?_ GE192.out) | exact HB.out)) hb)
                  have n8_ := Aside0.mk (hbox)
                  have n9_ := Aside0.mk ((by rw [hg]; exact (below_size (by repeat (first | (with_reducible first | exact HB.out | apply below_alloc | apply pw_below_drewN | apply below_drew1 | refine below_set ?_ GE184.out | refine below_set ?_ GE191.out | refine below_set ?_ GE192.out) | exact HB.out))) : w.heap.size ≤ gb194))
                  have n10_ := Aside0.mk ((by rw [hg]; exact (below_size (by repeat (first | (with_reducible first | exact HB.out | apply below_alloc | apply pw_below_drewN | apply below_drew1 | refine below_set ?_ GE184.out | refine below_set ?_ GE191.out | refine below_set ?_ GE192.out) | exact HB.out))) : w.heap.size ≤ gb194))
                  have n11_ := Aside0.mk ((by rw [hg]; exact Nat.ne_of_lt (blk_lt (g := gb184) (o := .cells #[.string (⟨#[112]⟩ : ByteArray), .int .i64 0, .int .i64 2, .int .i64 3, .slice Ao26 y178.length co26, .slice Ao25 y181.length co25, .bool false] 28 (0, 0)) (by (with_reducible repeat (first | refine blk_drewN ?_ _ | refine blk_drew ?_ | refine blk_alloc ?_ _)); exact BK184.out)) : gb184 ≠ gb194))
                  have n12_ := Aside0.mk ((by rw [hg]; exact Nat.ne_of_gt (blk_lt (g := gb184) (o := .cells #[.string (⟨#[112]⟩ : ByteArray), .int .i64 0, .int .i64 2, .int .i64 3, .slice Ao26 y178.length co26, .slice Ao25 y181.length co25, .bool false] 28 (0, 0)) (by (with_reducible repeat (first | refine blk_drewN ?_ _ | refine blk_drew ?_ | refine blk_alloc ?_ _)); exact BK184.out)) : gb194 ≠ gb184))
                  have n13_ := Aside0.mk ((by rw [hg]; exact Nat.ne_of_lt (blk_lt (g := gb191) (o := .cells #[.string (⟨#[110]⟩ : ByteArray), .int .i64 5, .int .i64 5, .slice Ao34 y185.length co34, .slice Ao33 y188.length co33, .bool false] 31 (0, 0)) (by (with_reducible repeat (first | refine blk_drewN ?_ _ | refine blk_drew ?_ | refine blk_alloc ?_ _)); exact BK191.out)) : gb191 ≠ gb194))
                  have n14_ := Aside0.mk ((by rw [hg]; exact Nat.ne_of_gt (blk_lt (g := gb191) (o := .cells #[.string (⟨#[110]⟩ : ByteArray), .int .i64 5, .int .i64 5, .slice Ao34 y185.length co34, .slice Ao33 y188.length co33, .bool false] 31 (0, 0)) (by (with_reducible repeat (first | refine blk_drewN ?_ _ | refine blk_drew ?_ | refine blk_alloc ?_ _)); exact BK191.out)) : gb194 ≠ gb191))
                  have n15_ := Aside0.mk ((by rw [hg]; exact Nat.ne_of_lt (blk_lt (g := gb192) (o := .cells #[.string (⟨#[112]⟩ : ByteArray), .int .i64 0, .int .i64 2, .int .i64 3, .slice Ao26 y178.length co26, .slice Ao25 y181.length co25, .bool true] 28 (0, 0)) (by (with_reducible repeat (first | refine blk_drewN ?_ _ | refine blk_drew ?_ | refine blk_alloc ?_ _)); exact BK192.out)) : gb192 ≠ gb194))
                  have n16_ := Aside0.mk ((by rw [hg]; exact Nat.ne_of_gt (blk_lt (g := gb192) (o := .cells #[.string (⟨#[112]⟩ : ByteArray), .int .i64 0, .int .i64 2, .int .i64 3, .slice Ao26 y178.length co26, .slice Ao25 y181.length co25, .bool true] 28 (0, 0)) (by (with_reducible repeat (first | refine blk_drewN ?_ _ | refine blk_drew ?_ | refine blk_alloc ?_ _)); exact BK192.out)) : gb194 ≠ gb192))
                  clear HO180
                  clear HO183
                  clear HO187
                  clear HO190
                  clear BK184
                  clear BK191
                  clear BK192
                  clear HB
                  have HO180 := n0_
                  have HO183 := n1_
                  have HO187 := n2_
                  have HO190 := n3_
                  have BK184 := n4_
                  have BK191 := n5_
                  have BK192 := n6_
                  have HB := n7_
                  have BK194 := n8_
                  have GW194 := n9_
                  have GE194 := n10_
                  have NB184_194 := n11_
                  have NB194_184 := n12_
                  have NB191_194 := n13_
                  have NB194_191 := n14_
                  have NB192_194 := n15_
                  have NB194_192 := n16_
                  clear n0_ n1_ n2_ n3_ n4_ n5_ n6_ n7_ n8_ n9_ n10_ n11_ n12_ n13_ n14_ n15_ n16_
                  clear hb hbox hg
                  refine hK.out _ _ ⟨(blk_cell BK191.out 0).trans rfl, (blk_cell BK191.out 1).trans rfl, (blk_cell BK191.out 2).trans rfl, (blk_cell BK191.out 3).trans rfl, (blk_cell BK191.out 4).trans rfl, (blk_cell BK191.out 5).trans rfl⟩ (fun hHeld => ?_)
                  clear hK K
                  refine norm_ (a' := ?_) ?_ ?_
                  rotate_left
                  · show Act.put _ (some 7) _ = _
                    simp only [Act.put, List.setIfInBounds_toArray, List.set_cons_zero, List.set_cons_succ, i64_w, i32_w]
                    rfl
                  exact norm_ (by first | (simp only [putAll, Act.put, List.setIfInBounds_toArray, List.set_cons_zero, List.set_cons_succ]; done) | (simp only [putAll, Act.put, List.setIfInBounds_toArray, List.set_cons_zero, List.set_cons_succ]; rfl)) (hJ4 (gb194) _ ⟨hHeld, (by (with_reducible repeat (first | apply Kd.R_alloc | apply Kd.R_drewN | apply Kd.R_drew)); exact HO180.out), (by (with_reducible repeat (first | apply Kd.R_alloc | apply Kd.R_drewN | apply Kd.R_drew)); exact HO183.out), (by (with_reducible repeat (first | apply Kd.R_alloc | apply Kd.R_drewN | apply Kd.R_drew)); exact HO187.out), (by (with_reducible repeat (first | apply Kd.R_alloc | apply Kd.R_drewN | apply Kd.R_drew)); exact HO190.out), (by (with_reducible repeat (first | refine blk_drewN ?_ _ | refine blk_drew ?_ | refine blk_alloc ?_ _)); exact BK184.out), (by (with_reducible repeat (first | refine blk_drewN ?_ _ | refine blk_drew ?_ | refine blk_alloc ?_ _)); exact BK191.out), (by (with_reducible repeat (first | refine blk_drewN ?_ _ | refine blk_drew ?_ | refine blk_alloc ?_ _)); exact BK192.out), (by (with_reducible repeat (first | refine blk_drewN ?_ _ | refine blk_drew ?_ | refine blk_alloc ?_ _)); exact BK194.out), GW194.out, GE194.out, NB184_194.out, NB194_184.out, NB191_194.out, NB194_191.out, NB192_194.out, NB194_192.out, (by repeat (first | (with_reducible first | exact HB.out | apply below_alloc | apply pw_below_drewN | apply below_drew1 | refine below_set ?_ GE184.out | refine below_set ?_ GE191.out | refine below_set ?_ GE192.out | refine below_set ?_ GE194.out) | exact HB.out))⟩)
                · skip
                  refine box_step ?hg (N := 8) ?hd (cs := #[.string (⟨#[]⟩ : ByteArray), .int .i64 0, .int .i64 0, .slice none 0 0, .slice none 0 0, .bool false]) (t := 31) ?hr ?_; (case hd => rfl); (case hg => rfl); (case hr => first | (go_simp; done) | (go_simp; rfl))
                  intro gb195 hg w45 hbox hb
                  have n0_ := Aside0.mk (Kd.R_below (by (with_reducible repeat (first | apply Kd.R_alloc | apply Kd.R_drewN | apply Kd.R_drew)); exact HO180.out) hb)
                  have n1_ := Aside0.mk (Kd.R_below (by (with_reducible repeat (first | apply Kd.R_alloc | apply Kd.R_drewN | apply Kd.R_drew)); exact HO183.out) hb)
                  have n2_ := Aside0.mk (Kd.R_below (by (with_reducible repeat (first | apply Kd.R_alloc | apply Kd.R_drewN | apply Kd.R_drew)); exact HO187.out) hb)
                  have n3_ := Aside0.mk (Kd.R_below (by (with_reducible repeat (first | apply Kd.R_alloc | apply Kd.R_drewN | apply Kd.R_drew)); exact HO190.out) hb)
                  have n4_ := Aside0.mk (blk_below (g := gb184) (o := .cells #[.string (⟨#[112]⟩ : ByteArray), .int .i64 0, .int .i64 2, .int .i64 3, .slice Ao26 y178.length co26, .slice Ao25 y181.length co25, .bool false] 28 (0, 0)) (by (with_reducible repeat (first | refine blk_drewN ?_ _ | refine blk_drew ?_ | refine blk_alloc ?_ _)); exact BK184.out) hb)
                  have n5_ := Aside0.mk (blk_below (g := gb191) (o := .cells #[.string (⟨#[110]⟩ : ByteArray), .int .i64 5, .int .i64 5, .slice Ao34 y185.length co34, .slice Ao33 y188.length co33, .bool false] 31 (0, 0)) (by (with_reducible repeat (first | refine blk_drewN ?_ _ | refine blk_drew ?_ | refine blk_alloc ?_ _)); exact BK191.out) hb)
                  have n6_ := Aside0.mk (blk_below (g := gb192) (o := .cells #[.string (⟨#[112]⟩ : ByteArray), .int .i64 0, .int .i64 2, .int .i64 3, .slice Ao26 y178.length co26, .slice Ao25 y181.length co25, .bool true] 28 (0, 0)) (by (with_reducible repeat (first | refine blk_drewN ?_ _ | refine blk_drew ?_ | refine blk_alloc ?_ _)); exact BK192.out) hb)
                  have n7_ := Aside0.mk (below_step (by repeat (first | (with_reducible first | exact HB.out | apply below_alloc | apply pw_below_drewN | apply below_drew1 | refine below_set ?_ GE184.out | refine below_set ?_ GE191.out | refine below_set ?_ GE192.out) | exact HB.out)) hb)
                  have n8_ := Aside0.mk (hbox)
                  have n9_ := Aside0.mk ((by rw [hg]; exact (below_size (by repeat (first | (with_reducible first | exact HB.out | apply below_alloc | apply pw_below_drewN | apply below_drew1 | refine below_set ?_ GE184.out | refine below_set ?_ GE191.out | refine below_set ?_ GE192.out) | exact HB.out))) : w.heap.size ≤ gb195))
                  have n10_ := Aside0.mk ((by rw [hg]; exact (below_size (by repeat (first | (with_reducible first | exact HB.out | apply below_alloc | apply pw_below_drewN | apply below_drew1 | refine below_set ?_ GE184.out | refine below_set ?_ GE191.out | refine below_set ?_ GE192.out) | exact HB.out))) : w.heap.size ≤ gb195))
                  have n11_ := Aside0.mk ((by rw [hg]; exact Nat.ne_of_lt (blk_lt (g := gb184) (o := .cells #[.string (⟨#[112]⟩ : ByteArray), .int .i64 0, .int .i64 2, .int .i64 3, .slice Ao26 y178.length co26, .slice Ao25 y181.length co25, .bool false] 28 (0, 0)) (by (with_reducible repeat (first | refine blk_drewN ?_ _ | refine blk_drew ?_ | refine blk_alloc ?_ _)); exact BK184.out)) : gb184 ≠ gb195))
                  have n12_ := Aside0.mk ((by rw [hg]; exact Nat.ne_of_gt (blk_lt (g := gb184) (o := .cells #[.string (⟨#[112]⟩ : ByteArray), .int .i64 0, .int .i64 2, .int .i64 3, .slice Ao26 y178.length co26, .slice Ao25 y181.length co25, .bool false] 28 (0, 0)) (by (with_reducible repeat (first | refine blk_drewN ?_ _ | refine blk_drew ?_ | refine blk_alloc ?_ _)); exact BK184.out)) : gb195 ≠ gb184))
                  have n13_ := Aside0.mk ((by rw [hg]; exact Nat.ne_of_lt (blk_lt (g := gb191) (o := .cells #[.string (⟨#[110]⟩ : ByteArray), .int .i64 5, .int .i64 5, .slice Ao34 y185.length co34, .slice Ao33 y188.length co33, .bool false] 31 (0, 0)) (by (with_reducible repeat (first | refine blk_drewN ?_ _ | refine blk_drew ?_ | refine blk_alloc ?_ _)); exact BK191.out)) : gb191 ≠ gb195))
                  have n14_ := Aside0.mk ((by rw [hg]; exact Nat.ne_of_gt (blk_lt (g := gb191) (o := .cells #[.string (⟨#[110]⟩ : ByteArray), .int .i64 5, .int .i64 5, .slice Ao34 y185.length co34, .slice Ao33 y188.length co33, .bool false] 31 (0, 0)) (by (with_reducible repeat (first | refine blk_drewN ?_ _ | refine blk_drew ?_ | refine blk_alloc ?_ _)); exact BK191.out)) : gb195 ≠ gb191))
                  have n15_ := Aside0.mk ((by rw [hg]; exact Nat.ne_of_lt (blk_lt (g := gb192) (o := .cells #[.string (⟨#[112]⟩ : ByteArray), .int .i64 0, .int .i64 2, .int .i64 3, .slice Ao26 y178.length co26, .slice Ao25 y181.length co25, .bool true] 28 (0, 0)) (by (with_reducible repeat (first | refine blk_drewN ?_ _ | refine blk_drew ?_ | refine blk_alloc ?_ _)); exact BK192.out)) : gb192 ≠ gb195))
                  have n16_ := Aside0.mk ((by rw [hg]; exact Nat.ne_of_gt (blk_lt (g := gb192) (o := .cells #[.string (⟨#[112]⟩ : ByteArray), .int .i64 0, .int .i64 2, .int .i64 3, .slice Ao26 y178.length co26, .slice Ao25 y181.length co25, .bool true] 28 (0, 0)) (by (with_reducible repeat (first | refine blk_drewN ?_ _ | refine blk_drew ?_ | refine blk_alloc ?_ _)); exact BK192.out)) : gb195 ≠ gb192))
                  clear HO180
                  clear HO183
                  clear HO187
                  clear HO190
                  clear BK184
                  clear BK191
                  clear BK192
                  clear HB
                  have HO180 := n0_
                  have HO183 := n1_
                  have HO187 := n2_
                  have HO190 := n3_
                  have BK184 := n4_
                  have BK191 := n5_
                  have BK192 := n6_
                  have HB := n7_
                  have BK195 := n8_
                  have GW195 := n9_
                  have GE195 := n10_
                  have NB184_195 := n11_
                  have NB195_184 := n12_
                  have NB191_195 := n13_
                  have NB195_191 := n14_
                  have NB192_195 := n15_
                  have NB195_192 := n16_
                  clear n0_ n1_ n2_ n3_ n4_ n5_ n6_ n7_ n8_ n9_ n10_ n11_ n12_ n13_ n14_ n15_ n16_
                  clear hb hbox hg
                  refine hK.out _ _ ⟨(blk_cell BK191.out 0).trans rfl, (blk_cell BK191.out 1).trans rfl, (blk_cell BK191.out 2).trans rfl, (blk_cell BK191.out 3).trans rfl, (blk_cell BK191.out 4).trans rfl, (blk_cell BK191.out 5).trans rfl⟩ (fun hHeld => ?_)
                  clear hK K
                  refine norm_ (a' := ?_) ?_ ?_
                  rotate_left
                  · show Act.put _ (some 8) _ = _
                    simp only [Act.put, List.setIfInBounds_toArray, List.set_cons_zero, List.set_cons_succ, i64_w, i32_w]
                    rfl
                  exact norm_ (by first | (simp only [putAll, Act.put, List.setIfInBounds_toArray, List.set_cons_zero, List.set_cons_succ]; done) | (simp only [putAll, Act.put, List.setIfInBounds_toArray, List.set_cons_zero, List.set_cons_succ]; rfl)) (hJ5 (gb195) _ ⟨hHeld, (by (with_reducible repeat (first | apply Kd.R_alloc | apply Kd.R_drewN | apply Kd.R_drew)); exact HO180.out), (by (with_reducible repeat (first | apply Kd.R_alloc | apply Kd.R_drewN | apply Kd.R_drew)); exact HO183.out), (by (with_reducible repeat (first | apply Kd.R_alloc | apply Kd.R_drewN | apply Kd.R_drew)); exact HO187.out), (by (with_reducible repeat (first | apply Kd.R_alloc | apply Kd.R_drewN | apply Kd.R_drew)); exact HO190.out), (by (with_reducible repeat (first | refine blk_drewN ?_ _ | refine blk_drew ?_ | refine blk_alloc ?_ _)); exact BK184.out), (by (with_reducible repeat (first | refine blk_drewN ?_ _ | refine blk_drew ?_ | refine blk_alloc ?_ _)); exact BK191.out), (by (with_reducible repeat (first | refine blk_drewN ?_ _ | refine blk_drew ?_ | refine blk_alloc ?_ _)); exact BK192.out), (by (with_reducible repeat (first | refine blk_drewN ?_ _ | refine blk_drew ?_ | refine blk_alloc ?_ _)); exact BK195.out), GW195.out, GE195.out, NB184_195.out, NB195_184.out, NB191_195.out, NB195_191.out, NB192_195.out, NB195_192.out, (by repeat (first | (with_reducible first | exact HB.out | apply below_alloc | apply pw_below_drewN | apply below_drew1 | refine below_set ?_ GE184.out | refine below_set ?_ GE191.out | refine below_set ?_ GE192.out | refine below_set ?_ GE195.out) | exact HB.out))⟩)
              · skip
                rintro gb195 w46 ⟨hS_, h0_, h1_, h2_, h3_, h4_, h5_, h6_, h7_, h8_, h9_, h10_, h11_, h12_, h13_, h14_, h15_, h16_⟩
                have n0_ : Aside0 (Kd.R Kd.string 9 w46 w.heap.size (fun k_ => some k_ ≠ (.slice Ao25 y181.length co25 : Value).ownBlock ∧ some k_ ≠ (.slice Ao34 y185.length co34 : Value).ownBlock ∧ some k_ ≠ (.slice Ao33 y188.length co33 : Value).ownBlock) (.slice Ao26 y178.length co26) y178) := ⟨h0_⟩
                have n1_ : Aside0 (Kd.R Kd.string 9 w46 w.heap.size (fun k_ => some k_ ≠ (.slice Ao26 y178.length co26 : Value).ownBlock ∧ some k_ ≠ (.slice Ao34 y185.length co34 : Value).ownBlock ∧ some k_ ≠ (.slice Ao33 y188.length co33 : Value).ownBlock) (.slice Ao25 y181.length co25) y181) := ⟨h1_⟩
                have n2_ : Aside0 (Kd.R Kd.string 9 w46 w.heap.size (fun k_ => some k_ ≠ (.slice Ao26 y178.length co26 : Value).ownBlock ∧ some k_ ≠ (.slice Ao25 y181.length co25 : Value).ownBlock ∧ some k_ ≠ (.slice Ao33 y188.length co33 : Value).ownBlock) (.slice Ao34 y185.length co34) y185) := ⟨h2_⟩
                have n3_ : Aside0 (Kd.R Kd.string 9 w46 w.heap.size (fun k_ => some k_ ≠ (.slice Ao26 y178.length co26 : Value).ownBlock ∧ some k_ ≠ (.slice Ao25 y181.length co25 : Value).ownBlock ∧ some k_ ≠ (.slice Ao34 y185.length co34 : Value).ownBlock) (.slice Ao33 y188.length co33) y188) := ⟨h3_⟩
                have n4_ : Aside0 (w46.heap[gb184]? = some (.cells #[.string (⟨#[112]⟩ : ByteArray), .int .i64 0, .int .i64 2, .int .i64 3, .slice Ao26 y178.length co26, .slice Ao25 y181.length co25, .bool false] 28 (0, 0))) := ⟨h4_⟩
                have n5_ : Aside0 (w46.heap[gb191]? = some (.cells #[.string (⟨#[110]⟩ : ByteArray), .int .i64 5, .int .i64 5, .slice Ao34 y185.length co34, .slice Ao33 y188.length co33, .bool false] 31 (0, 0))) := ⟨h5_⟩
                have n6_ : Aside0 (w46.heap[gb192]? = some (.cells #[.string (⟨#[112]⟩ : ByteArray), .int .i64 0, .int .i64 2, .int .i64 3, .slice Ao26 y178.length co26, .slice Ao25 y181.length co25, .bool true] 28 (0, 0))) := ⟨h6_⟩
                have n7_ : Aside0 (w46.heap[gb195]? = some (.cells #[.string (⟨#[]⟩ : ByteArray), .int .i64 0, .int .i64 0, .slice none 0 0, .slice none 0 0, .bool false] 31 (0, 0))) := ⟨h7_⟩
                have n8_ : Aside0 (w.heap.size ≤ gb195) := ⟨h8_⟩
                have n9_ : Aside0 (w.heap.size ≤ gb195) := ⟨h9_⟩
                have n10_ : Aside0 (gb184 ≠ gb195) := ⟨h10_⟩
                have n11_ : Aside0 (gb195 ≠ gb184) := ⟨h11_⟩
                have n12_ : Aside0 (gb191 ≠ gb195) := ⟨h12_⟩
                have n13_ : Aside0 (gb195 ≠ gb191) := ⟨h13_⟩
                have n14_ : Aside0 (gb192 ≠ gb195) := ⟨h14_⟩
                have n15_ : Aside0 (gb195 ≠ gb192) := ⟨h15_⟩
                have n16_ : Aside0 (Below w.heap.size w w46) := ⟨h16_⟩
                clear HO180
                clear HO183
                clear HO187
                clear HO190
                clear BK184
                clear BK191
                clear BK192
                clear HB
                clear h0_ h1_ h2_ h3_ h4_ h5_ h6_ h7_ h8_ h9_ h10_ h11_ h12_ h13_ h14_ h15_ h16_
                have HO180 := n0_
                have HO183 := n1_
                have HO187 := n2_
                have HO190 := n3_
                have BK184 := n4_
                have BK191 := n5_
                have BK192 := n6_
                have BK195 := n7_
                have GW195 := n8_
                have GE195 := n9_
                have NB184_195 := n10_
                have NB195_184 := n11_
                have NB191_195 := n12_
                have NB195_191 := n13_
                have NB192_195 := n14_
                have NB195_192 := n15_
                have HB := n16_
                clear n0_ n1_ n2_ n3_ n4_ n5_ n6_ n7_ n8_ n9_ n10_ n11_ n12_ n13_ n14_ n15_ n16_
                have hHeld : w46.cell? ⟨gb191, 0, none⟩ = some (.string (⟨#[110]⟩ : ByteArray)) ∧ w46.cell? ⟨gb191, 1, none⟩ = some (.int .i64 5) ∧ w46.cell? ⟨gb191, 2, none⟩ = some (.int .i64 5) ∧ w46.cell? ⟨gb191, 3, none⟩ = some (.slice Ao34 y185.length co34) ∧ w46.cell? ⟨gb191, 4, none⟩ = some (.slice Ao33 y188.length co33) ∧ w46.cell? ⟨gb191, 5, none⟩ = some (.bool false) := hS_
                refine norm_ (a' := ?_) ?_ ?_
                rotate_left
                · simp only [putAll, Act.put, List.setIfInBounds_toArray, List.set_cons_zero, List.set_cons_succ]
                  rfl
                refine two_ (i := 3) (j := 4) (Ni := some 6) (Nj := some 7) #[true, true, true, true, false, true, false, false, false] #[true, true, true, false, true, true, false, false, false] rfl rfl rfl rfl (two_of HT_.out (by kernel_rfl)) (by decide) (by decide) (fun K hK => ?_) (fun K hK => ?_)
                · skip
                  refine box_step ?hg (N := 6) ?hd (cs := #[.string (⟨#[]⟩ : ByteArray), .int .i64 0, .int .i64 0, .slice none 0 0, .slice none 0 0, .bool false]) (t := 31) ?hr ?_; (case hd => rfl); (case hg => rfl); (case hr => first | (go_simp; done) | (go_simp; rfl))
                  intro gb193 hg w47 hbox hb
                  have n0_ := Aside0.mk (Kd.R_below (by (with_reducible repeat (first | apply Kd.R_alloc | apply Kd.R_drewN | apply Kd.R_drew)); exact HO180.out) hb)
                  have n1_ := Aside0.mk (Kd.R_below (by (with_reducible repeat (first | apply Kd.R_alloc | apply Kd.R_drewN | apply Kd.R_drew)); exact HO183.out) hb)
                  have n2_ := Aside0.mk (Kd.R_below (by (with_reducible repeat (first | apply Kd.R_alloc | apply Kd.R_drewN | apply Kd.R_drew)); exact HO187.out) hb)
                  have n3_ := Aside0.mk (Kd.R_below (by (with_reducible repeat (first | apply Kd.R_alloc | apply Kd.R_drewN | apply Kd.R_drew)); exact HO190.out) hb)
                  have n4_ := Aside0.mk (blk_below (g := gb184) (o := .cells #[.string (⟨#[112]⟩ : ByteArray), .int .i64 0, .int .i64 2, .int .i64 3, .slice Ao26 y178.length co26, .slice Ao25 y181.length co25, .bool false] 28 (0, 0)) (by (with_reducible repeat (first | refine blk_drewN ?_ _ | refine blk_drew ?_ | refine blk_alloc ?_ _)); exact BK184.out) hb)
                  have n5_ := Aside0.mk (blk_below (g := gb191) (o := .cells #[.string (⟨#[110]⟩ : ByteArray), .int .i64 5, .int .i64 5, .slice Ao34 y185.length co34, .slice Ao33 y188.length co33, .bool false] 31 (0, 0)) (by (with_reducible repeat (first | refine blk_drewN ?_ _ | refine blk_drew ?_ | refine blk_alloc ?_ _)); exact BK191.out) hb)
                  have n6_ := Aside0.mk (blk_below (g := gb192) (o := .cells #[.string (⟨#[112]⟩ : ByteArray), .int .i64 0, .int .i64 2, .int .i64 3, .slice Ao26 y178.length co26, .slice Ao25 y181.length co25, .bool true] 28 (0, 0)) (by (with_reducible repeat (first | refine blk_drewN ?_ _ | refine blk_drew ?_ | refine blk_alloc ?_ _)); exact BK192.out) hb)
                  have n7_ := Aside0.mk (blk_below (g := gb195) (o := .cells #[.string (⟨#[]⟩ : ByteArray), .int .i64 0, .int .i64 0, .slice none 0 0, .slice none 0 0, .bool false] 31 (0, 0)) (by (with_reducible repeat (first | refine blk_drewN ?_ _ | refine blk_drew ?_ | refine blk_alloc ?_ _)); exact BK195.out) hb)
                  have n8_ := Aside0.mk (below_step (by repeat (first | (with_reducible first | exact HB.out | apply below_alloc | apply pw_below_drewN | apply below_drew1 | refine below_set ?_ GE184.out | refine below_set ?_ GE191.out | refine below_set ?_ GE192.out | refine below_set ?_ GE195.out) | exact HB.out)) hb)
                  have n9_ := Aside0.mk (hbox)
                  have n10_ := Aside0.mk ((by rw [hg]; exact (below_size (by repeat (first | (with_reducible first | exact HB.out | apply below_alloc | apply pw_below_drewN | apply below_drew1 | refine below_set ?_ GE184.out | refine below_set ?_ GE191.out | refine below_set ?_ GE192.out | refine below_set ?_ GE195.out) | exact HB.out))) : w.heap.size ≤ gb193))
                  have n11_ := Aside0.mk ((by rw [hg]; exact (below_size (by repeat (first | (with_reducible first | exact HB.out | apply below_alloc | apply pw_below_drewN | apply below_drew1 | refine below_set ?_ GE184.out | refine below_set ?_ GE191.out | refine below_set ?_ GE192.out | refine below_set ?_ GE195.out) | exact HB.out))) : w.heap.size ≤ gb193))
                  have n12_ := Aside0.mk ((by rw [hg]; exact Nat.ne_of_lt (blk_lt (g := gb184) (o := .cells #[.string (⟨#[112]⟩ : ByteArray), .int .i64 0, .int .i64 2, .int .i64 3, .slice Ao26 y178.length co26, .slice Ao25 y181.length co25, .bool false] 28 (0, 0)) (by (with_reducible repeat (first | refine blk_drewN ?_ _ | refine blk_drew ?_ | refine blk_alloc ?_ _)); exact BK184.out)) : gb184 ≠ gb193))
                  have n13_ := Aside0.mk ((by rw [hg]; exact Nat.ne_of_gt (blk_lt (g := gb184) (o := .cells #[.string (⟨#[112]⟩ : ByteArray), .int .i64 0, .int .i64 2, .int .i64 3, .slice Ao26 y178.length co26, .slice Ao25 y181.length co25, .bool false] 28 (0, 0)) (by (with_reducible repeat (first | refine blk_drewN ?_ _ | refine blk_drew ?_ | refine blk_alloc ?_ _)); exact BK184.out)) : gb193 ≠ gb184))
                  have n14_ := Aside0.mk ((by rw [hg]; exact Nat.ne_of_lt (blk_lt (g := gb191) (o := .cells #[.string (⟨#[110]⟩ : ByteArray), .int .i64 5, .int .i64 5, .slice Ao34 y185.length co34, .slice Ao33 y188.length co33, .bool false] 31 (0, 0)) (by (with_reducible repeat (first | refine blk_drewN ?_ _ | refine blk_drew ?_ | refine blk_alloc ?_ _)); exact BK191.out)) : gb191 ≠ gb193))
                  have n15_ := Aside0.mk ((by rw [hg]; exact Nat.ne_of_gt (blk_lt (g := gb191) (o := .cells #[.string (⟨#[110]⟩ : ByteArray), .int .i64 5, .int .i64 5, .slice Ao34 y185.length co34, .slice Ao33 y188.length co33, .bool false] 31 (0, 0)) (by (with_reducible repeat (first | refine blk_drewN ?_ _ | refine blk_drew ?_ | refine blk_alloc ?_ _)); exact BK191.out)) : gb193 ≠ gb191))
                  have n16_ := Aside0.mk ((by rw [hg]; exact Nat.ne_of_lt (blk_lt (g := gb192) (o := .cells #[.string (⟨#[112]⟩ : ByteArray), .int .i64 0, .int .i64 2, .int .i64 3, .slice Ao26 y178.length co26, .slice Ao25 y181.length co25, .bool true] 28 (0, 0)) (by (with_reducible repeat (first | refine blk_drewN ?_ _ | refine blk_drew ?_ | refine blk_alloc ?_ _)); exact BK192.out)) : gb192 ≠ gb193))
                  have n17_ := Aside0.mk ((by rw [hg]; exact Nat.ne_of_gt (blk_lt (g := gb192) (o := .cells #[.string (⟨#[112]⟩ : ByteArray), .int .i64 0, .int .i64 2, .int .i64 3, .slice Ao26 y178.length co26, .slice Ao25 y181.length co25, .bool true] 28 (0, 0)) (by (with_reducible repeat (first | refine blk_drewN ?_ _ | refine blk_drew ?_ | refine blk_alloc ?_ _)); exact BK192.out)) : gb193 ≠ gb192))
                  have n18_ := Aside0.mk ((by rw [hg]; exact Nat.ne_of_lt (blk_lt (g := gb195) (o := .cells #[.string (⟨#[]⟩ : ByteArray), .int .i64 0, .int .i64 0, .slice none 0 0, .slice none 0 0, .bool false] 31 (0, 0)) (by (with_reducible repeat (first | refine blk_drewN ?_ _ | refine blk_drew ?_ | refine blk_alloc ?_ _)); exact BK195.out)) : gb195 ≠ gb193))
                  have n19_ := Aside0.mk ((by rw [hg]; exact Nat.ne_of_gt (blk_lt (g := gb195) (o := .cells #[.string (⟨#[]⟩ : ByteArray), .int .i64 0, .int .i64 0, .slice none 0 0, .slice none 0 0, .bool false] 31 (0, 0)) (by (with_reducible repeat (first | refine blk_drewN ?_ _ | refine blk_drew ?_ | refine blk_alloc ?_ _)); exact BK195.out)) : gb193 ≠ gb195))
                  clear HO180
                  clear HO183
                  clear HO187
                  clear HO190
                  clear BK184
                  clear BK191
                  clear BK192
                  clear BK195
                  clear HB
                  have HO180 := n0_
                  have HO183 := n1_
                  have HO187 := n2_
                  have HO190 := n3_
                  have BK184 := n4_
                  have BK191 := n5_
                  have BK192 := n6_
                  have BK195 := n7_
                  have HB := n8_
                  have BK193 := n9_
                  have GW193 := n10_
                  have GE193 := n11_
                  have NB184_193 := n12_
                  have NB193_184 := n13_
                  have NB191_193 := n14_
                  have NB193_191 := n15_
                  have NB192_193 := n16_
                  have NB193_192 := n17_
                  have NB195_193 := n18_
                  have NB193_195 := n19_
                  clear n0_ n1_ n2_ n3_ n4_ n5_ n6_ n7_ n8_ n9_ n10_ n11_ n12_ n13_ n14_ n15_ n16_ n17_ n18_ n19_
                  clear hb hbox hg
                  refine hK.out _ _ ⟨(blk_cell BK191.out 0).trans rfl, (blk_cell BK191.out 1).trans rfl, (blk_cell BK191.out 2).trans rfl, (blk_cell BK191.out 3).trans rfl, (blk_cell BK191.out 4).trans rfl, (blk_cell BK191.out 5).trans rfl⟩ (fun hHeld => ?_)
                  clear hK K
                  refine norm_ (a' := ?_) ?_ ?_
                  rotate_left
                  · show Act.put _ (some 6) _ = _
                    simp only [Act.put, List.setIfInBounds_toArray, List.set_cons_zero, List.set_cons_succ, i64_w, i32_w]
                    rfl
                  exact norm_ (by first | (simp only [putAll, Act.put, List.setIfInBounds_toArray, List.set_cons_zero, List.set_cons_succ]; done) | (simp only [putAll, Act.put, List.setIfInBounds_toArray, List.set_cons_zero, List.set_cons_succ]; rfl)) (hJ3_5 (gb193, gb195) _ ⟨hHeld, (by (with_reducible repeat (first | apply Kd.R_alloc | apply Kd.R_drewN | apply Kd.R_drew)); exact HO180.out), (by (with_reducible repeat (first | apply Kd.R_alloc | apply Kd.R_drewN | apply Kd.R_drew)); exact HO183.out), (by (with_reducible repeat (first | apply Kd.R_alloc | apply Kd.R_drewN | apply Kd.R_drew)); exact HO187.out), (by (with_reducible repeat (first | apply Kd.R_alloc | apply Kd.R_drewN | apply Kd.R_drew)); exact HO190.out), (by (with_reducible repeat (first | refine blk_drewN ?_ _ | refine blk_drew ?_ | refine blk_alloc ?_ _)); exact BK184.out), (by (with_reducible repeat (first | refine blk_drewN ?_ _ | refine blk_drew ?_ | refine blk_alloc ?_ _)); exact BK191.out), (by (with_reducible repeat (first | refine blk_drewN ?_ _ | refine blk_drew ?_ | refine blk_alloc ?_ _)); exact BK192.out), (by (with_reducible repeat (first | refine blk_drewN ?_ _ | refine blk_drew ?_ | refine blk_alloc ?_ _)); exact BK193.out), (by (with_reducible repeat (first | refine blk_drewN ?_ _ | refine blk_drew ?_ | refine blk_alloc ?_ _)); exact BK195.out), GW193.out, GE193.out, NB184_193.out, NB193_184.out, NB191_193.out, NB193_191.out, NB192_193.out, NB193_192.out, NB195_193.out, NB193_195.out, GW195.out, GE195.out, NB184_195.out, NB195_184.out, NB191_195.out, NB195_191.out, NB192_195.out, NB195_192.out, (by repeat (first | (with_reducible first | exact HB.out | apply below_alloc | apply pw_below_drewN | apply below_drew1 | refine below_set ?_ GE184.out | refine below_set ?_ GE191.out | refine below_set ?_ GE192.out | refine below_set ?_ GE195.out | refine below_set ?_ GE193.out) | exact HB.out))⟩)
                · skip
                  refine box_step ?hg (N := 7) ?hd (cs := #[.string (⟨#[]⟩ : ByteArray), .int .i64 0, .int .i64 0, .slice none 0 0, .slice none 0 0, .bool false]) (t := 31) ?hr ?_; (case hd => rfl); (case hg => rfl); (case hr => first | (go_simp; done) | (go_simp; rfl))
                  intro gb194 hg w47 hbox hb
                  have n0_ := Aside0.mk (Kd.R_below (by (with_reducible repeat (first | apply Kd.R_alloc | apply Kd.R_drewN | apply Kd.R_drew)); exact HO180.out) hb)
                  have n1_ := Aside0.mk (Kd.R_below (by (with_reducible repeat (first | apply Kd.R_alloc | apply Kd.R_drewN | apply Kd.R_drew)); exact HO183.out) hb)
                  have n2_ := Aside0.mk (Kd.R_below (by (with_reducible repeat (first | apply Kd.R_alloc | apply Kd.R_drewN | apply Kd.R_drew)); exact HO187.out) hb)
                  have n3_ := Aside0.mk (Kd.R_below (by (with_reducible repeat (first | apply Kd.R_alloc | apply Kd.R_drewN | apply Kd.R_drew)); exact HO190.out) hb)
                  have n4_ := Aside0.mk (blk_below (g := gb184) (o := .cells #[.string (⟨#[112]⟩ : ByteArray), .int .i64 0, .int .i64 2, .int .i64 3, .slice Ao26 y178.length co26, .slice Ao25 y181.length co25, .bool false] 28 (0, 0)) (by (with_reducible repeat (first | refine blk_drewN ?_ _ | refine blk_drew ?_ | refine blk_alloc ?_ _)); exact BK184.out) hb)
                  have n5_ := Aside0.mk (blk_below (g := gb191) (o := .cells #[.string (⟨#[110]⟩ : ByteArray), .int .i64 5, .int .i64 5, .slice Ao34 y185.length co34, .slice Ao33 y188.length co33, .bool false] 31 (0, 0)) (by (with_reducible repeat (first | refine blk_drewN ?_ _ | refine blk_drew ?_ | refine blk_alloc ?_ _)); exact BK191.out) hb)
                  have n6_ := Aside0.mk (blk_below (g := gb192) (o := .cells #[.string (⟨#[112]⟩ : ByteArray), .int .i64 0, .int .i64 2, .int .i64 3, .slice Ao26 y178.length co26, .slice Ao25 y181.length co25, .bool true] 28 (0, 0)) (by (with_reducible repeat (first | refine blk_drewN ?_ _ | refine blk_drew ?_ | refine blk_alloc ?_ _)); exact BK192.out) hb)
                  have n7_ := Aside0.mk (blk_below (g := gb195) (o := .cells #[.string (⟨#[]⟩ : ByteArray), .int .i64 0, .int .i64 0, .slice none 0 0, .slice none 0 0, .bool false] 31 (0, 0)) (by (with_reducible repeat (first | refine blk_drewN ?_ _ | refine blk_drew ?_ | refine blk_alloc ?_ _)); exact BK195.out) hb)
                  have n8_ := Aside0.mk (below_step (by repeat (first | (with_reducible first | exact HB.out | apply below_alloc | apply pw_below_drewN | apply below_drew1 | refine below_set ?_ GE184.out | refine below_set ?_ GE191.out | refine below_set ?_ GE192.out | refine below_set ?_ GE195.out) | exact HB.out)) hb)
                  have n9_ := Aside0.mk (hbox)
                  have n10_ := Aside0.mk ((by rw [hg]; exact (below_size (by repeat (first | (with_reducible first | exact HB.out | apply below_alloc | apply pw_below_drewN | apply below_drew1 | refine below_set ?_ GE184.out | refine below_set ?_ GE191.out | refine below_set ?_ GE192.out | refine below_set ?_ GE195.out) | exact HB.out))) : w.heap.size ≤ gb194))
                  have n11_ := Aside0.mk ((by rw [hg]; exact (below_size (by repeat (first | (with_reducible first | exact HB.out | apply below_alloc | apply pw_below_drewN | apply below_drew1 | refine below_set ?_ GE184.out | refine below_set ?_ GE191.out | refine below_set ?_ GE192.out | refine below_set ?_ GE195.out) | exact HB.out))) : w.heap.size ≤ gb194))
                  have n12_ := Aside0.mk ((by rw [hg]; exact Nat.ne_of_lt (blk_lt (g := gb184) (o := .cells #[.string (⟨#[112]⟩ : ByteArray), .int .i64 0, .int .i64 2, .int .i64 3, .slice Ao26 y178.length co26, .slice Ao25 y181.length co25, .bool false] 28 (0, 0)) (by (with_reducible repeat (first | refine blk_drewN ?_ _ | refine blk_drew ?_ | refine blk_alloc ?_ _)); exact BK184.out)) : gb184 ≠ gb194))
                  have n13_ := Aside0.mk ((by rw [hg]; exact Nat.ne_of_gt (blk_lt (g := gb184) (o := .cells #[.string (⟨#[112]⟩ : ByteArray), .int .i64 0, .int .i64 2, .int .i64 3, .slice Ao26 y178.length co26, .slice Ao25 y181.length co25, .bool false] 28 (0, 0)) (by (with_reducible repeat (first | refine blk_drewN ?_ _ | refine blk_drew ?_ | refine blk_alloc ?_ _)); exact BK184.out)) : gb194 ≠ gb184))
                  have n14_ := Aside0.mk ((by rw [hg]; exact Nat.ne_of_lt (blk_lt (g := gb191) (o := .cells #[.string (⟨#[110]⟩ : ByteArray), .int .i64 5, .int .i64 5, .slice Ao34 y185.length co34, .slice Ao33 y188.length co33, .bool false] 31 (0, 0)) (by (with_reducible repeat (first | refine blk_drewN ?_ _ | refine blk_drew ?_ | refine blk_alloc ?_ _)); exact BK191.out)) : gb191 ≠ gb194))
                  have n15_ := Aside0.mk ((by rw [hg]; exact Nat.ne_of_gt (blk_lt (g := gb191) (o := .cells #[.string (⟨#[110]⟩ : ByteArray), .int .i64 5, .int .i64 5, .slice Ao34 y185.length co34, .slice Ao33 y188.length co33, .bool false] 31 (0, 0)) (by (with_reducible repeat (first | refine blk_drewN ?_ _ | refine blk_drew ?_ | refine blk_alloc ?_ _)); exact BK191.out)) : gb194 ≠ gb191))
                  have n16_ := Aside0.mk ((by rw [hg]; exact Nat.ne_of_lt (blk_lt (g := gb192) (o := .cells #[.string (⟨#[112]⟩ : ByteArray), .int .i64 0, .int .i64 2, .int .i64 3, .slice Ao26 y178.length co26, .slice Ao25 y181.length co25, .bool true] 28 (0, 0)) (by (with_reducible repeat (first | refine blk_drewN ?_ _ | refine blk_drew ?_ | refine blk_alloc ?_ _)); exact BK192.out)) : gb192 ≠ gb194))
                  have n17_ := Aside0.mk ((by rw [hg]; exact Nat.ne_of_gt (blk_lt (g := gb192) (o := .cells #[.string (⟨#[112]⟩ : ByteArray), .int .i64 0, .int .i64 2, .int .i64 3, .slice Ao26 y178.length co26, .slice Ao25 y181.length co25, .bool true] 28 (0, 0)) (by (with_reducible repeat (first | refine blk_drewN ?_ _ | refine blk_drew ?_ | refine blk_alloc ?_ _)); exact BK192.out)) : gb194 ≠ gb192))
                  have n18_ := Aside0.mk ((by rw [hg]; exact Nat.ne_of_lt (blk_lt (g := gb195) (o := .cells #[.string (⟨#[]⟩ : ByteArray), .int .i64 0, .int .i64 0, .slice none 0 0, .slice none 0 0, .bool false] 31 (0, 0)) (by (with_reducible repeat (first | refine blk_drewN ?_ _ | refine blk_drew ?_ | refine blk_alloc ?_ _)); exact BK195.out)) : gb195 ≠ gb194))
                  have n19_ := Aside0.mk ((by rw [hg]; exact Nat.ne_of_gt (blk_lt (g := gb195) (o := .cells #[.string (⟨#[]⟩ : ByteArray), .int .i64 0, .int .i64 0, .slice none 0 0, .slice none 0 0, .bool false] 31 (0, 0)) (by (with_reducible repeat (first | refine blk_drewN ?_ _ | refine blk_drew ?_ | refine blk_alloc ?_ _)); exact BK195.out)) : gb194 ≠ gb195))
                  clear HO180
                  clear HO183
                  clear HO187
                  clear HO190
                  clear BK184
                  clear BK191
                  clear BK192
                  clear BK195
                  clear HB
                  have HO180 := n0_
                  have HO183 := n1_
                  have HO187 := n2_
                  have HO190 := n3_
                  have BK184 := n4_
                  have BK191 := n5_
                  have BK192 := n6_
                  have BK195 := n7_
                  have HB := n8_
                  have BK194 := n9_
                  have GW194 := n10_
                  have GE194 := n11_
                  have NB184_194 := n12_
                  have NB194_184 := n13_
                  have NB191_194 := n14_
                  have NB194_191 := n15_
                  have NB192_194 := n16_
                  have NB194_192 := n17_
                  have NB195_194 := n18_
                  have NB194_195 := n19_
                  clear n0_ n1_ n2_ n3_ n4_ n5_ n6_ n7_ n8_ n9_ n10_ n11_ n12_ n13_ n14_ n15_ n16_ n17_ n18_ n19_
                  clear hb hbox hg
                  refine hK.out _ _ ⟨(blk_cell BK191.out 0).trans rfl, (blk_cell BK191.out 1).trans rfl, (blk_cell BK191.out 2).trans rfl, (blk_cell BK191.out 3).trans rfl, (blk_cell BK191.out 4).trans rfl, (blk_cell BK191.out 5).trans rfl⟩ (fun hHeld => ?_)
                  clear hK K
                  refine norm_ (a' := ?_) ?_ ?_
                  rotate_left
                  · show Act.put _ (some 7) _ = _
                    simp only [Act.put, List.setIfInBounds_toArray, List.set_cons_zero, List.set_cons_succ, i64_w, i32_w]
                    rfl
                  exact norm_ (by first | (simp only [putAll, Act.put, List.setIfInBounds_toArray, List.set_cons_zero, List.set_cons_succ]; done) | (simp only [putAll, Act.put, List.setIfInBounds_toArray, List.set_cons_zero, List.set_cons_succ]; rfl)) (hJ4_5 (gb194, gb195) _ ⟨hHeld, (by (with_reducible repeat (first | apply Kd.R_alloc | apply Kd.R_drewN | apply Kd.R_drew)); exact HO180.out), (by (with_reducible repeat (first | apply Kd.R_alloc | apply Kd.R_drewN | apply Kd.R_drew)); exact HO183.out), (by (with_reducible repeat (first | apply Kd.R_alloc | apply Kd.R_drewN | apply Kd.R_drew)); exact HO187.out), (by (with_reducible repeat (first | apply Kd.R_alloc | apply Kd.R_drewN | apply Kd.R_drew)); exact HO190.out), (by (with_reducible repeat (first | refine blk_drewN ?_ _ | refine blk_drew ?_ | refine blk_alloc ?_ _)); exact BK184.out), (by (with_reducible repeat (first | refine blk_drewN ?_ _ | refine blk_drew ?_ | refine blk_alloc ?_ _)); exact BK191.out), (by (with_reducible repeat (first | refine blk_drewN ?_ _ | refine blk_drew ?_ | refine blk_alloc ?_ _)); exact BK192.out), (by (with_reducible repeat (first | refine blk_drewN ?_ _ | refine blk_drew ?_ | refine blk_alloc ?_ _)); exact BK194.out), (by (with_reducible repeat (first | refine blk_drewN ?_ _ | refine blk_drew ?_ | refine blk_alloc ?_ _)); exact BK195.out), GW194.out, GE194.out, NB184_194.out, NB194_184.out, NB191_194.out, NB194_191.out, NB192_194.out, NB194_192.out, NB195_194.out, NB194_195.out, GW195.out, GE195.out, NB184_195.out, NB195_184.out, NB191_195.out, NB195_191.out, NB192_195.out, NB195_192.out, (by repeat (first | (with_reducible first | exact HB.out | apply below_alloc | apply pw_below_drewN | apply below_drew1 | refine below_set ?_ GE184.out | refine below_set ?_ GE191.out | refine below_set ?_ GE192.out | refine below_set ?_ GE195.out | refine below_set ?_ GE194.out) | exact HB.out))⟩)
            · skip
              rintro gb194 w46 ⟨hS_, h0_, h1_, h2_, h3_, h4_, h5_, h6_, h7_, h8_, h9_, h10_, h11_, h12_, h13_, h14_, h15_, h16_⟩
              have n0_ : Aside0 (Kd.R Kd.string 9 w46 w.heap.size (fun k_ => some k_ ≠ (.slice Ao25 y181.length co25 : Value).ownBlock ∧ some k_ ≠ (.slice Ao34 y185.length co34 : Value).ownBlock ∧ some k_ ≠ (.slice Ao33 y188.length co33 : Value).ownBlock) (.slice Ao26 y178.length co26) y178) := ⟨h0_⟩
              have n1_ : Aside0 (Kd.R Kd.string 9 w46 w.heap.size (fun k_ => some k_ ≠ (.slice Ao26 y178.length co26 : Value).ownBlock ∧ some k_ ≠ (.slice Ao34 y185.length co34 : Value).ownBlock ∧ some k_ ≠ (.slice Ao33 y188.length co33 : Value).ownBlock) (.slice Ao25 y181.length co25) y181) := ⟨h1_⟩
              have n2_ : Aside0 (Kd.R Kd.string 9 w46 w.heap.size (fun k_ => some k_ ≠ (.slice Ao26 y178.length co26 : Value).ownBlock ∧ some k_ ≠ (.slice Ao25 y181.length co25 : Value).ownBlock ∧ some k_ ≠ (.slice Ao33 y188.length co33 : Value).ownBlock) (.slice Ao34 y185.length co34) y185) := ⟨h2_⟩
              have n3_ : Aside0 (Kd.R Kd.string 9 w46 w.heap.size (fun k_ => some k_ ≠ (.slice Ao26 y178.length co26 : Value).ownBlock ∧ some k_ ≠ (.slice Ao25 y181.length co25 : Value).ownBlock ∧ some k_ ≠ (.slice Ao34 y185.length co34 : Value).ownBlock) (.slice Ao33 y188.length co33) y188) := ⟨h3_⟩
              have n4_ : Aside0 (w46.heap[gb184]? = some (.cells #[.string (⟨#[112]⟩ : ByteArray), .int .i64 0, .int .i64 2, .int .i64 3, .slice Ao26 y178.length co26, .slice Ao25 y181.length co25, .bool false] 28 (0, 0))) := ⟨h4_⟩
              have n5_ : Aside0 (w46.heap[gb191]? = some (.cells #[.string (⟨#[110]⟩ : ByteArray), .int .i64 5, .int .i64 5, .slice Ao34 y185.length co34, .slice Ao33 y188.length co33, .bool false] 31 (0, 0))) := ⟨h5_⟩
              have n6_ : Aside0 (w46.heap[gb192]? = some (.cells #[.string (⟨#[112]⟩ : ByteArray), .int .i64 0, .int .i64 2, .int .i64 3, .slice Ao26 y178.length co26, .slice Ao25 y181.length co25, .bool true] 28 (0, 0))) := ⟨h6_⟩
              have n7_ : Aside0 (w46.heap[gb194]? = some (.cells #[.string (⟨#[]⟩ : ByteArray), .int .i64 0, .int .i64 0, .slice none 0 0, .slice none 0 0, .bool false] 31 (0, 0))) := ⟨h7_⟩
              have n8_ : Aside0 (w.heap.size ≤ gb194) := ⟨h8_⟩
              have n9_ : Aside0 (w.heap.size ≤ gb194) := ⟨h9_⟩
              have n10_ : Aside0 (gb184 ≠ gb194) := ⟨h10_⟩
              have n11_ : Aside0 (gb194 ≠ gb184) := ⟨h11_⟩
              have n12_ : Aside0 (gb191 ≠ gb194) := ⟨h12_⟩
              have n13_ : Aside0 (gb194 ≠ gb191) := ⟨h13_⟩
              have n14_ : Aside0 (gb192 ≠ gb194) := ⟨h14_⟩
              have n15_ : Aside0 (gb194 ≠ gb192) := ⟨h15_⟩
              have n16_ : Aside0 (Below w.heap.size w w46) := ⟨h16_⟩
              clear HO180
              clear HO183
              clear HO187
              clear HO190
              clear BK184
              clear BK191
              clear BK192
              clear HB
              clear h0_ h1_ h2_ h3_ h4_ h5_ h6_ h7_ h8_ h9_ h10_ h11_ h12_ h13_ h14_ h15_ h16_
              have HO180 := n0_
              have HO183 := n1_
              have HO187 := n2_
              have HO190 := n3_
              have BK184 := n4_
              have BK191 := n5_
              have BK192 := n6_
              have BK194 := n7_
              have GW194 := n8_
              have GE194 := n9_
              have NB184_194 := n10_
              have NB194_184 := n11_
              have NB191_194 := n12_
              have NB194_191 := n13_
              have NB192_194 := n14_
              have NB194_192 := n15_
              have HB := n16_
              clear n0_ n1_ n2_ n3_ n4_ n5_ n6_ n7_ n8_ n9_ n10_ n11_ n12_ n13_ n14_ n15_ n16_
              have hHeld : w46.cell? ⟨gb191, 0, none⟩ = some (.string (⟨#[110]⟩ : ByteArray)) ∧ w46.cell? ⟨gb191, 1, none⟩ = some (.int .i64 5) ∧ w46.cell? ⟨gb191, 2, none⟩ = some (.int .i64 5) ∧ w46.cell? ⟨gb191, 3, none⟩ = some (.slice Ao34 y185.length co34) ∧ w46.cell? ⟨gb191, 4, none⟩ = some (.slice Ao33 y188.length co33) ∧ w46.cell? ⟨gb191, 5, none⟩ = some (.bool false) := hS_
              refine norm_ (a' := ?_) ?_ ?_
              rotate_left
              · simp only [putAll, Act.put, List.setIfInBounds_toArray, List.set_cons_zero, List.set_cons_succ]
                rfl
              refine two_ (i := 3) (j := 5) (Ni := some 6) (Nj := some 8) #[true, true, true, true, true, false, false, false, false] #[true, true, true, false, true, true, false, false, false] rfl rfl rfl rfl (two_of HT_.out (by kernel_rfl)) (by decide) (by decide) (fun K hK => ?_) (fun K hK => ?_)
              · skip
                refine box_step ?hg (N := 6) ?hd (cs := #[.string (⟨#[]⟩ : ByteArray), .int .i64 0, .int .i64 0, .slice none 0 0, .slice none 0 0, .bool false]) (t := 31) ?hr ?_; (case hd => rfl); (case hg => rfl); (case hr => first | (go_simp; done) | (go_simp; rfl))
                intro gb193 hg w47 hbox hb
                have n0_ := Aside0.mk (Kd.R_below (by (with_reducible repeat (first | apply Kd.R_alloc | apply Kd.R_drewN | apply Kd.R_drew)); exact HO180.out) hb)
                have n1_ := Aside0.mk (Kd.R_below (by (with_reducible repeat (first | apply Kd.R_alloc | apply Kd.R_drewN | apply Kd.R_drew)); exact HO183.out) hb)
                have n2_ := Aside0.mk (Kd.R_below (by (with_reducible repeat (first | apply Kd.R_alloc | apply Kd.R_drewN | apply Kd.R_drew)); exact HO187.out) hb)
                have n3_ := Aside0.mk (Kd.R_below (by (with_reducible repeat (first | apply Kd.R_alloc | apply Kd.R_drewN | apply Kd.R_drew)); exact HO190.out) hb)
                have n4_ := Aside0.mk (blk_below (g := gb184) (o := .cells #[.string (⟨#[112]⟩ : ByteArray), .int .i64 0, .int .i64 2, .int .i64 3, .slice Ao26 y178.length co26, .slice Ao25 y181.length co25, .bool false] 28 (0, 0)) (by (with_reducible repeat (first | refine blk_drewN ?_ _ | refine blk_drew ?_ | refine blk_alloc ?_ _)); exact BK184.out) hb)
                have n5_ := Aside0.mk (blk_below (g := gb191) (o := .cells #[.string (⟨#[110]⟩ : ByteArray), .int .i64 5, .int .i64 5, .slice Ao34 y185.length co34, .slice Ao33 y188.length co33, .bool false] 31 (0, 0)) (by (with_reducible repeat (first | refine blk_drewN ?_ _ | refine blk_drew ?_ | refine blk_alloc ?_ _)); exact BK191.out) hb)
                have n6_ := Aside0.mk (blk_below (g := gb192) (o := .cells #[.string (⟨#[112]⟩ : ByteArray), .int .i64 0, .int .i64 2, .int .i64 3, .slice Ao26 y178.length co26, .slice Ao25 y181.length co25, .bool true] 28 (0, 0)) (by (with_reducible repeat (first | refine blk_drewN ?_ _ | refine blk_drew ?_ | refine blk_alloc ?_ _)); exact BK192.out) hb)
                have n7_ := Aside0.mk (blk_below (g := gb194) (o := .cells #[.string (⟨#[]⟩ : ByteArray), .int .i64 0, .int .i64 0, .slice none 0 0, .slice none 0 0, .bool false] 31 (0, 0)) (by (with_reducible repeat (first | refine blk_drewN ?_ _ | refine blk_drew ?_ | refine blk_alloc ?_ _)); exact BK194.out) hb)
                have n8_ := Aside0.mk (below_step (by repeat (first | (with_reducible first | exact HB.out | apply below_alloc | apply pw_below_drewN | apply below_drew1 | refine below_set ?_ GE184.out | refine below_set ?_ GE191.out | refine below_set ?_ GE192.out | refine below_set ?_ GE194.out) | exact HB.out)) hb)
                have n9_ := Aside0.mk (hbox)
                have n10_ := Aside0.mk ((by rw [hg]; exact (below_size (by repeat (first | (with_reducible first | exact HB.out | apply below_alloc | apply pw_below_drewN | apply below_drew1 | refine below_set ?_ GE184.out | refine below_set ?_ GE191.out | refine below_set ?_ GE192.out | refine below_set ?_ GE194.out) | exact HB.out))) : w.heap.size ≤ gb193))
                have n11_ := Aside0.mk ((by rw [hg]; exact (below_size (by repeat (first | (with_reducible first | exact HB.out | apply below_alloc | apply pw_below_drewN | apply below_drew1 | refine below_set ?_ GE184.out | refine below_set ?_ GE191.out | refine below_set ?_ GE192.out | refine below_set ?_ GE194.out) | exact HB.out))) : w.heap.size ≤ gb193))
                have n12_ := Aside0.mk ((by rw [hg]; exact Nat.ne_of_lt (blk_lt (g := gb184) (o := .cells #[.string (⟨#[112]⟩ : ByteArray), .int .i64 0, .int .i64 2, .int .i64 3, .slice Ao26 y178.length co26, .slice Ao25 y181.length co25, .bool false] 28 (0, 0)) (by (with_reducible repeat (first | refine blk_drewN ?_ _ | refine blk_drew ?_ | refine blk_alloc ?_ _)); exact BK184.out)) : gb184 ≠ gb193))
                have n13_ := Aside0.mk ((by rw [hg]; exact Nat.ne_of_gt (blk_lt (g := gb184) (o := .cells #[.string (⟨#[112]⟩ : ByteArray), .int .i64 0, .int .i64 2, .int .i64 3, .slice Ao26 y178.length co26, .slice Ao25 y181.length co25, .bool false] 28 (0, 0)) (by (with_reducible repeat (first | refine blk_drewN ?_ _ | refine blk_drew ?_ | refine blk_alloc ?_ _)); exact BK184.out)) : gb193 ≠ gb184))
                have n14_ := Aside0.mk ((by rw [hg]; exact Nat.ne_of_lt (blk_lt (g := gb191) (o := .cells #[.string (⟨#[110]⟩ : ByteArray), .int .i64 5, .int .i64 5, .slice Ao34 y185.length co34, .slice Ao33 y188.length co33, .bool false] 31 (0, 0)) (by (with_reducible repeat (first | refine blk_drewN ?_ _ | refine blk_drew ?_ | refine blk_alloc ?_ _)); exact BK191.out)) : gb191 ≠ gb193))
                have n15_ := Aside0.mk ((by rw [hg]; exact Nat.ne_of_gt (blk_lt (g := gb191) (o := .cells #[.string (⟨#[110]⟩ : ByteArray), .int .i64 5, .int .i64 5, .slice Ao34 y185.length co34, .slice Ao33 y188.length co33, .bool false] 31 (0, 0)) (by (with_reducible repeat (first | refine blk_drewN ?_ _ | refine blk_drew ?_ | refine blk_alloc ?_ _)); exact BK191.out)) : gb193 ≠ gb191))
                have n16_ := Aside0.mk ((by rw [hg]; exact Nat.ne_of_lt (blk_lt (g := gb192) (o := .cells #[.string (⟨#[112]⟩ : ByteArray), .int .i64 0, .int .i64 2, .int .i64 3, .slice Ao26 y178.length co26, .slice Ao25 y181.length co25, .bool true] 28 (0, 0)) (by (with_reducible repeat (first | refine blk_drewN ?_ _ | refine blk_drew ?_ | refine blk_alloc ?_ _)); exact BK192.out)) : gb192 ≠ gb193))
                have n17_ := Aside0.mk ((by rw [hg]; exact Nat.ne_of_gt (blk_lt (g := gb192) (o := .cells #[.string (⟨#[112]⟩ : ByteArray), .int .i64 0, .int .i64 2, .int .i64 3, .slice Ao26 y178.length co26, .slice Ao25 y181.length co25, .bool true] 28 (0, 0)) (by (with_reducible repeat (first | refine blk_drewN ?_ _ | refine blk_drew ?_ | refine blk_alloc ?_ _)); exact BK192.out)) : gb193 ≠ gb192))
                have n18_ := Aside0.mk ((by rw [hg]; exact Nat.ne_of_lt (blk_lt (g := gb194) (o := .cells #[.string (⟨#[]⟩ : ByteArray), .int .i64 0, .int .i64 0, .slice none 0 0, .slice none 0 0, .bool false] 31 (0, 0)) (by (with_reducible repeat (first | refine blk_drewN ?_ _ | refine blk_drew ?_ | refine blk_alloc ?_ _)); exact BK194.out)) : gb194 ≠ gb193))
                have n19_ := Aside0.mk ((by rw [hg]; exact Nat.ne_of_gt (blk_lt (g := gb194) (o := .cells #[.string (⟨#[]⟩ : ByteArray), .int .i64 0, .int .i64 0, .slice none 0 0, .slice none 0 0, .bool false] 31 (0, 0)) (by (with_reducible repeat (first | refine blk_drewN ?_ _ | refine blk_drew ?_ | refine blk_alloc ?_ _)); exact BK194.out)) : gb193 ≠ gb194))
                clear HO180
                clear HO183
                clear HO187
                clear HO190
                clear BK184
                clear BK191
                clear BK192
                clear BK194
                clear HB
                have HO180 := n0_
                have HO183 := n1_
                have HO187 := n2_
                have HO190 := n3_
                have BK184 := n4_
                have BK191 := n5_
                have BK192 := n6_
                have BK194 := n7_
                have HB := n8_
                have BK193 := n9_
                have GW193 := n10_
                have GE193 := n11_
                have NB184_193 := n12_
                have NB193_184 := n13_
                have NB191_193 := n14_
                have NB193_191 := n15_
                have NB192_193 := n16_
                have NB193_192 := n17_
                have NB194_193 := n18_
                have NB193_194 := n19_
                clear n0_ n1_ n2_ n3_ n4_ n5_ n6_ n7_ n8_ n9_ n10_ n11_ n12_ n13_ n14_ n15_ n16_ n17_ n18_ n19_
                clear hb hbox hg
                refine hK.out _ _ ⟨(blk_cell BK191.out 0).trans rfl, (blk_cell BK191.out 1).trans rfl, (blk_cell BK191.out 2).trans rfl, (blk_cell BK191.out 3).trans rfl, (blk_cell BK191.out 4).trans rfl, (blk_cell BK191.out 5).trans rfl⟩ (fun hHeld => ?_)
                clear hK K
                refine norm_ (a' := ?_) ?_ ?_
                rotate_left
                · show Act.put _ (some 6) _ = _
                  simp only [Act.put, List.setIfInBounds_toArray, List.set_cons_zero, List.set_cons_succ, i64_w, i32_w]
                  rfl
                exact norm_ (by first | (simp only [putAll, Act.put, List.setIfInBounds_toArray, List.set_cons_zero, List.set_cons_succ]; done) | (simp only [putAll, Act.put, List.setIfInBounds_toArray, List.set_cons_zero, List.set_cons_succ]; rfl)) (hJ3_4 (gb193, gb194) _ ⟨hHeld, (by (with_reducible repeat (first | apply Kd.R_alloc | apply Kd.R_drewN | apply Kd.R_drew)); exact HO180.out), (by (with_reducible repeat (first | apply Kd.R_alloc | apply Kd.R_drewN | apply Kd.R_drew)); exact HO183.out), (by (with_reducible repeat (first | apply Kd.R_alloc | apply Kd.R_drewN | apply Kd.R_drew)); exact HO187.out), (by (with_reducible repeat (first | apply Kd.R_alloc | apply Kd.R_drewN | apply Kd.R_drew)); exact HO190.out), (by (with_reducible repeat (first | refine blk_drewN ?_ _ | refine blk_drew ?_ | refine blk_alloc ?_ _)); exact BK184.out), (by (with_reducible repeat (first | refine blk_drewN ?_ _ | refine blk_drew ?_ | refine blk_alloc ?_ _)); exact BK191.out), (by (with_reducible repeat (first | refine blk_drewN ?_ _ | refine blk_drew ?_ | refine blk_alloc ?_ _)); exact BK192.out), (by (with_reducible repeat (first | refine blk_drewN ?_ _ | refine blk_drew ?_ | refine blk_alloc ?_ _)); exact BK193.out), (by (with_reducible repeat (first | refine blk_drewN ?_ _ | refine blk_drew ?_ | refine blk_alloc ?_ _)); exact BK194.out), GW193.out, GE193.out, NB184_193.out, NB193_184.out, NB191_193.out, NB193_191.out, NB192_193.out, NB193_192.out, NB194_193.out, NB193_194.out, GW194.out, GE194.out, NB184_194.out, NB194_184.out, NB191_194.out, NB194_191.out, NB192_194.out, NB194_192.out, (by repeat (first | (with_reducible first | exact HB.out | apply below_alloc | apply pw_below_drewN | apply below_drew1 | refine below_set ?_ GE184.out | refine below_set ?_ GE191.out | refine below_set ?_ GE192.out | refine below_set ?_ GE194.out | refine below_set ?_ GE193.out) | exact HB.out))⟩)
              · skip
                refine box_step ?hg (N := 8) ?hd (cs := #[.string (⟨#[]⟩ : ByteArray), .int .i64 0, .int .i64 0, .slice none 0 0, .slice none 0 0, .bool false]) (t := 31) ?hr ?_; (case hd => rfl); (case hg => rfl); (case hr => first | (go_simp; done) | (go_simp; rfl))
                intro gb195 hg w47 hbox hb
                have n0_ := Aside0.mk (Kd.R_below (by (with_reducible repeat (first | apply Kd.R_alloc | apply Kd.R_drewN | apply Kd.R_drew)); exact HO180.out) hb)
                have n1_ := Aside0.mk (Kd.R_below (by (with_reducible repeat (first | apply Kd.R_alloc | apply Kd.R_drewN | apply Kd.R_drew)); exact HO183.out) hb)
                have n2_ := Aside0.mk (Kd.R_below (by (with_reducible repeat (first | apply Kd.R_alloc | apply Kd.R_drewN | apply Kd.R_drew)); exact HO187.out) hb)
                have n3_ := Aside0.mk (Kd.R_below (by (with_reducible repeat (first | apply Kd.R_alloc | apply Kd.R_drewN | apply Kd.R_drew)); exact HO190.out) hb)
                have n4_ := Aside0.mk (blk_below (g := gb184) (o := .cells #[.string (⟨#[112]⟩ : ByteArray), .int .i64 0, .int .i64 2, .int .i64 3, .slice Ao26 y178.length co26, .slice Ao25 y181.length co25, .bool false] 28 (0, 0)) (by (with_reducible repeat (first | refine blk_drewN ?_ _ | refine blk_drew ?_ | refine blk_alloc ?_ _)); exact BK184.out) hb)
                have n5_ := Aside0.mk (blk_below (g := gb191) (o := .cells #[.string (⟨#[110]⟩ : ByteArray), .int .i64 5, .int .i64 5, .slice Ao34 y185.length co34, .slice Ao33 y188.length co33, .bool false] 31 (0, 0)) (by (with_reducible repeat (first | refine blk_drewN ?_ _ | refine blk_drew ?_ | refine blk_alloc ?_ _)); exact BK191.out) hb)
                have n6_ := Aside0.mk (blk_below (g := gb192) (o := .cells #[.string (⟨#[112]⟩ : ByteArray), .int .i64 0, .int .i64 2, .int .i64 3, .slice Ao26 y178.length co26, .slice Ao25 y181.length co25, .bool true] 28 (0, 0)) (by (with_reducible repeat (first | refine blk_drewN ?_ _ | refine blk_drew ?_ | refine blk_alloc ?_ _)); exact BK192.out) hb)
                have n7_ := Aside0.mk (blk_below (g := gb194) (o := .cells #[.string (⟨#[]⟩ : ByteArray), .int .i64 0, .int .i64 0, .slice none 0 0, .slice none 0 0, .bool false] 31 (0, 0)) (by (with_reducible repeat (first | refine blk_drewN ?_ _ | refine blk_drew ?_ | refine blk_alloc ?_ _)); exact BK194.out) hb)
                have n8_ := Aside0.mk (below_step (by repeat (first | (with_reducible first | exact HB.out | apply below_alloc | apply pw_below_drewN | apply below_drew1 | refine below_set ?_ GE184.out | refine below_set ?_ GE191.out | refine below_set ?_ GE192.out | refine below_set ?_ GE194.out) | exact HB.out)) hb)
                have n9_ := Aside0.mk (hbox)
                have n10_ := Aside0.mk ((by rw [hg]; exact (below_size (by repeat (first | (with_reducible first | exact HB.out | apply below_alloc | apply pw_below_drewN | apply below_drew1 | refine below_set ?_ GE184.out | refine below_set ?_ GE191.out | refine below_set ?_ GE192.out | refine below_set ?_ GE194.out) | exact HB.out))) : w.heap.size ≤ gb195))
                have n11_ := Aside0.mk ((by rw [hg]; exact (below_size (by repeat (first | (with_reducible first | exact HB.out | apply below_alloc | apply pw_below_drewN | apply below_drew1 | refine below_set ?_ GE184.out | refine below_set ?_ GE191.out | refine below_set ?_ GE192.out | refine below_set ?_ GE194.out) | exact HB.out))) : w.heap.size ≤ gb195))
                have n12_ := Aside0.mk ((by rw [hg]; exact Nat.ne_of_lt (blk_lt (g := gb184) (o := .cells #[.string (⟨#[112]⟩ : ByteArray), .int .i64 0, .int .i64 2, .int .i64 3, .slice Ao26 y178.length co26, .slice Ao25 y181.length co25, .bool false] 28 (0, 0)) (by (with_reducible repeat (first | refine blk_drewN ?_ _ | refine blk_drew ?_ | refine blk_alloc ?_ _)); exact BK184.out)) : gb184 ≠ gb195))
                have n13_ := Aside0.mk ((by rw [hg]; exact Nat.ne_of_gt (blk_lt (g := gb184) (o := .cells #[.string (⟨#[112]⟩ : ByteArray), .int .i64 0, .int .i64 2, .int .i64 3, .slice Ao26 y178.length co26, .slice Ao25 y181.length co25, .bool false] 28 (0, 0)) (by (with_reducible repeat (first | refine blk_drewN ?_ _ | refine blk_drew ?_ | refine blk_alloc ?_ _)); exact BK184.out)) : gb195 ≠ gb184))
                have n14_ := Aside0.mk ((by rw [hg]; exact Nat.ne_of_lt (blk_lt (g := gb191) (o := .cells #[.string (⟨#[110]⟩ : ByteArray), .int .i64 5, .int .i64 5, .slice Ao34 y185.length co34, .slice Ao33 y188.length co33, .bool false] 31 (0, 0)) (by (with_reducible repeat (first | refine blk_drewN ?_ _ | refine blk_drew ?_ | refine blk_alloc ?_ _)); exact BK191.out)) : gb191 ≠ gb195))
                have n15_ := Aside0.mk ((by rw [hg]; exact Nat.ne_of_gt (blk_lt (g := gb191) (o := .cells #[.string (⟨#[110]⟩ : ByteArray), .int .i64 5, .int .i64 5, .slice Ao34 y185.length co34, .slice Ao33 y188.length co33, .bool false] 31 (0, 0)) (by (with_reducible repeat (first | refine blk_drewN ?_ _ | refine blk_drew ?_ | refine blk_alloc ?_ _)); exact BK191.out)) : gb195 ≠ gb191))
                have n16_ := Aside0.mk ((by rw [hg]; exact Nat.ne_of_lt (blk_lt (g := gb192) (o := .cells #[.string (⟨#[112]⟩ : ByteArray), .int .i64 0, .int .i64 2, .int .i64 3, .slice Ao26 y178.length co26, .slice Ao25 y181.length co25, .bool true] 28 (0, 0)) (by (with_reducible repeat (first | refine blk_drewN ?_ _ | refine blk_drew ?_ | refine blk_alloc ?_ _)); exact BK192.out)) : gb192 ≠ gb195))
                have n17_ := Aside0.mk ((by rw [hg]; exact Nat.ne_of_gt (blk_lt (g := gb192) (o := .cells #[.string (⟨#[112]⟩ : ByteArray), .int .i64 0, .int .i64 2, .int .i64 3, .slice Ao26 y178.length co26, .slice Ao25 y181.length co25, .bool true] 28 (0, 0)) (by (with_reducible repeat (first | refine blk_drewN ?_ _ | refine blk_drew ?_ | refine blk_alloc ?_ _)); exact BK192.out)) : gb195 ≠ gb192))
                have n18_ := Aside0.mk ((by rw [hg]; exact Nat.ne_of_lt (blk_lt (g := gb194) (o := .cells #[.string (⟨#[]⟩ : ByteArray), .int .i64 0, .int .i64 0, .slice none 0 0, .slice none 0 0, .bool false] 31 (0, 0)) (by (with_reducible repeat (first | refine blk_drewN ?_ _ | refine blk_drew ?_ | refine blk_alloc ?_ _)); exact BK194.out)) : gb194 ≠ gb195))
                have n19_ := Aside0.mk ((by rw [hg]; exact Nat.ne_of_gt (blk_lt (g := gb194) (o := .cells #[.string (⟨#[]⟩ : ByteArray), .int .i64 0, .int .i64 0, .slice none 0 0, .slice none 0 0, .bool false] 31 (0, 0)) (by (with_reducible repeat (first | refine blk_drewN ?_ _ | refine blk_drew ?_ | refine blk_alloc ?_ _)); exact BK194.out)) : gb195 ≠ gb194))
                clear HO180
                clear HO183
                clear HO187
                clear HO190
                clear BK184
                clear BK191
                clear BK192
                clear BK194
                clear HB
                have HO180 := n0_
                have HO183 := n1_
                have HO187 := n2_
                have HO190 := n3_
                have BK184 := n4_
                have BK191 := n5_
                have BK192 := n6_
                have BK194 := n7_
                have HB := n8_
                have BK195 := n9_
                have GW195 := n10_
                have GE195 := n11_
                have NB184_195 := n12_
                have NB195_184 := n13_
                have NB191_195 := n14_
                have NB195_191 := n15_
                have NB192_195 := n16_
                have NB195_192 := n17_
                have NB194_195 := n18_
                have NB195_194 := n19_
                clear n0_ n1_ n2_ n3_ n4_ n5_ n6_ n7_ n8_ n9_ n10_ n11_ n12_ n13_ n14_ n15_ n16_ n17_ n18_ n19_
                clear hb hbox hg
                refine hK.out _ _ ⟨(blk_cell BK191.out 0).trans rfl, (blk_cell BK191.out 1).trans rfl, (blk_cell BK191.out 2).trans rfl, (blk_cell BK191.out 3).trans rfl, (blk_cell BK191.out 4).trans rfl, (blk_cell BK191.out 5).trans rfl⟩ (fun hHeld => ?_)
                clear hK K
                refine norm_ (a' := ?_) ?_ ?_
                rotate_left
                · show Act.put _ (some 8) _ = _
                  simp only [Act.put, List.setIfInBounds_toArray, List.set_cons_zero, List.set_cons_succ, i64_w, i32_w]
                  rfl
                exact norm_ (by first | (simp only [putAll, Act.put, List.setIfInBounds_toArray, List.set_cons_zero, List.set_cons_succ]; done) | (simp only [putAll, Act.put, List.setIfInBounds_toArray, List.set_cons_zero, List.set_cons_succ]; rfl)) (hJ4_5 (gb194, gb195) _ ⟨hHeld, (by (with_reducible repeat (first | apply Kd.R_alloc | apply Kd.R_drewN | apply Kd.R_drew)); exact HO180.out), (by (with_reducible repeat (first | apply Kd.R_alloc | apply Kd.R_drewN | apply Kd.R_drew)); exact HO183.out), (by (with_reducible repeat (first | apply Kd.R_alloc | apply Kd.R_drewN | apply Kd.R_drew)); exact HO187.out), (by (with_reducible repeat (first | apply Kd.R_alloc | apply Kd.R_drewN | apply Kd.R_drew)); exact HO190.out), (by (with_reducible repeat (first | refine blk_drewN ?_ _ | refine blk_drew ?_ | refine blk_alloc ?_ _)); exact BK184.out), (by (with_reducible repeat (first | refine blk_drewN ?_ _ | refine blk_drew ?_ | refine blk_alloc ?_ _)); exact BK191.out), (by (with_reducible repeat (first | refine blk_drewN ?_ _ | refine blk_drew ?_ | refine blk_alloc ?_ _)); exact BK192.out), (by (with_reducible repeat (first | refine blk_drewN ?_ _ | refine blk_drew ?_ | refine blk_alloc ?_ _)); exact BK194.out), (by (with_reducible repeat (first | refine blk_drewN ?_ _ | refine blk_drew ?_ | refine blk_alloc ?_ _)); exact BK195.out), GW194.out, GE194.out, NB184_194.out, NB194_184.out, NB191_194.out, NB194_191.out, NB192_194.out, NB194_192.out, NB195_194.out, NB194_195.out, GW195.out, GE195.out, NB184_195.out, NB195_184.out, NB191_195.out, NB195_191.out, NB192_195.out, NB195_192.out, (by repeat (first | (with_reducible first | exact HB.out | apply below_alloc | apply pw_below_drewN | apply below_drew1 | refine below_set ?_ GE184.out | refine below_set ?_ GE191.out | refine below_set ?_ GE192.out | refine below_set ?_ GE194.out | refine below_set ?_ GE195.out) | exact HB.out))⟩)
          · skip
            rintro gb193 w46 ⟨hS_, h0_, h1_, h2_, h3_, h4_, h5_, h6_, h7_, h8_, h9_, h10_, h11_, h12_, h13_, h14_, h15_, h16_⟩
            have n0_ : Aside0 (Kd.R Kd.string 9 w46 w.heap.size (fun k_ => some k_ ≠ (.slice Ao25 y181.length co25 : Value).ownBlock ∧ some k_ ≠ (.slice Ao34 y185.length co34 : Value).ownBlock ∧ some k_ ≠ (.slice Ao33 y188.length co33 : Value).ownBlock) (.slice Ao26 y178.length co26) y178) := ⟨h0_⟩
            have n1_ : Aside0 (Kd.R Kd.string 9 w46 w.heap.size (fun k_ => some k_ ≠ (.slice Ao26 y178.length co26 : Value).ownBlock ∧ some k_ ≠ (.slice Ao34 y185.length co34 : Value).ownBlock ∧ some k_ ≠ (.slice Ao33 y188.length co33 : Value).ownBlock) (.slice Ao25 y181.length co25) y181) := ⟨h1_⟩
            have n2_ : Aside0 (Kd.R Kd.string 9 w46 w.heap.size (fun k_ => some k_ ≠ (.slice Ao26 y178.length co26 : Value).ownBlock ∧ some k_ ≠ (.slice Ao25 y181.length co25 : Value).ownBlock ∧ some k_ ≠ (.slice Ao33 y188.length co33 : Value).ownBlock) (.slice Ao34 y185.length co34) y185) := ⟨h2_⟩
            have n3_ : Aside0 (Kd.R Kd.string 9 w46 w.heap.size (fun k_ => some k_ ≠ (.slice Ao26 y178.length co26 : Value).ownBlock ∧ some k_ ≠ (.slice Ao25 y181.length co25 : Value).ownBlock ∧ some k_ ≠ (.slice Ao34 y185.length co34 : Value).ownBlock) (.slice Ao33 y188.length co33) y188) := ⟨h3_⟩
            have n4_ : Aside0 (w46.heap[gb184]? = some (.cells #[.string (⟨#[112]⟩ : ByteArray), .int .i64 0, .int .i64 2, .int .i64 3, .slice Ao26 y178.length co26, .slice Ao25 y181.length co25, .bool false] 28 (0, 0))) := ⟨h4_⟩
            have n5_ : Aside0 (w46.heap[gb191]? = some (.cells #[.string (⟨#[110]⟩ : ByteArray), .int .i64 5, .int .i64 5, .slice Ao34 y185.length co34, .slice Ao33 y188.length co33, .bool false] 31 (0, 0))) := ⟨h5_⟩
            have n6_ : Aside0 (w46.heap[gb192]? = some (.cells #[.string (⟨#[112]⟩ : ByteArray), .int .i64 0, .int .i64 2, .int .i64 3, .slice Ao26 y178.length co26, .slice Ao25 y181.length co25, .bool true] 28 (0, 0))) := ⟨h6_⟩
            have n7_ : Aside0 (w46.heap[gb193]? = some (.cells #[.string (⟨#[]⟩ : ByteArray), .int .i64 0, .int .i64 0, .slice none 0 0, .slice none 0 0, .bool false] 31 (0, 0))) := ⟨h7_⟩
            have n8_ : Aside0 (w.heap.size ≤ gb193) := ⟨h8_⟩
            have n9_ : Aside0 (w.heap.size ≤ gb193) := ⟨h9_⟩
            have n10_ : Aside0 (gb184 ≠ gb193) := ⟨h10_⟩
            have n11_ : Aside0 (gb193 ≠ gb184) := ⟨h11_⟩
            have n12_ : Aside0 (gb191 ≠ gb193) := ⟨h12_⟩
            have n13_ : Aside0 (gb193 ≠ gb191) := ⟨h13_⟩
            have n14_ : Aside0 (gb192 ≠ gb193) := ⟨h14_⟩
            have n15_ : Aside0 (gb193 ≠ gb192) := ⟨h15_⟩
            have n16_ : Aside0 (Below w.heap.size w w46) := ⟨h16_⟩
            clear HO180
            clear HO183
            clear HO187
            clear HO190
            clear BK184
            clear BK191
            clear BK192
            clear HB
            clear h0_ h1_ h2_ h3_ h4_ h5_ h6_ h7_ h8_ h9_ h10_ h11_ h12_ h13_ h14_ h15_ h16_
            have HO180 := n0_
            have HO183 := n1_
            have HO187 := n2_
            have HO190 := n3_
            have BK184 := n4_
            have BK191 := n5_
            have BK192 := n6_
            have BK193 := n7_
            have GW193 := n8_
            have GE193 := n9_
            have NB184_193 := n10_
            have NB193_184 := n11_
            have NB191_193 := n12_
            have NB193_191 := n13_
            have NB192_193 := n14_
            have NB193_192 := n15_
            have HB := n16_
            clear n0_ n1_ n2_ n3_ n4_ n5_ n6_ n7_ n8_ n9_ n10_ n11_ n12_ n13_ n14_ n15_ n16_
            have hHeld : w46.cell? ⟨gb191, 0, none⟩ = some (.string (⟨#[110]⟩ : ByteArray)) ∧ w46.cell? ⟨gb191, 1, none⟩ = some (.int .i64 5) ∧ w46.cell? ⟨gb191, 2, none⟩ = some (.int .i64 5) ∧ w46.cell? ⟨gb191, 3, none⟩ = some (.slice Ao34 y185.length co34) ∧ w46.cell? ⟨gb191, 4, none⟩ = some (.slice Ao33 y188.length co33) ∧ w46.cell? ⟨gb191, 5, none⟩ = some (.bool false) := hS_
            refine norm_ (a' := ?_) ?_ ?_
            rotate_left
            · simp only [putAll, Act.put, List.setIfInBounds_toArray, List.set_cons_zero, List.set_cons_succ]
              rfl
            refine two_ (i := 4) (j := 5) (Ni := some 7) (Nj := some 8) #[true, true, true, true, true, false, false, false, false] #[true, true, true, true, false, true, false, false, false] rfl rfl rfl rfl (two_of HT_.out (by kernel_rfl)) (by decide) (by decide) (fun K hK => ?_) (fun K hK => ?_)
            · skip
              refine box_step ?hg (N := 7) ?hd (cs := #[.string (⟨#[]⟩ : ByteArray), .int .i64 0, .int .i64 0, .slice none 0 0, .slice none 0 0, .bool false]) (t := 31) ?hr ?_; (case hd => rfl); (case hg => rfl); (case hr => first | (go_simp; done) | (go_simp; rfl))
              intro gb194 hg w47 hbox hb
              have n0_ := Aside0.mk (Kd.R_below (by (with_reducible repeat (first | apply Kd.R_alloc | apply Kd.R_drewN | apply Kd.R_drew)); exact HO180.out) hb)
              have n1_ := Aside0.mk (Kd.R_below (by (with_reducible repeat (first | apply Kd.R_alloc | apply Kd.R_drewN | apply Kd.R_drew)); exact HO183.out) hb)
              have n2_ := Aside0.mk (Kd.R_below (by (with_reducible repeat (first | apply Kd.R_alloc | apply Kd.R_drewN | apply Kd.R_drew)); exact HO187.out) hb)
              have n3_ := Aside0.mk (Kd.R_below (by (with_reducible repeat (first | apply Kd.R_alloc | apply Kd.R_drewN | apply Kd.R_drew)); exact HO190.out) hb)
              have n4_ := Aside0.mk (blk_below (g := gb184) (o := .cells #[.string (⟨#[112]⟩ : ByteArray), .int .i64 0, .int .i64 2, .int .i64 3, .slice Ao26 y178.length co26, .slice Ao25 y181.length co25, .bool false] 28 (0, 0)) (by (with_reducible repeat (first | refine blk_drewN ?_ _ | refine blk_drew ?_ | refine blk_alloc ?_ _)); exact BK184.out) hb)
              have n5_ := Aside0.mk (blk_below (g := gb191) (o := .cells #[.string (⟨#[110]⟩ : ByteArray), .int .i64 5, .int .i64 5, .slice Ao34 y185.length co34, .slice Ao33 y188.length co33, .bool false] 31 (0, 0)) (by (with_reducible repeat (first | refine blk_drewN ?_ _ | refine blk_drew ?_ | refine blk_alloc ?_ _)); exact BK191.out) hb)
              have n6_ := Aside0.mk (blk_below (g := gb192) (o := .cells #[.string (⟨#[112]⟩ : ByteArray), .int .i64 0, .int .i64 2, .int .i64 3, .slice Ao26 y178.length co26, .slice Ao25 y181.length co25, .bool true] 28 (0, 0)) (by (with_reducible repeat (first | refine blk_drewN ?_ _ | refine blk_drew ?_ | refine blk_alloc ?_ _)); exact BK192.out) hb)
              have n7_ := Aside0.mk (blk_below (g := gb193) (o := .cells #[.string (⟨#[]⟩ : ByteArray), .int .i64 0, .int .i64 0, .slice none 0 0, .slice none 0 0, .bool false] 31 (0, 0)) (by (with_reducible repeat (first | refine blk_drewN ?_ _ | refine blk_drew ?_ | refine blk_alloc ?_ _)); exact BK193.out) hb)
              have n8_ := Aside0.mk (below_step (by repeat (first | (with_reducible first | exact HB.out | apply below_alloc | apply pw_below_drewN | apply below_drew1 | refine below_set ?_ GE184.out | refine below_set ?_ GE191.out | refine below_set ?_ GE192.out | refine below_set ?_ GE193.out) | exact HB.out)) hb)
              have n9_ := Aside0.mk (hbox)
              have n10_ := Aside0.mk ((by rw [hg]; exact (below_size (by repeat (first | (with_reducible first | exact HB.out | apply below_alloc | apply pw_below_drewN | apply below_drew1 | refine below_set ?_ GE184.out | refine below_set ?_ GE191.out | refine below_set ?_ GE192.out | refine below_set ?_ GE193.out) | exact HB.out))) : w.heap.size ≤ gb194))
              have n11_ := Aside0.mk ((by rw [hg]; exact (below_size (by repeat (first | (with_reducible first | exact HB.out | apply below_alloc | apply pw_below_drewN | apply below_drew1 | refine below_set ?_ GE184.out | refine below_set ?_ GE191.out | refine below_set ?_ GE192.out | refine below_set ?_ GE193.out) | exact HB.out))) : w.heap.size ≤ gb194))
              have n12_ := Aside0.mk ((by rw [hg]; exact Nat.ne_of_lt (blk_lt (g := gb184) (o := .cells #[.string (⟨#[112]⟩ : ByteArray), .int .i64 0, .int .i64 2, .int .i64 3, .slice Ao26 y178.length co26, .slice Ao25 y181.length co25, .bool false] 28 (0, 0)) (by (with_reducible repeat (first | refine blk_drewN ?_ _ | refine blk_drew ?_ | refine blk_alloc ?_ _)); exact BK184.out)) : gb184 ≠ gb194))
              have n13_ := Aside0.mk ((by rw [hg]; exact Nat.ne_of_gt (blk_lt (g := gb184) (o := .cells #[.string (⟨#[112]⟩ : ByteArray), .int .i64 0, .int .i64 2, .int .i64 3, .slice Ao26 y178.length co26, .slice Ao25 y181.length co25, .bool false] 28 (0, 0)) (by (with_reducible repeat (first | refine blk_drewN ?_ _ | refine blk_drew ?_ | refine blk_alloc ?_ _)); exact BK184.out)) : gb194 ≠ gb184))
              have n14_ := Aside0.mk ((by rw [hg]; exact Nat.ne_of_lt (blk_lt (g := gb191) (o := .cells #[.string (⟨#[110]⟩ : ByteArray), .int .i64 5, .int .i64 5, .slice Ao34 y185.length co34, .slice Ao33 y188.length co33, .bool false] 31 (0, 0)) (by (with_reducible repeat (first | refine blk_drewN ?_ _ | refine blk_drew ?_ | refine blk_alloc ?_ _)); exact BK191.out)) : gb191 ≠ gb194))
              have n15_ := Aside0.mk ((by rw [hg]; exact Nat.ne_of_gt (blk_lt (g := gb191) (o := .cells #[.string (⟨#[110]⟩ : ByteArray), .int .i64 5, .int .i64 5, .slice Ao34 y185.length co34, .slice Ao33 y188.length co33, .bool false] 31 (0, 0)) (by (with_reducible repeat (first | refine blk_drewN ?_ _ | refine blk_drew ?_ | refine blk_alloc ?_ _)); exact BK191.out)) : gb194 ≠ gb191))
              have n16_ := Aside0.mk ((by rw [hg]; exact Nat.ne_of_lt (blk_lt (g := gb192) (o := .cells #[.string (⟨#[112]⟩ : ByteArray), .int .i64 0, .int .i64 2, .int .i64 3, .slice Ao26 y178.length co26, .slice Ao25 y181.length co25, .bool true] 28 (0, 0)) (by (with_reducible repeat (first | refine blk_drewN ?_ _ | refine blk_drew ?_ | refine blk_alloc ?_ _)); exact BK192.out)) : gb192 ≠ gb194))
              have n17_ := Aside0.mk ((by rw [hg]; exact Nat.ne_of_gt (blk_lt (g := gb192) (o := .cells #[.string (⟨#[112]⟩ : ByteArray), .int .i64 0, .int .i64 2, .int .i64 3, .slice Ao26 y178.length co26, .slice Ao25 y181.length co25, .bool true] 28 (0, 0)) (by (with_reducible repeat (first | refine blk_drewN ?_ _ | refine blk_drew ?_ | refine blk_alloc ?_ _)); exact BK192.out)) : gb194 ≠ gb192))
              have n18_ := Aside0.mk ((by rw [hg]; exact Nat.ne_of_lt (blk_lt (g := gb193) (o := .cells #[.string (⟨#[]⟩ : ByteArray), .int .i64 0, .int .i64 0, .slice none 0 0, .slice none 0 0, .bool false] 31 (0, 0)) (by (with_reducible repeat (first | refine blk_drewN ?_ _ | refine blk_drew ?_ | refine blk_alloc ?_ _)); exact BK193.out)) : gb193 ≠ gb194))
              have n19_ := Aside0.mk ((by rw [hg]; exact Nat.ne_of_gt (blk_lt (g := gb193) (o := .cells #[.string (⟨#[]⟩ : ByteArray), .int .i64 0, .int .i64 0, .slice none 0 0, .slice none 0 0, .bool false] 31 (0, 0)) (by (with_reducible repeat (first | refine blk_drewN ?_ _ | refine blk_drew ?_ | refine blk_alloc ?_ _)); exact BK193.out)) : gb194 ≠ gb193))
              clear HO180
              clear HO183
              clear HO187
              clear HO190
              clear BK184
              clear BK191
              clear BK192
              clear BK193
              clear HB
              have HO180 := n0_
              have HO183 := n1_
              have HO187 := n2_
              have HO190 := n3_
              have BK184 := n4_
              have BK191 := n5_
              have BK192 := n6_
              have BK193 := n7_
              have HB := n8_
              have BK194 := n9_
              have GW194 := n10_
              have GE194 := n11_
              have NB184_194 := n12_
              have NB194_184 := n13_
              have NB191_194 := n14_
              have NB194_191 := n15_
              have NB192_194 := n16_
              have NB194_192 := n17_
              have NB193_194 := n18_
              have NB194_193 := n19_
              clear n0_ n1_ n2_ n3_ n4_ n5_ n6_ n7_ n8_ n9_ n10_ n11_ n12_ n13_ n14_ n15_ n16_ n17_ n18_ n19_
              clear hb hbox hg
              refine hK.out _ _ ⟨(blk_cell BK191.out 0).trans rfl, (blk_cell BK191.out 1).trans rfl, (blk_cell BK191.out 2).trans rfl, (blk_cell BK191.out 3).trans rfl, (blk_cell BK191.out 4).trans rfl, (blk_cell BK191.out 5).trans rfl⟩ (fun hHeld => ?_)
              clear hK K
              refine norm_ (a' := ?_) ?_ ?_
              rotate_left
              · show Act.put _ (some 7) _ = _
                simp only [Act.put, List.setIfInBounds_toArray, List.set_cons_zero, List.set_cons_succ, i64_w, i32_w]
                rfl
              exact norm_ (by first | (simp only [putAll, Act.put, List.setIfInBounds_toArray, List.set_cons_zero, List.set_cons_succ]; done) | (simp only [putAll, Act.put, List.setIfInBounds_toArray, List.set_cons_zero, List.set_cons_succ]; rfl)) (hJ3_4 (gb193, gb194) _ ⟨hHeld, (by (with_reducible repeat (first | apply Kd.R_alloc | apply Kd.R_drewN | apply Kd.R_drew)); exact HO180.out), (by (with_reducible repeat (first | apply Kd.R_alloc | apply Kd.R_drewN | apply Kd.R_drew)); exact HO183.out), (by (with_reducible repeat (first | apply Kd.R_alloc | apply Kd.R_drewN | apply Kd.R_drew)); exact HO187.out), (by (with_reducible repeat (first | apply Kd.R_alloc | apply Kd.R_drewN | apply Kd.R_drew)); exact HO190.out), (by (with_reducible repeat (first | refine blk_drewN ?_ _ | refine blk_drew ?_ | refine blk_alloc ?_ _)); exact BK184.out), (by (with_reducible repeat (first | refine blk_drewN ?_ _ | refine blk_drew ?_ | refine blk_alloc ?_ _)); exact BK191.out), (by (with_reducible repeat (first | refine blk_drewN ?_ _ | refine blk_drew ?_ | refine blk_alloc ?_ _)); exact BK192.out), (by (with_reducible repeat (first | refine blk_drewN ?_ _ | refine blk_drew ?_ | refine blk_alloc ?_ _)); exact BK193.out), (by (with_reducible repeat (first | refine blk_drewN ?_ _ | refine blk_drew ?_ | refine blk_alloc ?_ _)); exact BK194.out), GW193.out, GE193.out, NB184_193.out, NB193_184.out, NB191_193.out, NB193_191.out, NB192_193.out, NB193_192.out, NB194_193.out, NB193_194.out, GW194.out, GE194.out, NB184_194.out, NB194_184.out, NB191_194.out, NB194_191.out, NB192_194.out, NB194_192.out, (by repeat (first | (with_reducible first | exact HB.out | apply below_alloc | apply pw_below_drewN | apply below_drew1 | refine below_set ?_ GE184.out | refine below_set ?_ GE191.out | refine below_set ?_ GE192.out | refine below_set ?_ GE193.out | refine below_set ?_ GE194.out) | exact HB.out))⟩)
            · skip
              refine box_step ?hg (N := 8) ?hd (cs := #[.string (⟨#[]⟩ : ByteArray), .int .i64 0, .int .i64 0, .slice none 0 0, .slice none 0 0, .bool false]) (t := 31) ?hr ?_; (case hd => rfl); (case hg => rfl); (case hr => first | (go_simp; done) | (go_simp; rfl))
              intro gb195 hg w47 hbox hb
              have n0_ := Aside0.mk (Kd.R_below (by (with_reducible repeat (first | apply Kd.R_alloc | apply Kd.R_drewN | apply Kd.R_drew)); exact HO180.out) hb)
              have n1_ := Aside0.mk (Kd.R_below (by (with_reducible repeat (first | apply Kd.R_alloc | apply Kd.R_drewN | apply Kd.R_drew)); exact HO183.out) hb)
              have n2_ := Aside0.mk (Kd.R_below (by (with_reducible repeat (first | apply Kd.R_alloc | apply Kd.R_drewN | apply Kd.R_drew)); exact HO187.out) hb)
              have n3_ := Aside0.mk (Kd.R_below (by (with_reducible repeat (first | apply Kd.R_alloc | apply Kd.R_drewN | apply Kd.R_drew)); exact HO190.out) hb)
              have n4_ := Aside0.mk (blk_below (g := gb184) (o := .cells #[.string (⟨#[112]⟩ : ByteArray), .int .i64 0, .int .i64 2, .int .i64 3, .slice Ao26 y178.length co26, .slice Ao25 y181.length co25, .bool false] 28 (0, 0)) (by (with_reducible repeat (first | refine blk_drewN ?_ _ | refine blk_drew ?_ | refine blk_alloc ?_ _)); exact BK184.out) hb)
              have n5_ := Aside0.mk (blk_below (g := gb191) (o := .cells #[.string (⟨#[110]⟩ : ByteArray), .int .i64 5, .int .i64 5, .slice Ao34 y185.length co34, .slice Ao33 y188.length co33, .bool false] 31 (0, 0)) (by (with_reducible repeat (first | refine blk_drewN ?_ _ | refine blk_drew ?_ | refine blk_alloc ?_ _)); exact BK191.out) hb)
              have n6_ := Aside0.mk (blk_below (g := gb192) (o := .cells #[.string (⟨#[112]⟩ : ByteArray), .int .i64 0, .int .i64 2, .int .i64 3, .slice Ao26 y178.length co26, .slice Ao25 y181.length co25, .bool true] 28 (0, 0)) (by (with_reducible repeat (first | refine blk_drewN ?_ _ | refine blk_drew ?_ | refine blk_alloc ?_ _)); exact BK192.out) hb)
              have n7_ := Aside0.mk (blk_below (g := gb193) (o := .cells #[.string (⟨#[]⟩ : ByteArray), .int .i64 0, .int .i64 0, .slice none 0 0, .slice none 0 0, .bool false] 31 (0, 0)) (by (with_reducible repeat (first | refine blk_drewN ?_ _ | refine blk_drew ?_ | refine blk_alloc ?_ _)); exact BK193.out) hb)
              have n8_ := Aside0.mk (below_step (by repeat (first | (with_reducible first | exact HB.out | apply below_alloc | apply pw_below_drewN | apply below_drew1 | refine below_set ?_ GE184.out | refine below_set ?_ GE191.out | refine below_set ?_ GE192.out | refine below_set ?_ GE193.out) | exact HB.out)) hb)
              have n9_ := Aside0.mk (hbox)
              have n10_ := Aside0.mk ((by rw [hg]; exact (below_size (by repeat (first | (with_reducible first | exact HB.out | apply below_alloc | apply pw_below_drewN | apply below_drew1 | refine below_set ?_ GE184.out | refine below_set ?_ GE191.out | refine below_set ?_ GE192.out | refine below_set ?_ GE193.out) | exact HB.out))) : w.heap.size ≤ gb195))
              have n11_ := Aside0.mk ((by rw [hg]; exact (below_size (by repeat (first | (with_reducible first | exact HB.out | apply below_alloc | apply pw_below_drewN | apply below_drew1 | refine below_set ?_ GE184.out | refine below_set ?_ GE191.out | refine below_set ?_ GE192.out | refine below_set ?_ GE193.out) | exact HB.out))) : w.heap.size ≤ gb195))
              have n12_ := Aside0.mk ((by rw [hg]; exact Nat.ne_of_lt (blk_lt (g := gb184) (o := .cells #[.string (⟨#[112]⟩ : ByteArray), .int .i64 0, .int .i64 2, .int .i64 3, .slice Ao26 y178.length co26, .slice Ao25 y181.length co25, .bool false] 28 (0, 0)) (by (with_reducible repeat (first | refine blk_drewN ?_ _ | refine blk_drew ?_ | refine blk_alloc ?_ _)); exact BK184.out)) : gb184 ≠ gb195))
              have n13_ := Aside0.mk ((by rw [hg]; exact Nat.ne_of_gt (blk_lt (g := gb184) (o := .cells #[.string (⟨#[112]⟩ : ByteArray), .int .i64 0, .int .i64 2, .int .i64 3, .slice Ao26 y178.length co26, .slice Ao25 y181.length co25, .bool false] 28 (0, 0)) (by (with_reducible repeat (first | refine blk_drewN ?_ _ | refine blk_drew ?_ | refine blk_alloc ?_ _)); exact BK184.out)) : gb195 ≠ gb184))
              have n14_ := Aside0.mk ((by rw [hg]; exact Nat.ne_of_lt (blk_lt (g := gb191) (o := .cells #[.string (⟨#[110]⟩ : ByteArray), .int .i64 5, .int .i64 5, .slice Ao34 y185.length co34, .slice Ao33 y188.length co33, .bool false] 31 (0, 0)) (by (with_reducible repeat (first | refine blk_drewN ?_ _ | refine blk_drew ?_ | refine blk_alloc ?_ _)); exact BK191.out)) : gb191 ≠ gb195))
              have n15_ := Aside0.mk ((by rw [hg]; exact Nat.ne_of_gt (blk_lt (g := gb191) (o := .cells #[.string (⟨#[110]⟩ : ByteArray), .int .i64 5, .int .i64 5, .slice Ao34 y185.length co34, .slice Ao33 y188.length co33, .bool false] 31 (0, 0)) (by (with_reducible repeat (first | refine blk_drewN ?_ _ | refine blk_drew ?_ | refine blk_alloc ?_ _)); exact BK191.out)) : gb195 ≠ gb191))
              have n16_ := Aside0.mk ((by rw [hg]; exact Nat.ne_of_lt (blk_lt (g := gb192) (o := .cells #[.string (⟨#[112]⟩ : ByteArray), .int .i64 0, .int .i64 2, .int .i64 3, .slice Ao26 y178.length co26, .slice Ao25 y181.length co25, .bool true] 28 (0, 0)) (by (with_reducible repeat (first | refine blk_drewN ?_ _ | refine blk_drew ?_ | refine blk_alloc ?_ _)); exact BK192.out)) : gb192 ≠ gb195))
              have n17_ := Aside0.mk ((by rw [hg]; exact Nat.ne_of_gt (blk_lt (g := gb192) (o := .cells #[.string (⟨#[112]⟩ : ByteArray), .int .i64 0, .int .i64 2, .int .i64 3, .slice Ao26 y178.length co26, .slice Ao25 y181.length co25, .bool true] 28 (0, 0)) (by (with_reducible repeat (first | refine blk_drewN ?_ _ | refine blk_drew ?_ | refine blk_alloc ?_ _)); exact BK192.out)) : gb195 ≠ gb192))
              have n18_ := Aside0.mk ((by rw [hg]; exact Nat.ne_of_lt (blk_lt (g := gb193) (o := .cells #[.string (⟨#[]⟩ : ByteArray), .int .i64 0, .int .i64 0, .slice none 0 0, .slice none 0 0, .bool false] 31 (0, 0)) (by (with_reducible repeat (first | refine blk_drewN ?_ _ | refine blk_drew ?_ | refine blk_alloc ?_ _)); exact BK193.out)) : gb193 ≠ gb195))
              have n19_ := Aside0.mk ((by rw [hg]; exact Nat.ne_of_gt (blk_lt (g := gb193) (o := .cells #[.string (⟨#[]⟩ : ByteArray), .int .i64 0, .int .i64 0, .slice none 0 0, .slice none 0 0, .bool false] 31 (0, 0)) (by (with_reducible repeat (first | refine blk_drewN ?_ _ | refine blk_drew ?_ | refine blk_alloc ?_ _)); exact BK193.out)) : gb195 ≠ gb193))
              clear HO180
              clear HO183
              clear HO187
              clear HO190
              clear BK184
              clear BK191
              clear BK192
              clear BK193
              clear HB
              have HO180 := n0_
              have HO183 := n1_
              have HO187 := n2_
              have HO190 := n3_
              have BK184 := n4_
              have BK191 := n5_
              have BK192 := n6_
              have BK193 := n7_
              have HB := n8_
              have BK195 := n9_
              have GW195 := n10_
              have GE195 := n11_
              have NB184_195 := n12_
              have NB195_184 := n13_
              have NB191_195 := n14_
              have NB195_191 := n15_
              have NB192_195 := n16_
              have NB195_192 := n17_
              have NB193_195 := n18_
              have NB195_193 := n19_
              clear n0_ n1_ n2_ n3_ n4_ n5_ n6_ n7_ n8_ n9_ n10_ n11_ n12_ n13_ n14_ n15_ n16_ n17_ n18_ n19_
              clear hb hbox hg
              refine hK.out _ _ ⟨(blk_cell BK191.out 0).trans rfl, (blk_cell BK191.out 1).trans rfl, (blk_cell BK191.out 2).trans rfl, (blk_cell BK191.out 3).trans rfl, (blk_cell BK191.out 4).trans rfl, (blk_cell BK191.out 5).trans rfl⟩ (fun hHeld => ?_)
              clear hK K
              refine norm_ (a' := ?_) ?_ ?_
              rotate_left
              · show Act.put _ (some 8) _ = _
                simp only [Act.put, List.setIfInBounds_toArray, List.set_cons_zero, List.set_cons_succ, i64_w, i32_w]
                rfl
              exact norm_ (by first | (simp only [putAll, Act.put, List.setIfInBounds_toArray, List.set_cons_zero, List.set_cons_succ]; done) | (simp only [putAll, Act.put, List.setIfInBounds_toArray, List.set_cons_zero, List.set_cons_succ]; rfl)) (hJ3_5 (gb193, gb195) _ ⟨hHeld, (by (with_reducible repeat (first | apply Kd.R_alloc | apply Kd.R_drewN | apply Kd.R_drew)); exact HO180.out), (by (with_reducible repeat (first | apply Kd.R_alloc | apply Kd.R_drewN | apply Kd.R_drew)); exact HO183.out), (by (with_reducible repeat (first | apply Kd.R_alloc | apply Kd.R_drewN | apply Kd.R_drew)); exact HO187.out), (by (with_reducible repeat (first | apply Kd.R_alloc | apply Kd.R_drewN | apply Kd.R_drew)); exact HO190.out), (by (with_reducible repeat (first | refine blk_drewN ?_ _ | refine blk_drew ?_ | refine blk_alloc ?_ _)); exact BK184.out), (by (with_reducible repeat (first | refine blk_drewN ?_ _ | refine blk_drew ?_ | refine blk_alloc ?_ _)); exact BK191.out), (by (with_reducible repeat (first | refine blk_drewN ?_ _ | refine blk_drew ?_ | refine blk_alloc ?_ _)); exact BK192.out), (by (with_reducible repeat (first | refine blk_drewN ?_ _ | refine blk_drew ?_ | refine blk_alloc ?_ _)); exact BK193.out), (by (with_reducible repeat (first | refine blk_drewN ?_ _ | refine blk_drew ?_ | refine blk_alloc ?_ _)); exact BK195.out), GW193.out, GE193.out, NB184_193.out, NB193_184.out, NB191_193.out, NB193_191.out, NB192_193.out, NB193_192.out, NB195_193.out, NB193_195.out, GW195.out, GE195.out, NB184_195.out, NB195_184.out, NB191_195.out, NB195_191.out, NB192_195.out, NB195_192.out, (by repeat (first | (with_reducible first | exact HB.out | apply below_alloc | apply pw_below_drewN | apply below_drew1 | refine below_set ?_ GE184.out | refine below_set ?_ GE191.out | refine below_set ?_ GE192.out | refine below_set ?_ GE193.out | refine below_set ?_ GE195.out) | exact HB.out))⟩)
        · skip
          rintro ⟨gb194, gb195⟩ w47 ⟨hS_, h0_, h1_, h2_, h3_, h4_, h5_, h6_, h7_, h8_, h9_, h10_, h11_, h12_, h13_, h14_, h15_, h16_, h17_, h18_, h19_, h20_, h21_, h22_, h23_, h24_, h25_, h26_, h27_⟩
          have n0_ : Aside0 (Kd.R Kd.string 9 w47 w.heap.size (fun k_ => some k_ ≠ (.slice Ao25 y181.length co25 : Value).ownBlock ∧ some k_ ≠ (.slice Ao34 y185.length co34 : Value).ownBlock ∧ some k_ ≠ (.slice Ao33 y188.length co33 : Value).ownBlock) (.slice Ao26 y178.length co26) y178) := ⟨h0_⟩
          have n1_ : Aside0 (Kd.R Kd.string 9 w47 w.heap.size (fun k_ => some k_ ≠ (.slice Ao26 y178.length co26 : Value).ownBlock ∧ some k_ ≠ (.slice Ao34 y185.length co34 : Value).ownBlock ∧ some k_ ≠ (.slice Ao33 y188.length co33 : Value).ownBlock) (.slice Ao25 y181.length co25) y181) := ⟨h1_⟩
          have n2_ : Aside0 (Kd.R Kd.string 9 w47 w.heap.size (fun k_ => some k_ ≠ (.slice Ao26 y178.length co26 : Value).ownBlock ∧ some k_ ≠ (.slice Ao25 y181.length co25 : Value).ownBlock ∧ some k_ ≠ (.slice Ao33 y188.length co33 : Value).ownBlock) (.slice Ao34 y185.length co34) y185) := ⟨h2_⟩
          have n3_ : Aside0 (Kd.R Kd.string 9 w47 w.heap.size (fun k_ => some k_ ≠ (.slice Ao26 y178.length co26 : Value).ownBlock ∧ some k_ ≠ (.slice Ao25 y181.length co25 : Value).ownBlock ∧ some k_ ≠ (.slice Ao34 y185.length co34 : Value).ownBlock) (.slice Ao33 y188.length co33) y188) := ⟨h3_⟩
          have n4_ : Aside0 (w47.heap[gb184]? = some (.cells #[.string (⟨#[112]⟩ : ByteArray), .int .i64 0, .int .i64 2, .int .i64 3, .slice Ao26 y178.length co26, .slice Ao25 y181.length co25, .bool false] 28 (0, 0))) := ⟨h4_⟩
          have n5_ : Aside0 (w47.heap[gb191]? = some (.cells #[.string (⟨#[110]⟩ : ByteArray), .int .i64 5, .int .i64 5, .slice Ao34 y185.length co34, .slice Ao33 y188.length co33, .bool false] 31 (0, 0))) := ⟨h5_⟩
          have n6_ : Aside0 (w47.heap[gb192]? = some (.cells #[.string (⟨#[112]⟩ : ByteArray), .int .i64 0, .int .i64 2, .int .i64 3, .slice Ao26 y178.length co26, .slice Ao25 y181.length co25, .bool true] 28 (0, 0))) := ⟨h6_⟩
          have n7_ : Aside0 (w47.heap[gb194]? = some (.cells #[.string (⟨#[]⟩ : ByteArray), .int .i64 0, .int .i64 0, .slice none 0 0, .slice none 0 0, .bool false] 31 (0, 0))) := ⟨h7_⟩
          have n8_ : Aside0 (w47.heap[gb195]? = some (.cells #[.string (⟨#[]⟩ : ByteArray), .int .i64 0, .int .i64 0, .slice none 0 0, .slice none 0 0, .bool false] 31 (0, 0))) := ⟨h8_⟩
          have n9_ : Aside0 (w.heap.size ≤ gb194) := ⟨h9_⟩
          have n10_ : Aside0 (w.heap.size ≤ gb194) := ⟨h10_⟩
          have n11_ : Aside0 (gb184 ≠ gb194) := ⟨h11_⟩
          have n12_ : Aside0 (gb194 ≠ gb184) := ⟨h12_⟩
          have n13_ : Aside0 (gb191 ≠ gb194) := ⟨h13_⟩
          have n14_ : Aside0 (gb194 ≠ gb191) := ⟨h14_⟩
          have n15_ : Aside0 (gb192 ≠ gb194) := ⟨h15_⟩
          have n16_ : Aside0 (gb194 ≠ gb192) := ⟨h16_⟩
          have n17_ : Aside0 (gb195 ≠ gb194) := ⟨h17_⟩
          have n18_ : Aside0 (gb194 ≠ gb195) := ⟨h18_⟩
          have n19_ : Aside0 (w.heap.size ≤ gb195) := ⟨h19_⟩
          have n20_ : Aside0 (w.heap.size ≤ gb195) := ⟨h20_⟩
          have n21_ : Aside0 (gb184 ≠ gb195) := ⟨h21_⟩
          have n22_ : Aside0 (gb195 ≠ gb184) := ⟨h22_⟩
          have n23_ : Aside0 (gb191 ≠ gb195) := ⟨h23_⟩
          have n24_ : Aside0 (gb195 ≠ gb191) := ⟨h24_⟩
          have n25_ : Aside0 (gb192 ≠ gb195) := ⟨h25_⟩
          have n26_ : Aside0 (gb195 ≠ gb192) := ⟨h26_⟩
          have n27_ : Aside0 (Below w.heap.size w w47) := ⟨h27_⟩
          clear HO180
          clear HO183
          clear HO187
          clear HO190
          clear BK184
          clear BK191
          clear BK192
          clear HB
          clear h0_ h1_ h2_ h3_ h4_ h5_ h6_ h7_ h8_ h9_ h10_ h11_ h12_ h13_ h14_ h15_ h16_ h17_ h18_ h19_ h20_ h21_ h22_ h23_ h24_ h25_ h26_ h27_
          have HO180 := n0_
          have HO183 := n1_
          have HO187 := n2_
          have HO190 := n3_
          have BK184 := n4_
          have BK191 := n5_
          have BK192 := n6_
          have BK194 := n7_
          have BK195 := n8_
          have GW194 := n9_
          have GE194 := n10_
          have NB184_194 := n11_
          have NB194_184 := n12_
          have NB191_194 := n13_
          have NB194_191 := n14_
          have NB192_194 := n15_
          have NB194_192 := n16_
          have NB195_194 := n17_
          have NB194_195 := n18_
          have GW195 := n19_
          have GE195 := n20_
          have NB184_195 := n21_
          have NB195_184 := n22_
          have NB191_195 := n23_
          have NB195_191 := n24_
          have NB192_195 := n25_
          have NB195_192 := n26_
          have HB := n27_
          clear n0_ n1_ n2_ n3_ n4_ n5_ n6_ n7_ n8_ n9_ n10_ n11_ n12_ n13_ n14_ n15_ n16_ n17_ n18_ n19_ n20_ n21_ n22_ n23_ n24_ n25_ n26_ n27_
          have hHeld : w47.cell? ⟨gb191, 0, none⟩ = some (.string (⟨#[110]⟩ : ByteArray)) ∧ w47.cell? ⟨gb191, 1, none⟩ = some (.int .i64 5) ∧ w47.cell? ⟨gb191, 2, none⟩ = some (.int .i64 5) ∧ w47.cell? ⟨gb191, 3, none⟩ = some (.slice Ao34 y185.length co34) ∧ w47.cell? ⟨gb191, 4, none⟩ = some (.slice Ao33 y188.length co33) ∧ w47.cell? ⟨gb191, 5, none⟩ = some (.bool false) := hS_
          refine norm_ (a' := ?_) ?_ ?_
          rotate_left
          · simp only [putAll, Act.put, List.setIfInBounds_toArray, List.set_cons_zero, List.set_cons_succ]
            rfl
          refine one_ (i := 3) (N := some 6) #[true, true, true, true, true, true, false, false, false] rfl rfl (one_of HT_.out (by kernel_rfl)) (by decide) (fun K hK => ?_)
          refine box_step ?hg (N := 6) ?hd (cs := #[.string (⟨#[]⟩ : ByteArray), .int .i64 0, .int .i64 0, .slice none 0 0, .slice none 0 0, .bool false]) (t := 31) ?hr ?_; (case hd => rfl); (case hg => rfl); (case hr => first | (go_simp; done) | (go_simp; rfl))
          intro gb193 hg w48 hbox hb
          have n0_ := Aside0.mk (Kd.R_below (by (with_reducible repeat (first | apply Kd.R_alloc | apply Kd.R_drewN | apply Kd.R_drew)); exact HO180.out) hb)
          have n1_ := Aside0.mk (Kd.R_below (by (with_reducible repeat (first | apply Kd.R_alloc | apply Kd.R_drewN | apply Kd.R_drew)); exact HO183.out) hb)
          have n2_ := Aside0.mk (Kd.R_below (by (with_reducible repeat (first | apply Kd.R_alloc | apply Kd.R_drewN | apply Kd.R_drew)); exact HO187.out) hb)
          have n3_ := Aside0.mk (Kd.R_below (by (with_reducible repeat (first | apply Kd.R_alloc | apply Kd.R_drewN | apply Kd.R_drew)); exact HO190.out) hb)
          have n4_ := Aside0.mk (blk_below (g := gb184) (o := .cells #[.string (⟨#[112]⟩ : ByteArray), .int .i64 0, .int .i64 2, .int .i64 3, .slice Ao26 y178.length co26, .slice Ao25 y181.length co25, .bool false] 28 (0, 0)) (by (with_reducible repeat (first | refine blk_drewN ?_ _ | refine blk_drew ?_ | refine blk_alloc ?_ _)); exact BK184.out) hb)
          have n5_ := Aside0.mk (blk_below (g := gb191) (o := .cells #[.string (⟨#[110]⟩ : ByteArray), .int .i64 5, .int .i64 5, .slice Ao34 y185.length co34, .slice Ao33 y188.length co33, .bool false] 31 (0, 0)) (by (with_reducible repeat (first | refine blk_drewN ?_ _ | refine blk_drew ?_ | refine blk_alloc ?_ _)); exact BK191.out) hb)
          have n6_ := Aside0.mk (blk_below (g := gb192) (o := .cells #[.string (⟨#[112]⟩ : ByteArray), .int .i64 0, .int .i64 2, .int .i64 3, .slice Ao26 y178.length co26, .slice Ao25 y181.length co25, .bool true] 28 (0, 0)) (by (with_reducible repeat (first | refine blk_drewN ?_ _ | refine blk_drew ?_ | refine blk_alloc ?_ _)); exact BK192.out) hb)
          have n7_ := Aside0.mk (blk_below (g := gb194) (o := .cells #[.string (⟨#[]⟩ : ByteArray), .int .i64 0, .int .i64 0, .slice none 0 0, .slice none 0 0, .bool false] 31 (0, 0)) (by (with_reducible repeat (first | refine blk_drewN ?_ _ | refine blk_drew ?_ | refine blk_alloc ?_ _)); exact BK194.out) hb)
          have n8_ := Aside0.mk (blk_below (g := gb195) (o := .cells #[.string (⟨#[]⟩ : ByteArray), .int .i64 0, .int .i64 0, .slice none 0 0, .slice none 0 0, .bool false] 31 (0, 0)) (by (with_reducible repeat (first | refine blk_drewN ?_ _ | refine blk_drew ?_ | refine blk_alloc ?_ _)); exact BK195.out) hb)
          have n9_ := Aside0.mk (below_step (by repeat (first | (with_reducible first | exact HB.out | apply below_alloc | apply pw_below_drewN | apply below_drew1 | refine below_set ?_ GE184.out | refine below_set ?_ GE191.out | refine below_set ?_ GE192.out | refine below_set ?_ GE194.out | refine below_set ?_ GE195.out) | exact HB.out)) hb)
          have n10_ := Aside0.mk (hbox)
          have n11_ := Aside0.mk ((by rw [hg]; exact (below_size (by repeat (first | (with_reducible first | exact HB.out | apply below_alloc | apply pw_below_drewN | apply below_drew1 | refine below_set ?_ GE184.out | refine below_set ?_ GE191.out | refine below_set ?_ GE192.out | refine below_set ?_ GE194.out | refine below_set ?_ GE195.out) | exact HB.out))) : w.heap.size ≤ gb193))
          have n12_ := Aside0.mk ((by rw [hg]; exact (below_size (by repeat (first | (with_reducible first | exact HB.out | apply below_alloc | apply pw_below_drewN | apply below_drew1 | refine below_set ?_ GE184.out | refine below_set ?_ GE191.out | refine below_set ?_ GE192.out | refine below_set ?_ GE194.out | refine below_set ?_ GE195.out) | exact HB.out))) : w.heap.size ≤ gb193))
          have n13_ := Aside0.mk ((by rw [hg]; exact Nat.ne_of_lt (blk_lt (g := gb184) (o := .cells #[.string (⟨#[112]⟩ : ByteArray), .int .i64 0, .int .i64 2, .int .i64 3, .slice Ao26 y178.length co26, .slice Ao25 y181.length co25, .bool false] 28 (0, 0)) (by (with_reducible repeat (first | refine blk_drewN ?_ _ | refine blk_drew ?_ | refine blk_alloc ?_ _)); exact BK184.out)) : gb184 ≠ gb193))
          have n14_ := Aside0.mk ((by rw [hg]; exact Nat.ne_of_gt (blk_lt (g := gb184) (o := .cells #[.string (⟨#[112]⟩ : ByteArray), .int .i64 0, .int .i64 2, .int .i64 3, .slice Ao26 y178.length co26, .slice Ao25 y181.length co25, .bool false] 28 (0, 0)) (by (with_reducible repeat (first | refine blk_drewN ?_ _ | refine blk_drew ?_ | refine blk_alloc ?_ _)); exact BK184.out)) : gb193 ≠ gb184))
          have n15_ := Aside0.mk ((by rw [hg]; exact Nat.ne_of_lt (blk_lt (g := gb191) (o := .cells #[.string (⟨#[110]⟩ : ByteArray), .int .i64 5, .int .i64 5, .slice Ao34 y185.length co34, .slice Ao33 y188.length co33, .bool false] 31 (0, 0)) (by (with_reducible repeat (first | refine blk_drewN ?_ _ | refine blk_drew ?_ | refine blk_alloc ?_ _)); exact BK191.out)) : gb191 ≠ gb193))
          have n16_ := Aside0.mk ((by rw [hg]; exact Nat.ne_of_gt (blk_lt (g := gb191) (o := .cells #[.string (⟨#[110]⟩ : ByteArray), .int .i64 5, .int .i64 5, .slice Ao34 y185.length co34, .slice Ao33 y188.length co33, .bool false] 31 (0, 0)) (by (with_reducible repeat (first | refine blk_drewN ?_ _ | refine blk_drew ?_ | refine blk_alloc ?_ _)); exact BK191.out)) : gb193 ≠ gb191))
          have n17_ := Aside0.mk ((by rw [hg]; exact Nat.ne_of_lt (blk_lt (g := gb192) (o := .cells #[.string (⟨#[112]⟩ : ByteArray), .int .i64 0, .int .i64 2, .int .i64 3, .slice Ao26 y178.length co26, .slice Ao25 y181.length co25, .bool true] 28 (0, 0)) (by (with_reducible repeat (first | refine blk_drewN ?_ _ | refine blk_drew ?_ | refine blk_alloc ?_ _)); exact BK192.out)) : gb192 ≠ gb193))
          have n18_ := Aside0.mk ((by rw [hg]; exact Nat.ne_of_gt (blk_lt (g := gb192) (o := .cells #[.string (⟨#[112]⟩ : ByteArray), .int .i64 0, .int .i64 2, .int .i64 3, .slice Ao26 y178.length co26, .slice Ao25 y181.length co25, .bool true] 28 (0, 0)) (by (with_reducible repeat (first | refine blk_drewN ?_ _ | refine blk_drew ?_ | refine blk_alloc ?_ _)); exact BK192.out)) : gb193 ≠ gb192))
          have n19_ := Aside0.mk ((by rw [hg]; exact Nat.ne_of_lt (blk_lt (g := gb194) (o := .cells #[.string (⟨#[]⟩ : ByteArray), .int .i64 0, .int .i64 0, .slice none 0 0, .slice none 0 0, .bool false] 31 (0, 0)) (by (with_reducible repeat (first | refine blk_drewN ?_ _ | refine blk_drew ?_ | refine blk_alloc ?_ _)); exact BK194.out)) : gb194 ≠ gb193))
          have n20_ := Aside0.mk ((by rw [hg]; exact Nat.ne_of_gt (blk_lt (g := gb194) (o := .cells #[.string (⟨#[]⟩ : ByteArray), .int .i64 0, .int .i64 0, .slice none 0 0, .slice none 0 0, .bool false] 31 (0, 0)) (by (with_reducible repeat (first | refine blk_drewN ?_ _ | refine blk_drew ?_ | refine blk_alloc ?_ _)); exact BK194.out)) : gb193 ≠ gb194))
          have n21_ := Aside0.mk ((by rw [hg]; exact Nat.ne_of_lt (blk_lt (g := gb195) (o := .cells #[.string (⟨#[]⟩ : ByteArray), .int .i64 0, .int .i64 0, .slice none 0 0, .slice none 0 0, .bool false] 31 (0, 0)) (by (with_reducible repeat (first | refine blk_drewN ?_ _ | refine blk_drew ?_ | refine blk_alloc ?_ _)); exact BK195.out)) : gb195 ≠ gb193))
          have n22_ := Aside0.mk ((by rw [hg]; exact Nat.ne_of_gt (blk_lt (g := gb195) (o := .cells #[.string (⟨#[]⟩ : ByteArray), .int .i64 0, .int .i64 0, .slice none 0 0, .slice none 0 0, .bool false] 31 (0, 0)) (by (with_reducible repeat (first | refine blk_drewN ?_ _ | refine blk_drew ?_ | refine blk_alloc ?_ _)); exact BK195.out)) : gb193 ≠ gb195))
          clear HO180
          clear HO183
          clear HO187
          clear HO190
          clear BK184
          clear BK191
          clear BK192
          clear BK194
          clear BK195
          clear HB
          have HO180 := n0_
          have HO183 := n1_
          have HO187 := n2_
          have HO190 := n3_
          have BK184 := n4_
          have BK191 := n5_
          have BK192 := n6_
          have BK194 := n7_
          have BK195 := n8_
          have HB := n9_
          have BK193 := n10_
          have GW193 := n11_
          have GE193 := n12_
          have NB184_193 := n13_
          have NB193_184 := n14_
          have NB191_193 := n15_
          have NB193_191 := n16_
          have NB192_193 := n17_
          have NB193_192 := n18_
          have NB194_193 := n19_
          have NB193_194 := n20_
          have NB195_193 := n21_
          have NB193_195 := n22_
          clear n0_ n1_ n2_ n3_ n4_ n5_ n6_ n7_ n8_ n9_ n10_ n11_ n12_ n13_ n14_ n15_ n16_ n17_ n18_ n19_ n20_ n21_ n22_
          clear hb hbox hg
          refine hK.out _ _ ⟨(blk_cell BK191.out 0).trans rfl, (blk_cell BK191.out 1).trans rfl, (blk_cell BK191.out 2).trans rfl, (blk_cell BK191.out 3).trans rfl, (blk_cell BK191.out 4).trans rfl, (blk_cell BK191.out 5).trans rfl⟩ (fun hHeld => ?_)
          clear hK K
          refine norm_ (a' := ?_) ?_ ?_
          rotate_left
          · show Act.put _ (some 6) _ = _
            simp only [Act.put, List.setIfInBounds_toArray, List.set_cons_zero, List.set_cons_succ, i64_w, i32_w]
            rfl
          exact norm_ (by first | (simp only [putAll, Act.put, List.setIfInBounds_toArray, List.set_cons_zero, List.set_cons_succ]; done) | (simp only [putAll, Act.put, List.setIfInBounds_toArray, List.set_cons_zero, List.set_cons_succ]; rfl)) (hJ3_4_5 (gb193, gb194, gb195) _ ⟨hHeld, (by (with_reducible repeat (first | apply Kd.R_alloc | apply Kd.R_drewN | apply Kd.R_drew)); exact HO180.out), (by (with_reducible repeat (first | apply Kd.R_alloc | apply Kd.R_drewN | apply Kd.R_drew)); exact HO183.out), (by (with_reducible repeat (first | apply Kd.R_alloc | apply Kd.R_drewN | apply Kd.R_drew)); exact HO187.out), (by (with_reducible repeat (first | apply Kd.R_alloc | apply Kd.R_drewN | apply Kd.R_drew)); exact HO190.out), (by (with_reducible repeat (first | refine blk_drewN ?_ _ | refine blk_drew ?_ | refine blk_alloc ?_ _)); exact BK184.out), (by (with_reducible repeat (first | refine blk_drewN ?_ _ | refine blk_drew ?_ | refine blk_alloc ?_ _)); exact BK191.out), (by (with_reducible repeat (first | refine blk_drewN ?_ _ | refine blk_drew ?_ | refine blk_alloc ?_ _)); exact BK192.out), (by (with_reducible repeat (first | refine blk_drewN ?_ _ | refine blk_drew ?_ | refine blk_alloc ?_ _)); exact BK193.out), (by (with_reducible repeat (first | refine blk_drewN ?_ _ | refine blk_drew ?_ | refine blk_alloc ?_ _)); exact BK194.out), (by (with_reducible repeat (first | refine blk_drewN ?_ _ | refine blk_drew ?_ | refine blk_alloc ?_ _)); exact BK195.out), GW193.out, GE193.out, NB184_193.out, NB193_184.out, NB191_193.out, NB193_191.out, NB192_193.out, NB193_192.out, NB194_193.out, NB193_194.out, NB195_193.out, NB193_195.out, GW194.out, GE194.out, NB184_194.out, NB194_184.out, NB191_194.out, NB194_191.out, NB192_194.out, NB194_192.out, NB195_194.out, NB194_195.out, GW195.out, GE195.out, NB184_195.out, NB195_184.out, NB191_195.out, NB195_191.out, NB192_195.out, NB195_192.out, (by repeat (first | (with_reducible first | exact HB.out | apply below_alloc | apply pw_below_drewN | apply below_drew1 | refine below_set ?_ GE184.out | refine below_set ?_ GE191.out | refine below_set ?_ GE192.out | refine below_set ?_ GE194.out | refine below_set ?_ GE195.out | refine below_set ?_ GE193.out) | exact HB.out))⟩)
      · skip
        rintro ⟨gb193, gb195⟩ w47 ⟨hS_, h0_, h1_, h2_, h3_, h4_, h5_, h6_, h7_, h8_, h9_, h10_, h11_, h12_, h13_, h14_, h15_, h16_, h17_, h18_, h19_, h20_, h21_, h22_, h23_, h24_, h25_, h26_, h27_⟩
        have n0_ : Aside0 (Kd.R Kd.string 9 w47 w.heap.size (fun k_ => some k_ ≠ (.slice Ao25 y181.length co25 : Value).ownBlock ∧ some k_ ≠ (.slice Ao34 y185.length co34 : Value).ownBlock ∧ some k_ ≠ (.slice Ao33 y188.length co33 : Value).ownBlock) (.slice Ao26 y178.length co26) y178) := ⟨h0_⟩
        have n1_ : Aside0 (Kd.R Kd.string 9 w47 w.heap.size (fun k_ => some k_ ≠ (.slice Ao26 y178.length co26 : Value).ownBlock ∧ some k_ ≠ (.slice Ao34 y185.length co34 : Value).ownBlock ∧ some k_ ≠ (.slice Ao33 y188.length co33 : Value).ownBlock) (.slice Ao25 y181.length co25) y181) := ⟨h1_⟩
        have n2_ : Aside0 (Kd.R Kd.string 9 w47 w.heap.size (fun k_ => some k_ ≠ (.slice Ao26 y178.length co26 : Value).ownBlock ∧ some k_ ≠ (.slice Ao25 y181.length co25 : Value).ownBlock ∧ some k_ ≠ (.slice Ao33 y188.length co33 : Value).ownBlock) (.slice Ao34 y185.length co34) y185) := ⟨h2_⟩
        have n3_ : Aside0 (Kd.R Kd.string 9 w47 w.heap.size (fun k_ => some k_ ≠ (.slice Ao26 y178.length co26 : Value).ownBlock ∧ some k_ ≠ (.slice Ao25 y181.length co25 : Value).ownBlock ∧ some k_ ≠ (.slice Ao34 y185.length co34 : Value).ownBlock) (.slice Ao33 y188.length co33) y188) := ⟨h3_⟩
        have n4_ : Aside0 (w47.heap[gb184]? = some (.cells #[.string (⟨#[112]⟩ : ByteArray), .int .i64 0, .int .i64 2, .int .i64 3, .slice Ao26 y178.length co26, .slice Ao25 y181.length co25, .bool false] 28 (0, 0))) := ⟨h4_⟩
        have n5_ : Aside0 (w47.heap[gb191]? = some (.cells #[.string (⟨#[110]⟩ : ByteArray), .int .i64 5, .int .i64 5, .slice Ao34 y185.length co34, .slice Ao33 y188.length co33, .bool false] 31 (0, 0))) := ⟨h5_⟩
        have n6_ : Aside0 (w47.heap[gb192]? = some (.cells #[.string (⟨#[112]⟩ : ByteArray), .int .i64 0, .int .i64 2, .int .i64 3, .slice Ao26 y178.length co26, .slice Ao25 y181.length co25, .bool true] 28 (0, 0))) := ⟨h6_⟩
        have n7_ : Aside0 (w47.heap[gb193]? = some (.cells #[.string (⟨#[]⟩ : ByteArray), .int .i64 0, .int .i64 0, .slice none 0 0, .slice none 0 0, .bool false] 31 (0, 0))) := ⟨h7_⟩
        have n8_ : Aside0 (w47.heap[gb195]? = some (.cells #[.string (⟨#[]⟩ : ByteArray), .int .i64 0, .int .i64 0, .slice none 0 0, .slice none 0 0, .bool false] 31 (0, 0))) := ⟨h8_⟩
        have n9_ : Aside0 (w.heap.size ≤ gb193) := ⟨h9_⟩
        have n10_ : Aside0 (w.heap.size ≤ gb193) := ⟨h10_⟩
        have n11_ : Aside0 (gb184 ≠ gb193) := ⟨h11_⟩
        have n12_ : Aside0 (gb193 ≠ gb184) := ⟨h12_⟩
        have n13_ : Aside0 (gb191 ≠ gb193) := ⟨h13_⟩
        have n14_ : Aside0 (gb193 ≠ gb191) := ⟨h14_⟩
        have n15_ : Aside0 (gb192 ≠ gb193) := ⟨h15_⟩
        have n16_ : Aside0 (gb193 ≠ gb192) := ⟨h16_⟩
        have n17_ : Aside0 (gb195 ≠ gb193) := ⟨h17_⟩
        have n18_ : Aside0 (gb193 ≠ gb195) := ⟨h18_⟩
        have n19_ : Aside0 (w.heap.size ≤ gb195) := ⟨h19_⟩
        have n20_ : Aside0 (w.heap.size ≤ gb195) := ⟨h20_⟩
        have n21_ : Aside0 (gb184 ≠ gb195) := ⟨h21_⟩
        have n22_ : Aside0 (gb195 ≠ gb184) := ⟨h22_⟩
        have n23_ : Aside0 (gb191 ≠ gb195) := ⟨h23_⟩
        have n24_ : Aside0 (gb195 ≠ gb191) := ⟨h24_⟩
        have n25_ : Aside0 (gb192 ≠ gb195) := ⟨h25_⟩
        have n26_ : Aside0 (gb195 ≠ gb192) := ⟨h26_⟩
        have n27_ : Aside0 (Below w.heap.size w w47) := ⟨h27_⟩
        clear HO180
        clear HO183
        clear HO187
        clear HO190
        clear BK184
        clear BK191
        clear BK192
        clear HB
        clear h0_ h1_ h2_ h3_ h4_ h5_ h6_ h7_ h8_ h9_ h10_ h11_ h12_ h13_ h14_ h15_ h16_ h17_ h18_ h19_ h20_ h21_ h22_ h23_ h24_ h25_ h26_ h27_
        have HO180 := n0_
        have HO183 := n1_
        have HO187 := n2_
        have HO190 := n3_
        have BK184 := n4_
        have BK191 := n5_
        have BK192 := n6_
        have BK193 := n7_
        have BK195 := n8_
        have GW193 := n9_
        have GE193 := n10_
        have NB184_193 := n11_
        have NB193_184 := n12_
        have NB191_193 := n13_
        have NB193_191 := n14_
        have NB192_193 := n15_
        have NB193_192 := n16_
        have NB195_193 := n17_
        have NB193_195 := n18_
        have GW195 := n19_
        have GE195 := n20_
        have NB184_195 := n21_
        have NB195_184 := n22_
        have NB191_195 := n23_
        have NB195_191 := n24_
        have NB192_195 := n25_
        have NB195_192 := n26_
        have HB := n27_
        clear n0_ n1_ n2_ n3_ n4_ n5_ n6_ n7_ n8_ n9_ n10_ n11_ n12_ n13_ n14_ n15_ n16_ n17_ n18_ n19_ n20_ n21_ n22_ n23_ n24_ n25_ n26_ n27_
        have hHeld : w47.cell? ⟨gb191, 0, none⟩ = some (.string (⟨#[110]⟩ : ByteArray)) ∧ w47.cell? ⟨gb191, 1, none⟩ = some (.int .i64 5) ∧ w47.cell? ⟨gb191, 2, none⟩ = some (.int .i64 5) ∧ w47.cell? ⟨gb191, 3, none⟩ = some (.slice Ao34 y185.length co34) ∧ w47.cell? ⟨gb191, 4, none⟩ = some (.slice Ao33 y188.length co33) ∧ w47.cell? ⟨gb191, 5, none⟩ = some (.bool false) := hS_
        refine norm_ (a' := ?_) ?_ ?_
        rotate_left
        · simp only [putAll, Act.put, List.setIfInBounds_toArray, List.set_cons_zero, List.set_cons_succ]
          rfl
        refine one_ (i := 4) (N := some 7) #[true, true, true, true, true, true, false, false, false] rfl rfl (one_of HT_.out (by kernel_rfl)) (by decide) (fun K hK => ?_)
        refine box_step ?hg (N := 7) ?hd (cs := #[.string (⟨#[]⟩ : ByteArray), .int .i64 0, .int .i64 0, .slice none 0 0, .slice none 0 0, .bool false]) (t := 31) ?hr ?_; (case hd => rfl); (case hg => rfl); (case hr => first | (go_simp; done) | (go_simp; rfl))
        intro gb194 hg w48 hbox hb
        have n0_ := Aside0.mk (Kd.R_below (by (with_reducible repeat (first | apply Kd.R_alloc | apply Kd.R_drewN | apply Kd.R_drew)); exact HO180.out) hb)
        have n1_ := Aside0.mk (Kd.R_below (by (with_reducible repeat (first | apply Kd.R_alloc | apply Kd.R_drewN | apply Kd.R_drew)); exact HO183.out) hb)
        have n2_ := Aside0.mk (Kd.R_below (by (with_reducible repeat (first | apply Kd.R_alloc | apply Kd.R_drewN | apply Kd.R_drew)); exact HO187.out) hb)
        have n3_ := Aside0.mk (Kd.R_below (by (with_reducible repeat (first | apply Kd.R_alloc | apply Kd.R_drewN | apply Kd.R_drew)); exact HO190.out) hb)
        have n4_ := Aside0.mk (blk_below (g := gb184) (o := .cells #[.string (⟨#[112]⟩ : ByteArray), .int .i64 0, .int .i64 2, .int .i64 3, .slice Ao26 y178.length co26, .slice Ao25 y181.length co25, .bool false] 28 (0, 0)) (by (with_reducible repeat (first | refine blk_drewN ?_ _ | refine blk_drew ?_ | refine blk_alloc ?_ _)); exact BK184.out) hb)
        have n5_ := Aside0.mk (blk_below (g := gb191) (o := .cells #[.string (⟨#[110]⟩ : ByteArray), .int .i64 5, .int .i64 5, .slice Ao34 y185.length co34, .slice Ao33 y188.length co33, .bool false] 31 (0, 0)) (by (with_reducible repeat (first | refine blk_drewN ?_ _ | refine blk_drew ?_ | refine blk_alloc ?_ _)); exact BK191.out) hb)
        have n6_ := Aside0.mk (blk_below (g := gb192) (o := .cells #[.string (⟨#[112]⟩ : ByteArray), .int .i64 0, .int .i64 2, .int .i64 3, .slice Ao26 y178.length co26, .slice Ao25 y181.length co25, .bool true] 28 (0, 0)) (by (with_reducible repeat (first | refine blk_drewN ?_ _ | refine blk_drew ?_ | refine blk_alloc ?_ _)); exact BK192.out) hb)
        have n7_ := Aside0.mk (blk_below (g := gb193) (o := .cells #[.string (⟨#[]⟩ : ByteArray), .int .i64 0, .int .i64 0, .slice none 0 0, .slice none 0 0, .bool false] 31 (0, 0)) (by (with_reducible repeat (first | refine blk_drewN ?_ _ | refine blk_drew ?_ | refine blk_alloc ?_ _)); exact BK193.out) hb)
        have n8_ := Aside0.mk (blk_below (g := gb195) (o := .cells #[.string (⟨#[]⟩ : ByteArray), .int .i64 0, .int .i64 0, .slice none 0 0, .slice none 0 0, .bool false] 31 (0, 0)) (by (with_reducible repeat (first | refine blk_drewN ?_ _ | refine blk_drew ?_ | refine blk_alloc ?_ _)); exact BK195.out) hb)
        have n9_ := Aside0.mk (below_step (by repeat (first | (with_reducible first | exact HB.out | apply below_alloc | apply pw_below_drewN | apply below_drew1 | refine below_set ?_ GE184.out | refine below_set ?_ GE191.out | refine below_set ?_ GE192.out | refine below_set ?_ GE193.out | refine below_set ?_ GE195.out) | exact HB.out)) hb)
        have n10_ := Aside0.mk (hbox)
        have n11_ := Aside0.mk ((by rw [hg]; exact (below_size (by repeat (first | (with_reducible first | exact HB.out | apply below_alloc | apply pw_below_drewN | apply below_drew1 | refine below_set ?_ GE184.out | refine below_set ?_ GE191.out | refine below_set ?_ GE192.out | refine below_set ?_ GE193.out | refine below_set ?_ GE195.out) | exact HB.out))) : w.heap.size ≤ gb194))
        have n12_ := Aside0.mk ((by rw [hg]; exact (below_size (by repeat (first | (with_reducible first | exact HB.out | apply below_alloc | apply pw_below_drewN | apply below_drew1 | refine below_set ?_ GE184.out | refine below_set ?_ GE191.out | refine below_set ?_ GE192.out | refine below_set ?_ GE193.out | refine below_set ?_ GE195.out) | exact HB.out))) : w.heap.size ≤ gb194))
        have n13_ := Aside0.mk ((by rw [hg]; exact Nat.ne_of_lt (blk_lt (g := gb184) (o := .cells #[.string (⟨#[112]⟩ : ByteArray), .int .i64 0, .int .i64 2, .int .i64 3, .slice Ao26 y178.length co26, .slice Ao25 y181.length co25, .bool false] 28 (0, 0)) (by (with_reducible repeat (first | refine blk_drewN ?_ _ | refine blk_drew ?_ | refine blk_alloc ?_ _)); exact BK184.out)) : gb184 ≠ gb194))
        have n14_ := Aside0.mk ((by rw [hg]; exact Nat.ne_of_gt (blk_lt (g := gb184) (o := .cells #[.string (⟨#[112]⟩ : ByteArray), .int .i64 0, .int .i64 2, .int .i64 3, .slice Ao26 y178.length co26, .slice Ao25 y181.length co25, .bool false] 28 (0, 0)) (by (with_reducible repeat (first | refine blk_drewN ?_ _ | refine blk_drew ?_ | refine blk_alloc ?_ _)); exact BK184.out)) : gb194 ≠ gb184))
        have n15_ := Aside0.mk ((by rw [hg]; exact Nat.ne_of_lt (blk_lt (g := gb191) (o := .cells #[.string (⟨#[110]⟩ : ByteArray), .int .i64 5, .int .i64 5, .slice Ao34 y185.length co34, .slice Ao33 y188.length co33, .bool false] 31 (0, 0)) (by (with_reducible repeat (first | refine blk_drewN ?_ _ | refine blk_drew ?_ | refine blk_alloc ?_ _)); exact BK191.out)) : gb191 ≠ gb194))
        have n16_ := Aside0.mk ((by rw [hg]; exact Nat.ne_of_gt (blk_lt (g := gb191) (o := .cells #[.string (⟨#[110]⟩ : ByteArray), .int .i64 5, .int .i64 5, .slice Ao34 y185.length co34, .slice Ao33 y188.length co33, .bool false] 31 (0, 0)) (by (with_reducible repeat (first | refine blk_drewN ?_ _ | refine blk_drew ?_ | refine blk_alloc ?_ _)); exact BK191.out)) : gb194 ≠ gb191))
        have n17_ := Aside0.mk ((by rw [hg]; exact Nat.ne_of_lt (blk_lt (g := gb192) (o := .cells #[.string (⟨#[112]⟩ : ByteArray), .int .i64 0, .int .i64 2, .int .i64 3, .slice Ao26 y178.length co26, .slice Ao25 y181.length co25, .bool true] 28 (0, 0)) (by (with_reducible repeat (first | refine blk_drewN ?_ _ | refine blk_drew ?_ | refine blk_alloc ?_ _)); exact BK192.out)) : gb192 ≠ gb194))
        have n18_ := Aside0.mk ((by rw [hg]; exact Nat.ne_of_gt (blk_lt (g := gb192) (o := .cells #[.string (⟨#[112]⟩ : ByteArray), .int .i64 0, .int .i64 2, .int .i64 3, .slice Ao26 y178.length co26, .slice Ao25 y181.length co25, .bool true] 28 (0, 0)) (by (with_reducible repeat (first | refine blk_drewN ?_ _ | refine blk_drew ?_ | refine blk_alloc ?_ _)); exact BK192.out)) : gb194 ≠ gb192))
        have n19_ := Aside0.mk ((by rw [hg]; exact Nat.ne_of_lt (blk_lt (g := gb193) (o := .cells #[.string (⟨#[]⟩ : ByteArray), .int .i64 0, .int .i64 0, .slice none 0 0, .slice none 0 0, .bool false] 31 (0, 0)) (by (with_reducible repeat (first | refine blk_drewN ?_ _ | refine blk_drew ?_ | refine blk_alloc ?_ _)); exact BK193.out)) : gb193 ≠ gb194))
        have n20_ := Aside0.mk ((by rw [hg]; exact Nat.ne_of_gt (blk_lt (g := gb193) (o := .cells #[.string (⟨#[]⟩ : ByteArray), .int .i64 0, .int .i64 0, .slice none 0 0, .slice none 0 0, .bool false] 31 (0, 0)) (by (with_reducible repeat (first | refine blk_drewN ?_ _ | refine blk_drew ?_ | refine blk_alloc ?_ _)); exact BK193.out)) : gb194 ≠ gb193))
        have n21_ := Aside0.mk ((by rw [hg]; exact Nat.ne_of_lt (blk_lt (g := gb195) (o := .cells #[.string (⟨#[]⟩ : ByteArray), .int .i64 0, .int .i64 0, .slice none 0 0, .slice none 0 0, .bool false] 31 (0, 0)) (by (with_reducible repeat (first | refine blk_drewN ?_ _ | refine blk_drew ?_ | refine blk_alloc ?_ _)); exact BK195.out)) : gb195 ≠ gb194))
        have n22_ := Aside0.mk ((by rw [hg]; exact Nat.ne_of_gt (blk_lt (g := gb195) (o := .cells #[.string (⟨#[]⟩ : ByteArray), .int .i64 0, .int .i64 0, .slice none 0 0, .slice none 0 0, .bool false] 31 (0, 0)) (by (with_reducible repeat (first | refine blk_drewN ?_ _ | refine blk_drew ?_ | refine blk_alloc ?_ _)); exact BK195.out)) : gb194 ≠ gb195))
        clear HO180
        clear HO183
        clear HO187
        clear HO190
        clear BK184
        clear BK191
        clear BK192
        clear BK193
        clear BK195
        clear HB
        have HO180 := n0_
        have HO183 := n1_
        have HO187 := n2_
        have HO190 := n3_
        have BK184 := n4_
        have BK191 := n5_
        have BK192 := n6_
        have BK193 := n7_
        have BK195 := n8_
        have HB := n9_
        have BK194 := n10_
        have GW194 := n11_
        have GE194 := n12_
        have NB184_194 := n13_
        have NB194_184 := n14_
        have NB191_194 := n15_
        have NB194_191 := n16_
        have NB192_194 := n17_
        have NB194_192 := n18_
        have NB193_194 := n19_
        have NB194_193 := n20_
        have NB195_194 := n21_
        have NB194_195 := n22_
        clear n0_ n1_ n2_ n3_ n4_ n5_ n6_ n7_ n8_ n9_ n10_ n11_ n12_ n13_ n14_ n15_ n16_ n17_ n18_ n19_ n20_ n21_ n22_
        clear hb hbox hg
        refine hK.out _ _ ⟨(blk_cell BK191.out 0).trans rfl, (blk_cell BK191.out 1).trans rfl, (blk_cell BK191.out 2).trans rfl, (blk_cell BK191.out 3).trans rfl, (blk_cell BK191.out 4).trans rfl, (blk_cell BK191.out 5).trans rfl⟩ (fun hHeld => ?_)
        clear hK K
        refine norm_ (a' := ?_) ?_ ?_
        rotate_left
        · show Act.put _ (some 7) _ = _
          simp only [Act.put, List.setIfInBounds_toArray, List.set_cons_zero, List.set_cons_succ, i64_w, i32_w]
          rfl
        exact norm_ (by first | (simp only [putAll, Act.put, List.setIfInBounds_toArray, List.set_cons_zero, List.set_cons_succ]; done) | (simp only [putAll, Act.put, List.setIfInBounds_toArray, List.set_cons_zero, List.set_cons_succ]; rfl)) (hJ3_4_5 (gb193, gb194, gb195) _ ⟨hHeld, (by (with_reducible repeat (first | apply Kd.R_alloc | apply Kd.R_drewN | apply Kd.R_drew)); exact HO180.out), (by (with_reducible repeat (first | apply Kd.R_alloc | apply Kd.R_drewN | apply Kd.R_drew)); exact HO183.out), (by (with_reducible repeat (first | apply Kd.R_alloc | apply Kd.R_drewN | apply Kd.R_drew)); exact HO187.out), (by (with_reducible repeat (first | apply Kd.R_alloc | apply Kd.R_drewN | apply Kd.R_drew)); exact HO190.out), (by (with_reducible repeat (first | refine blk_drewN ?_ _ | refine blk_drew ?_ | refine blk_alloc ?_ _)); exact BK184.out), (by (with_reducible repeat (first | refine blk_drewN ?_ _ | refine blk_drew ?_ | refine blk_alloc ?_ _)); exact BK191.out), (by (with_reducible repeat (first | refine blk_drewN ?_ _ | refine blk_drew ?_ | refine blk_alloc ?_ _)); exact BK192.out), (by (with_reducible repeat (first | refine blk_drewN ?_ _ | refine blk_drew ?_ | refine blk_alloc ?_ _)); exact BK193.out), (by (with_reducible repeat (first | refine blk_drewN ?_ _ | refine blk_drew ?_ | refine blk_alloc ?_ _)); exact BK194.out), (by (with_reducible repeat (first | refine blk_drewN ?_ _ | refine blk_drew ?_ | refine blk_alloc ?_ _)); exact BK195.out), GW193.out, GE193.out, NB184_193.out, NB193_184.out, NB191_193.out, NB193_191.out, NB192_193.out, NB193_192.out, NB194_193.out, NB193_194.out, NB195_193.out, NB193_195.out, GW194.out, GE194.out, NB184_194.out, NB194_184.out, NB191_194.out, NB194_191.out, NB192_194.out, NB194_192.out, NB195_194.out, NB194_195.out, GW195.out, GE195.out, NB184_195.out, NB195_184.out, NB191_195.out, NB195_191.out, NB192_195.out, NB195_192.out, (by repeat (first | (with_reducible first | exact HB.out | apply below_alloc | apply pw_below_drewN | apply below_drew1 | refine below_set ?_ GE184.out | refine below_set ?_ GE191.out | refine below_set ?_ GE192.out | refine below_set ?_ GE193.out | refine below_set ?_ GE195.out | refine below_set ?_ GE194.out) | exact HB.out))⟩)
    · skip
      rintro ⟨gb193, gb194⟩ w47 ⟨hS_, h0_, h1_, h2_, h3_, h4_, h5_, h6_, h7_, h8_, h9_, h10_, h11_, h12_, h13_, h14_, h15_, h16_, h17_, h18_, h19_, h20_, h21_, h22_, h23_, h24_, h25_, h26_, h27_⟩
      have n0_ : Aside0 (Kd.R Kd.string 9 w47 w.heap.size (fun k_ => some k_ ≠ (.slice Ao25 y181.length co25 : Value).ownBlock ∧ some k_ ≠ (.slice Ao34 y185.length co34 : Value).ownBlock ∧ some k_ ≠ (.slice Ao33 y188.length co33 : Value).ownBlock) (.slice Ao26 y178.length co26) y178) := ⟨h0_⟩
      have n1_ : Aside0 (Kd.R Kd.string 9 w47 w.heap.size (fun k_ => some k_ ≠ (.slice Ao26 y178.length co26 : Value).ownBlock ∧ some k_ ≠ (.slice Ao34 y185.length co34 : Value).ownBlock ∧ some k_ ≠ (.slice Ao33 y188.length co33 : Value).ownBlock) (.slice Ao25 y181.length co25) y181) := ⟨h1_⟩
      have n2_ : Aside0 (Kd.R Kd.string 9 w47 w.heap.size (fun k_ => some k_ ≠ (.slice Ao26 y178.length co26 : Value).ownBlock ∧ some k_ ≠ (.slice Ao25 y181.length co25 : Value).ownBlock ∧ some k_ ≠ (.slice Ao33 y188.length co33 : Value).ownBlock) (.slice Ao34 y185.length co34) y185) := ⟨h2_⟩
      have n3_ : Aside0 (Kd.R Kd.string 9 w47 w.heap.size (fun k_ => some k_ ≠ (.slice Ao26 y178.length co26 : Value).ownBlock ∧ some k_ ≠ (.slice Ao25 y181.length co25 : Value).ownBlock ∧ some k_ ≠ (.slice Ao34 y185.length co34 : Value).ownBlock) (.slice Ao33 y188.length co33) y188) := ⟨h3_⟩
      have n4_ : Aside0 (w47.heap[gb184]? = some (.cells #[.string (⟨#[112]⟩ : ByteArray), .int .i64 0, .int .i64 2, .int .i64 3, .slice Ao26 y178.length co26, .slice Ao25 y181.length co25, .bool false] 28 (0, 0))) := ⟨h4_⟩
      have n5_ : Aside0 (w47.heap[gb191]? = some (.cells #[.string (⟨#[110]⟩ : ByteArray), .int .i64 5, .int .i64 5, .slice Ao34 y185.length co34, .slice Ao33 y188.length co33, .bool false] 31 (0, 0))) := ⟨h5_⟩
      have n6_ : Aside0 (w47.heap[gb192]? = some (.cells #[.string (⟨#[112]⟩ : ByteArray), .int .i64 0, .int .i64 2, .int .i64 3, .slice Ao26 y178.length co26, .slice Ao25 y181.length co25, .bool true] 28 (0, 0))) := ⟨h6_⟩
      have n7_ : Aside0 (w47.heap[gb193]? = some (.cells #[.string (⟨#[]⟩ : ByteArray), .int .i64 0, .int .i64 0, .slice none 0 0, .slice none 0 0, .bool false] 31 (0, 0))) := ⟨h7_⟩
      have n8_ : Aside0 (w47.heap[gb194]? = some (.cells #[.string (⟨#[]⟩ : ByteArray), .int .i64 0, .int .i64 0, .slice none 0 0, .slice none 0 0, .bool false] 31 (0, 0))) := ⟨h8_⟩
      have n9_ : Aside0 (w.heap.size ≤ gb193) := ⟨h9_⟩
      have n10_ : Aside0 (w.heap.size ≤ gb193) := ⟨h10_⟩
      have n11_ : Aside0 (gb184 ≠ gb193) := ⟨h11_⟩
      have n12_ : Aside0 (gb193 ≠ gb184) := ⟨h12_⟩
      have n13_ : Aside0 (gb191 ≠ gb193) := ⟨h13_⟩
      have n14_ : Aside0 (gb193 ≠ gb191) := ⟨h14_⟩
      have n15_ : Aside0 (gb192 ≠ gb193) := ⟨h15_⟩
      have n16_ : Aside0 (gb193 ≠ gb192) := ⟨h16_⟩
      have n17_ : Aside0 (gb194 ≠ gb193) := ⟨h17_⟩
      have n18_ : Aside0 (gb193 ≠ gb194) := ⟨h18_⟩
      have n19_ : Aside0 (w.heap.size ≤ gb194) := ⟨h19_⟩
      have n20_ : Aside0 (w.heap.size ≤ gb194) := ⟨h20_⟩
      have n21_ : Aside0 (gb184 ≠ gb194) := ⟨h21_⟩
      have n22_ : Aside0 (gb194 ≠ gb184) := ⟨h22_⟩
      have n23_ : Aside0 (gb191 ≠ gb194) := ⟨h23_⟩
      have n24_ : Aside0 (gb194 ≠ gb191) := ⟨h24_⟩
      have n25_ : Aside0 (gb192 ≠ gb194) := ⟨h25_⟩
      have n26_ : Aside0 (gb194 ≠ gb192) := ⟨h26_⟩
      have n27_ : Aside0 (Below w.heap.size w w47) := ⟨h27_⟩
      clear HO180
      clear HO183
      clear HO187
      clear HO190
      clear BK184
      clear BK191
      clear BK192
      clear HB
      clear h0_ h1_ h2_ h3_ h4_ h5_ h6_ h7_ h8_ h9_ h10_ h11_ h12_ h13_ h14_ h15_ h16_ h17_ h18_ h19_ h20_ h21_ h22_ h23_ h24_ h25_ h26_ h27_
      have HO180 := n0_
      have HO183 := n1_
      have HO187 := n2_
      have HO190 := n3_
      have BK184 := n4_
      have BK191 := n5_
      have BK192 := n6_
      have BK193 := n7_
      have BK194 := n8_
      have GW193 := n9_
      have GE193 := n10_
      have NB184_193 := n11_
      have NB193_184 := n12_
      have NB191_193 := n13_
      have NB193_191 := n14_
      have NB192_193 := n15_
      have NB193_192 := n16_
      have NB194_193 := n17_
      have NB193_194 := n18_
      have GW194 := n19_
      have GE194 := n20_
      have NB184_194 := n21_
      have NB194_184 := n22_
      have NB191_194 := n23_
      have NB194_191 := n24_
      have NB192_194 := n25_
      have NB194_192 := n26_
      have HB := n27_
      clear n0_ n1_ n2_ n3_ n4_ n5_ n6_ n7_ n8_ n9_ n10_ n11_ n12_ n13_ n14_ n15_ n16_ n17_ n18_ n19_ n20_ n21_ n22_ n23_ n24_ n25_ n26_ n27_
      have hHeld : w47.cell? ⟨gb191, 0, none⟩ = some (.string (⟨#[110]⟩ : ByteArray)) ∧ w47.cell? ⟨gb191, 1, none⟩ = some (.int .i64 5) ∧ w47.cell? ⟨gb191, 2, none⟩ = some (.int .i64 5) ∧ w47.cell? ⟨gb191, 3, none⟩ = some (.slice Ao34 y185.length co34) ∧ w47.cell? ⟨gb191, 4, none⟩ = some (.slice Ao33 y188.length co33) ∧ w47.cell? ⟨gb191, 5, none⟩ = some (.bool false) := hS_
      refine norm_ (a' := ?_) ?_ ?_
      rotate_left
      · simp only [putAll, Act.put, List.setIfInBounds_toArray, List.set_cons_zero, List.set_cons_succ]
        rfl
      refine one_ (i := 5) (N := some 8) #[true, true, true, true, true, true, false, false, false] rfl rfl (one_of HT_.out (by kernel_rfl)) (by decide) (fun K hK => ?_)
      refine box_step ?hg (N := 8) ?hd (cs := #[.string (⟨#[]⟩ : ByteArray), .int .i64 0, .int .i64 0, .slice none 0 0, .slice none 0 0, .bool false]) (t := 31) ?hr ?_; (case hd => rfl); (case hg => rfl); (case hr => first | (go_simp; done) | (go_simp; rfl))
      intro gb195 hg w48 hbox hb
      have n0_ := Aside0.mk (Kd.R_below (by (with_reducible repeat (first | apply Kd.R_alloc | apply Kd.R_drewN | apply Kd.R_drew)); exact HO180.out) hb)
      have n1_ := Aside0.mk (Kd.R_below (by (with_reducible repeat (first | apply Kd.R_alloc | apply Kd.R_drewN | apply Kd.R_drew)); exact HO183.out) hb)
      have n2_ := Aside0.mk (Kd.R_below (by (with_reducible repeat (first | apply Kd.R_alloc | apply Kd.R_drewN | apply Kd.R_drew)); exact HO187.out) hb)
      have n3_ := Aside0.mk (Kd.R_below (by (with_reducible repeat (first | apply Kd.R_alloc | apply Kd.R_drewN | apply Kd.R_drew)); exact HO190.out) hb)
      have n4_ := Aside0.mk (blk_below (g := gb184) (o := .cells #[.string (⟨#[112]⟩ : ByteArray), .int .i64 0, .int .i64 2, .int .i64 3, .slice Ao26 y178.length co26, .slice Ao25 y181.length co25, .bool false] 28 (0, 0)) (by (with_reducible repeat (first | refine blk_drewN ?_ _ | refine blk_drew ?_ | refine blk_alloc ?_ _)); exact BK184.out) hb)
      have n5_ := Aside0.mk (blk_below (g := gb191) (o := .cells #[.string (⟨#[110]⟩ : ByteArray), .int .i64 5, .int .i64 5, .slice Ao34 y185.length co34, .slice Ao33 y188.length co33, .bool false] 31 (0, 0)) (by (with_reducible repeat (first | refine blk_drewN ?_ _ | refine blk_drew ?_ | refine blk_alloc ?_ _)); exact BK191.out) hb)
      have n6_ := Aside0.mk (blk_below (g := gb192) (o := .cells #[.string (⟨#[112]⟩ : ByteArray), .int .i64 0, .int .i64 2, .int .i64 3, .slice Ao26 y178.length co26, .slice Ao25 y181.length co25, .bool true] 28 (0, 0)) (by (with_reducible repeat (first | refine blk_drewN ?_ _ | refine blk_drew ?_ | refine blk_alloc ?_ _)); exact BK192.out) hb)
      have n7_ := Aside0.mk (blk_below (g := gb193) (o := .cells #[.string (⟨#[]⟩ : ByteArray), .int .i64 0, .int .i64 0, .slice none 0 0, .slice none 0 0, .bool false] 31 (0, 0)) (by (with_reducible repeat (first | refine blk_drewN ?_ _ | refine blk_drew ?_ | refine blk_alloc ?_ _)); exact BK193.out) hb)
      have n8_ := Aside0.mk (blk_below (g := gb194) (o := .cells #[.string (⟨#[]⟩ : ByteArray), .int .i64 0, .int .i64 0, .slice none 0 0, .slice none 0 0, .bool false] 31 (0, 0)) (by (with_reducible repeat (first | refine blk_drewN ?_ _ | refine blk_drew ?_ | refine blk_alloc ?_ _)); exact BK194.out) hb)
      have n9_ := Aside0.mk (below_step (by repeat (first | (with_reducible first | exact HB.out | apply below_alloc | apply pw_below_drewN | apply below_drew1 | refine below_set ?_ GE184.out | refine below_set ?_ GE191.out | refine below_set ?_ GE192.out | refine below_set ?_ GE193.out | refine below_set ?_ GE194.out) | exact HB.out)) hb)
      have n10_ := Aside0.mk (hbox)
      have n11_ := Aside0.mk ((by rw [hg]; exact (below_size (by repeat (first | (with_reducible first | exact HB.out | apply below_alloc | apply pw_below_drewN | apply below_drew1 | refine below_set ?_ GE184.out | refine below_set ?_ GE191.out | refine below_set ?_ GE192.out | refine below_set ?_ GE193.out | refine below_set ?_ GE194.out) | exact HB.out))) : w.heap.size ≤ gb195))
      have n12_ := Aside0.mk ((by rw [hg]; exact (below_size (by repeat (first | (with_reducible first | exact HB.out | apply below_alloc | apply pw_below_drewN | apply below_drew1 | refine below_set ?_ GE184.out | refine below_set ?_ GE191.out | refine below_set ?_ GE192.out | refine below_set ?_ GE193.out | refine below_set ?_ GE194.out) | exact HB.out))) : w.heap.size ≤ gb195))
      have n13_ := Aside0.mk ((by rw [hg]; exact Nat.ne_of_lt (blk_lt (g := gb184) (o := .cells #[.string (⟨#[112]⟩ : ByteArray), .int .i64 0, .int .i64 2, .int .i64 3, .slice Ao26 y178.length co26, .slice Ao25 y181.length co25, .bool false] 28 (0, 0)) (by (with_reducible repeat (first | refine blk_drewN ?_ _ | refine blk_drew ?_ | refine blk_alloc ?_ _)); exact BK184.out)) : gb184 ≠ gb195))
      have n14_ := Aside0.mk ((by rw [hg]; exact Nat.ne_of_gt (blk_lt (g := gb184) (o := .cells #[.string (⟨#[112]⟩ : ByteArray), .int .i64 0, .int .i64 2, .int .i64 3, .slice Ao26 y178.length co26, .slice Ao25 y181.length co25, .bool false] 28 (0, 0)) (by (with_reducible repeat (first | refine blk_drewN ?_ _ | refine blk_drew ?_ | refine blk_alloc ?_ _)); exact BK184.out)) : gb195 ≠ gb184))
      have n15_ := Aside0.mk ((by rw [hg]; exact Nat.ne_of_lt (blk_lt (g := gb191) (o := .cells #[.string (⟨#[110]⟩ : ByteArray), .int .i64 5, .int .i64 5, .slice Ao34 y185.length co34, .slice Ao33 y188.length co33, .bool false] 31 (0, 0)) (by (with_reducible repeat (first | refine blk_drewN ?_ _ | refine blk_drew ?_ | refine blk_alloc ?_ _)); exact BK191.out)) : gb191 ≠ gb195))
      have n16_ := Aside0.mk ((by rw [hg]; exact Nat.ne_of_gt (blk_lt (g := gb191) (o := .cells #[.string (⟨#[110]⟩ : ByteArray), .int .i64 5, .int .i64 5, .slice Ao34 y185.length co34, .slice Ao33 y188.length co33, .bool false] 31 (0, 0)) (by (with_reducible repeat (first | refine blk_drewN ?_ _ | refine blk_drew ?_ | refine blk_alloc ?_ _)); exact BK191.out)) : gb195 ≠ gb191))
      have n17_ := Aside0.mk ((by rw [hg]; exact Nat.ne_of_lt (blk_lt (g := gb192) (o := .cells #[.string (⟨#[112]⟩ : ByteArray), .int .i64 0, .int .i64 2, .int .i64 3, .slice Ao26 y178.length co26, .slice Ao25 y181.length co25, .bool true] 28 (0, 0)) (by (with_reducible repeat (first | refine blk_drewN ?_ _ | refine blk_drew ?_ | refine blk_alloc ?_ _)); exact BK192.out)) : gb192 ≠ gb195))
      have n18_ := Aside0.mk ((by rw [hg]; exact Nat.ne_of_gt (blk_lt (g := gb192) (o := .cells #[.string (⟨#[112]⟩ : ByteArray), .int .i64 0, .int .i64 2, .int .i64 3, .slice Ao26 y178.length co26, .slice Ao25 y181.length co25, .bool true] 28 (0, 0)) (by (with_reducible repeat (first | refine blk_drewN ?_ _ | refine blk_drew ?_ | refine blk_alloc ?_ _)); exact BK192.out)) : gb195 ≠ gb192))
      have n19_ := Aside0.mk ((by rw [hg]; exact Nat.ne_of_lt (blk_lt (g := gb193) (o := .cells #[.string (⟨#[]⟩ : ByteArray), .int .i64 0, .int .i64 0, .slice none 0 0, .slice none 0 0, .bool false] 31 (0, 0)) (by (with_reducible repeat (first | refine blk_drewN ?_ _ | refine blk_drew ?_ | refine blk_alloc ?_ _)); exact BK193.out)) : gb193 ≠ gb195))
      have n20_ := Aside0.mk ((by rw [hg]; exact Nat.ne_of_gt (blk_lt (g := gb193) (o := .cells #[.string (⟨#[]⟩ : ByteArray), .int .i64 0, .int .i64 0, .slice none 0 0, .slice none 0 0, .bool false] 31 (0, 0)) (by (with_reducible repeat (first | refine blk_drewN ?_ _ | refine blk_drew ?_ | refine blk_alloc ?_ _)); exact BK193.out)) : gb195 ≠ gb193))
      have n21_ := Aside0.mk ((by rw [hg]; exact Nat.ne_of_lt (blk_lt (g := gb194) (o := .cells #[.string (⟨#[]⟩ : ByteArray), .int .i64 0, .int .i64 0, .slice none 0 0, .slice none 0 0, .bool false] 31 (0, 0)) (by (with_reducible repeat (first | refine blk_drewN ?_ _ | refine blk_drew ?_ | refine blk_alloc ?_ _)); exact BK194.out)) : gb194 ≠ gb195))
      have n22_ := Aside0.mk ((by rw [hg]; exact Nat.ne_of_gt (blk_lt (g := gb194) (o := .cells #[.string (⟨#[]⟩ : ByteArray), .int .i64 0, .int .i64 0, .slice none 0 0, .slice none 0 0, .bool false] 31 (0, 0)) (by (with_reducible repeat (first | refine blk_drewN ?_ _ | refine blk_drew ?_ | refine blk_alloc ?_ _)); exact BK194.out)) : gb195 ≠ gb194))
      clear HO180
      clear HO183
      clear HO187
      clear HO190
      clear BK184
      clear BK191
      clear BK192
      clear BK193
      clear BK194
      clear HB
      have HO180 := n0_
      have HO183 := n1_
      have HO187 := n2_
      have HO190 := n3_
      have BK184 := n4_
      have BK191 := n5_
      have BK192 := n6_
      have BK193 := n7_
      have BK194 := n8_
      have HB := n9_
      have BK195 := n10_
      have GW195 := n11_
      have GE195 := n12_
      have NB184_195 := n13_
      have NB195_184 := n14_
      have NB191_195 := n15_
      have NB195_191 := n16_
      have NB192_195 := n17_
      have NB195_192 := n18_
      have NB193_195 := n19_
      have NB195_193 := n20_
      have NB194_195 := n21_
      have NB195_194 := n22_
      clear n0_ n1_ n2_ n3_ n4_ n5_ n6_ n7_ n8_ n9_ n10_ n11_ n12_ n13_ n14_ n15_ n16_ n17_ n18_ n19_ n20_ n21_ n22_
      clear hb hbox hg
      refine hK.out _ _ ⟨(blk_cell BK191.out 0).trans rfl, (blk_cell BK191.out 1).trans rfl, (blk_cell BK191.out 2).trans rfl, (blk_cell BK191.out 3).trans rfl, (blk_cell BK191.out 4).trans rfl, (blk_cell BK191.out 5).trans rfl⟩ (fun hHeld => ?_)
      clear hK K
      refine norm_ (a' := ?_) ?_ ?_
      rotate_left
      · show Act.put _ (some 8) _ = _
        simp only [Act.put, List.setIfInBounds_toArray, List.set_cons_zero, List.set_cons_succ, i64_w, i32_w]
        rfl
      exact norm_ (by first | (simp only [putAll, Act.put, List.setIfInBounds_toArray, List.set_cons_zero, List.set_cons_succ]; done) | (simp only [putAll, Act.put, List.setIfInBounds_toArray, List.set_cons_zero, List.set_cons_succ]; rfl)) (hJ3_4_5 (gb193, gb194, gb195) _ ⟨hHeld, (by (with_reducible repeat (first | apply Kd.R_alloc | apply Kd.R_drewN | apply Kd.R_drew)); exact HO180.out), (by (with_reducible repeat (first | apply Kd.R_alloc | apply Kd.R_drewN | apply Kd.R_drew)); exact HO183.out), (by (with_reducible repeat (first | apply Kd.R_alloc | apply Kd.R_drewN | apply Kd.R_drew)); exact HO187.out), (by (with_reducible repeat (first | apply Kd.R_alloc | apply Kd.R_drewN | apply Kd.R_drew)); exact HO190.out), (by (with_reducible repeat (first | refine blk_drewN ?_ _ | refine blk_drew ?_ | refine blk_alloc ?_ _)); exact BK184.out), (by (with_reducible repeat (first | refine blk_drewN ?_ _ | refine blk_drew ?_ | refine blk_alloc ?_ _)); exact BK191.out), (by (with_reducible repeat (first | refine blk_drewN ?_ _ | refine blk_drew ?_ | refine blk_alloc ?_ _)); exact BK192.out), (by (with_reducible repeat (first | refine blk_drewN ?_ _ | refine blk_drew ?_ | refine blk_alloc ?_ _)); exact BK193.out), (by (with_reducible repeat (first | refine blk_drewN ?_ _ | refine blk_drew ?_ | refine blk_alloc ?_ _)); exact BK194.out), (by (with_reducible repeat (first | refine blk_drewN ?_ _ | refine blk_drew ?_ | refine blk_alloc ?_ _)); exact BK195.out), GW193.out, GE193.out, NB184_193.out, NB193_184.out, NB191_193.out, NB193_191.out, NB192_193.out, NB193_192.out, NB194_193.out, NB193_194.out, NB195_193.out, NB193_195.out, GW194.out, GE194.out, NB184_194.out, NB194_184.out, NB191_194.out, NB194_191.out, NB192_194.out, NB194_192.out, NB195_194.out, NB194_195.out, GW195.out, GE195.out, NB184_195.out, NB195_184.out, NB191_195.out, NB195_191.out, NB192_195.out, NB195_192.out, (by repeat (first | (with_reducible first | exact HB.out | apply below_alloc | apply pw_below_drewN | apply below_drew1 | refine below_set ?_ GE184.out | refine below_set ?_ GE191.out | refine below_set ?_ GE192.out | refine below_set ?_ GE193.out | refine below_set ?_ GE194.out | refine below_set ?_ GE195.out) | exact HB.out))⟩)
  rintro ⟨gb193, gb194, gb195⟩ w48 ⟨hS_, h0_, h1_, h2_, h3_, h4_, h5_, h6_, h7_, h8_, h9_, h10_, h11_, h12_, h13_, h14_, h15_, h16_, h17_, h18_, h19_, h20_, h21_, h22_, h23_, h24_, h25_, h26_, h27_, h28_, h29_, h30_, h31_, h32_, h33_, h34_, h35_, h36_, h37_, h38_, h39_, h40_⟩
  have n0_ : Aside0 (Kd.R Kd.string 9 w48 w.heap.size (fun k_ => some k_ ≠ (.slice Ao25 y181.length co25 : Value).ownBlock ∧ some k_ ≠ (.slice Ao34 y185.length co34 : Value).ownBlock ∧ some k_ ≠ (.slice Ao33 y188.length co33 : Value).ownBlock) (.slice Ao26 y178.length co26) y178) := ⟨h0_⟩
  have n1_ : Aside0 (Kd.R Kd.string 9 w48 w.heap.size (fun k_ => some k_ ≠ (.slice Ao26 y178.length co26 : Value).ownBlock ∧ some k_ ≠ (.slice Ao34 y185.length co34 : Value).ownBlock ∧ some k_ ≠ (.slice Ao33 y188.length co33 : Value).ownBlock) (.slice Ao25 y181.length co25) y181) := ⟨h1_⟩
  have n2_ : Aside0 (Kd.R Kd.string 9 w48 w.heap.size (fun k_ => some k_ ≠ (.slice Ao26 y178.length co26 : Value).ownBlock ∧ some k_ ≠ (.slice Ao25 y181.length co25 : Value).ownBlock ∧ some k_ ≠ (.slice Ao33 y188.length co33 : Value).ownBlock) (.slice Ao34 y185.length co34) y185) := ⟨h2_⟩
  have n3_ : Aside0 (Kd.R Kd.string 9 w48 w.heap.size (fun k_ => some k_ ≠ (.slice Ao26 y178.length co26 : Value).ownBlock ∧ some k_ ≠ (.slice Ao25 y181.length co25 : Value).ownBlock ∧ some k_ ≠ (.slice Ao34 y185.length co34 : Value).ownBlock) (.slice Ao33 y188.length co33) y188) := ⟨h3_⟩
  have n4_ : Aside0 (w48.heap[gb184]? = some (.cells #[.string (⟨#[112]⟩ : ByteArray), .int .i64 0, .int .i64 2, .int .i64 3, .slice Ao26 y178.length co26, .slice Ao25 y181.length co25, .bool false] 28 (0, 0))) := ⟨h4_⟩
  have n5_ : Aside0 (w48.heap[gb191]? = some (.cells #[.string (⟨#[110]⟩ : ByteArray), .int .i64 5, .int .i64 5, .slice Ao34 y185.length co34, .slice Ao33 y188.length co33, .bool false] 31 (0, 0))) := ⟨h5_⟩
  have n6_ : Aside0 (w48.heap[gb192]? = some (.cells #[.string (⟨#[112]⟩ : ByteArray), .int .i64 0, .int .i64 2, .int .i64 3, .slice Ao26 y178.length co26, .slice Ao25 y181.length co25, .bool true] 28 (0, 0))) := ⟨h6_⟩
  have n7_ : Aside0 (w48.heap[gb193]? = some (.cells #[.string (⟨#[]⟩ : ByteArray), .int .i64 0, .int .i64 0, .slice none 0 0, .slice none 0 0, .bool false] 31 (0, 0))) := ⟨h7_⟩
  have n8_ : Aside0 (w48.heap[gb194]? = some (.cells #[.string (⟨#[]⟩ : ByteArray), .int .i64 0, .int .i64 0, .slice none 0 0, .slice none 0 0, .bool false] 31 (0, 0))) := ⟨h8_⟩
  have n9_ : Aside0 (w48.heap[gb195]? = some (.cells #[.string (⟨#[]⟩ : ByteArray), .int .i64 0, .int .i64 0, .slice none 0 0, .slice none 0 0, .bool false] 31 (0, 0))) := ⟨h9_⟩
  have n10_ : Aside0 (w.heap.size ≤ gb193) := ⟨h10_⟩
  have n11_ : Aside0 (w.heap.size ≤ gb193) := ⟨h11_⟩
  have n12_ : Aside0 (gb184 ≠ gb193) := ⟨h12_⟩
  have n13_ : Aside0 (gb193 ≠ gb184) := ⟨h13_⟩
  have n14_ : Aside0 (gb191 ≠ gb193) := ⟨h14_⟩
  have n15_ : Aside0 (gb193 ≠ gb191) := ⟨h15_⟩
  have n16_ : Aside0 (gb192 ≠ gb193) := ⟨h16_⟩
  have n17_ : Aside0 (gb193 ≠ gb192) := ⟨h17_⟩
  have n18_ : Aside0 (gb194 ≠ gb193) := ⟨h18_⟩
  have n19_ : Aside0 (gb193 ≠ gb194) := ⟨h19_⟩
  have n20_ : Aside0 (gb195 ≠ gb193) := ⟨h20_⟩
  have n21_ : Aside0 (gb193 ≠ gb195) := ⟨h21_⟩
  have n22_ : Aside0 (w.heap.size ≤ gb194) := ⟨h22_⟩
  have n23_ : Aside0 (w.heap.size ≤ gb194) := ⟨h23_⟩
  have n24_ : Aside0 (gb184 ≠ gb194) := ⟨h24_⟩
  have n25_ : Aside0 (gb194 ≠ gb184) := ⟨h25_⟩
  have n26_ : Aside0 (gb191 ≠ gb194) := ⟨h26_⟩
  have n27_ : Aside0 (gb194 ≠ gb191) := ⟨h27_⟩
  have n28_ : Aside0 (gb192 ≠ gb194) := ⟨h28_⟩
  have n29_ : Aside0 (gb194 ≠ gb192) := ⟨h29_⟩
  have n30_ : Aside0 (gb195 ≠ gb194) := ⟨h30_⟩
  have n31_ : Aside0 (gb194 ≠ gb195) := ⟨h31_⟩
  have n32_ : Aside0 (w.heap.size ≤ gb195) := ⟨h32_⟩
  have n33_ : Aside0 (w.heap.size ≤ gb195) := ⟨h33_⟩
  have n34_ : Aside0 (gb184 ≠ gb195) := ⟨h34_⟩
  have n35_ : Aside0 (gb195 ≠ gb184) := ⟨h35_⟩
  have n36_ : Aside0 (gb191 ≠ gb195) := ⟨h36_⟩
  have n37_ : Aside0 (gb195 ≠ gb191) := ⟨h37_⟩
  have n38_ : Aside0 (gb192 ≠ gb195) := ⟨h38_⟩
  have n39_ : Aside0 (gb195 ≠ gb192) := ⟨h39_⟩
  have n40_ : Aside0 (Below w.heap.size w w48) := ⟨h40_⟩
  clear HO180
  clear HO183
  clear HO187
  clear HO190
  clear BK184
  clear BK191
  clear BK192
  clear HB
  clear h0_ h1_ h2_ h3_ h4_ h5_ h6_ h7_ h8_ h9_ h10_ h11_ h12_ h13_ h14_ h15_ h16_ h17_ h18_ h19_ h20_ h21_ h22_ h23_ h24_ h25_ h26_ h27_ h28_ h29_ h30_ h31_ h32_ h33_ h34_ h35_ h36_ h37_ h38_ h39_ h40_
  have HO180 := n0_
  have HO183 := n1_
  have HO187 := n2_
  have HO190 := n3_
  have BK184 := n4_
  have BK191 := n5_
  have BK192 := n6_
  have BK193 := n7_
  have BK194 := n8_
  have BK195 := n9_
  have GW193 := n10_
  have GE193 := n11_
  have NB184_193 := n12_
  have NB193_184 := n13_
  have NB191_193 := n14_
  have NB193_191 := n15_
  have NB192_193 := n16_
  have NB193_192 := n17_
  have NB194_193 := n18_
  have NB193_194 := n19_
  have NB195_193 := n20_
  have NB193_195 := n21_
  have GW194 := n22_
  have GE194 := n23_
  have NB184_194 := n24_
  have NB194_184 := n25_
  have NB191_194 := n26_
  have NB194_191 := n27_
  have NB192_194 := n28_
  have NB194_192 := n29_
  have NB195_194 := n30_
  have NB194_195 := n31_
  have GW195 := n32_
  have GE195 := n33_
  have NB184_195 := n34_
  have NB195_184 := n35_
  have NB191_195 := n36_
  have NB195_191 := n37_
  have NB192_195 := n38_
  have NB195_192 := n39_
  have HB := n40_
  clear n0_ n1_ n2_ n3_ n4_ n5_ n6_ n7_ n8_ n9_ n10_ n11_ n12_ n13_ n14_ n15_ n16_ n17_ n18_ n19_ n20_ n21_ n22_ n23_ n24_ n25_ n26_ n27_ n28_ n29_ n30_ n31_ n32_ n33_ n34_ n35_ n36_ n37_ n38_ n39_ n40_
  have hHeld : w48.cell? ⟨gb191, 0, none⟩ = some (.string (⟨#[110]⟩ : ByteArray)) ∧ w48.cell? ⟨gb191, 1, none⟩ = some (.int .i64 5) ∧ w48.cell? ⟨gb191, 2, none⟩ = some (.int .i64 5) ∧ w48.cell? ⟨gb191, 3, none⟩ = some (.slice Ao34 y185.length co34) ∧ w48.cell? ⟨gb191, 4, none⟩ = some (.slice Ao33 y188.length co33) ∧ w48.cell? ⟨gb191, 5, none⟩ = some (.bool false) := hS_
  refine norm_ (a' := ?_) ?_ ?_
  rotate_left
  · simp only [putAll, Act.put, List.setIfInBounds_toArray, List.set_cons_zero, List.set_cons_succ]
    rfl
  refine one_ (i := 6) (N := none) #[true, true, true, true, true, true, true, false, false] rfl rfl (one_of HT_.out (by kernel_rfl)) (by decide) (fun K hK => ?_)
  have hs49 : w48.cell? ⟨gb193, 0, none⟩ = some (.string (⟨#[]⟩ : ByteArray)) := (blk_cell BK193.out 0).trans rfl
  have hfs49 := blk_frozen BK193.out 0
  have hns49_0 := NB184_193.out
  have hns49_1 := NB191_193.out
  have hns49_2 := NB192_193.out
  have hns49_4 := NB194_193.out
  have hns49_5 := NB195_193.out
  have hms49_0 := NB193_184.out
  have hms49_1 := NB193_191.out
  have hms49_2 := NB193_192.out
  have hms49_4 := NB193_194.out
  have hms49_5 := NB193_195.out
  have hs50 : w48.cell? ⟨gb193, 1, none⟩ = some (.int .i64 0) := (blk_cell BK193.out 1).trans rfl
  have hfs50 := blk_frozen BK193.out 1
  have hns50_0 := NB184_193.out
  have hns50_1 := NB191_193.out
  have hns50_2 := NB192_193.out
  have hns50_4 := NB194_193.out
  have hns50_5 := NB195_193.out
  have hms50_0 := NB193_184.out
  have hms50_1 := NB193_191.out
  have hms50_2 := NB193_192.out
  have hms50_4 := NB193_194.out
  have hms50_5 := NB193_195.out
  have hs51 : w48.cell? ⟨gb193, 2, none⟩ = some (.int .i64 0) := (blk_cell BK193.out 2).trans rfl
  have hfs51 := blk_frozen BK193.out 2
  have hns51_0 := NB184_193.out
  have hns51_1 := NB191_193.out
  have hns51_2 := NB192_193.out
  have hns51_4 := NB194_193.out
  have hns51_5 := NB195_193.out
  have hms51_0 := NB193_184.out
  have hms51_1 := NB193_191.out
  have hms51_2 := NB193_192.out
  have hms51_4 := NB193_194.out
  have hms51_5 := NB193_195.out
  have hs52 : w48.cell? ⟨gb193, 3, none⟩ = some (.slice none 0 0) := (blk_cell BK193.out 3).trans rfl
  have hfs52 := blk_frozen BK193.out 3
  have hns52_0 := NB184_193.out
  have hns52_1 := NB191_193.out
  have hns52_2 := NB192_193.out
  have hns52_4 := NB194_193.out
  have hns52_5 := NB195_193.out
  have hms52_0 := NB193_184.out
  have hms52_1 := NB193_191.out
  have hms52_2 := NB193_192.out
  have hms52_4 := NB193_194.out
  have hms52_5 := NB193_195.out
  have hs53 : w48.cell? ⟨gb193, 4, none⟩ = some (.slice none 0 0) := (blk_cell BK193.out 4).trans rfl
  have hfs53 := blk_frozen BK193.out 4
  have hns53_0 := NB184_193.out
  have hns53_1 := NB191_193.out
  have hns53_2 := NB192_193.out
  have hns53_4 := NB194_193.out
  have hns53_5 := NB195_193.out
  have hms53_0 := NB193_184.out
  have hms53_1 := NB193_191.out
  have hms53_2 := NB193_192.out
  have hms53_4 := NB193_194.out
  have hms53_5 := NB193_195.out
  have hs54 : w48.cell? ⟨gb193, 5, none⟩ = some (.bool false) := (blk_cell BK193.out 5).trans rfl
  have hfs54 := blk_frozen BK193.out 5
  have hns54_0 := NB184_193.out
  have hns54_1 := NB191_193.out
  have hns54_2 := NB192_193.out
  have hns54_4 := NB194_193.out
  have hns54_5 := NB195_193.out
  have hms54_0 := NB193_184.out
  have hms54_1 := NB193_191.out
  have hms54_2 := NB193_192.out
  have hms54_4 := NB193_194.out
  have hms54_5 := NB193_195.out
  refine skip_ (w1 := ?_) ?hw ?hN ?hrun ?_
  case hw => rfl
  case hN => rfl
  case hrun =>
    go_simp
    rfl
  refine hK.out _ _ ⟨((cell_far (p := ⟨gb193, _, none⟩) NB191_193.out _).trans (((cell_far (p := ⟨gb193, _, none⟩) NB191_193.out _).trans (((cell_far (p := ⟨gb193, _, none⟩) NB191_193.out _).trans (((cell_far (p := ⟨gb193, _, none⟩) NB191_193.out _).trans (((cell_far (p := ⟨gb193, _, none⟩) NB191_193.out _).trans (((cell_far (p := ⟨gb193, _, none⟩) NB191_193.out _).trans (hHeld.1)))))))))))), ((cell_far (p := ⟨gb193, _, none⟩) NB191_193.out _).trans (((cell_far (p := ⟨gb193, _, none⟩) NB191_193.out _).trans (((cell_far (p := ⟨gb193, _, none⟩) NB191_193.out _).trans (((cell_far (p := ⟨gb193, _, none⟩) NB191_193.out _).trans (((cell_far (p := ⟨gb193, _, none⟩) NB191_193.out _).trans (((cell_far (p := ⟨gb193, _, none⟩) NB191_193.out _).trans (hHeld.2.1)))))))))))), ((cell_far (p := ⟨gb193, _, none⟩) NB191_193.out _).trans (((cell_far (p := ⟨gb193, _, none⟩) NB191_193.out _).trans (((cell_far (p := ⟨gb193, _, none⟩) NB191_193.out _).trans (((cell_far (p := ⟨gb193, _, none⟩) NB191_193.out _).trans (((cell_far (p := ⟨gb193, _, none⟩) NB191_193.out _).trans (((cell_far (p := ⟨gb193, _, none⟩) NB191_193.out _).trans (hHeld.2.2.1)))))))))))), ((cell_far (p := ⟨gb193, _, none⟩) NB191_193.out _).trans (((cell_far (p := ⟨gb193, _, none⟩) NB191_193.out _).trans (((cell_far (p := ⟨gb193, _, none⟩) NB191_193.out _).trans (((cell_far (p := ⟨gb193, _, none⟩) NB191_193.out _).trans (((cell_far (p := ⟨gb193, _, none⟩) NB191_193.out _).trans (((cell_far (p := ⟨gb193, _, none⟩) NB191_193.out _).trans (hHeld.2.2.2.1)))))))))))), ((cell_far (p := ⟨gb193, _, none⟩) NB191_193.out _).trans (((cell_far (p := ⟨gb193, _, none⟩) NB191_193.out _).trans (((cell_far (p := ⟨gb193, _, none⟩) NB191_193.out _).trans (((cell_far (p := ⟨gb193, _, none⟩) NB191_193.out _).trans (((cell_far (p := ⟨gb193, _, none⟩) NB191_193.out _).trans (((cell_far (p := ⟨gb193, _, none⟩) NB191_193.out _).trans (hHeld.2.2.2.2.1)))))))))))), ((cell_far (p := ⟨gb193, _, none⟩) NB191_193.out _).trans (((cell_far (p := ⟨gb193, _, none⟩) NB191_193.out _).trans (((cell_far (p := ⟨gb193, _, none⟩) NB191_193.out _).trans (((cell_far (p := ⟨gb193, _, none⟩) NB191_193.out _).trans (((cell_far (p := ⟨gb193, _, none⟩) NB191_193.out _).trans (((cell_far (p := ⟨gb193, _, none⟩) NB191_193.out _).trans (hHeld.2.2.2.2.2))))))))))))⟩ (fun hHeld => ?_)
  clear hK K
  refine one_ (i := 7) (N := none) #[true, true, true, true, true, true, true, true, false] rfl rfl (one_of HT_.out (by kernel_rfl)) (by decide) (fun K hK => ?_)
  have hs55 : w48.cell? ⟨gb194, 0, none⟩ = some (.string (⟨#[]⟩ : ByteArray)) := (blk_cell BK194.out 0).trans rfl
  have hfs55 := blk_frozen BK194.out 0
  have hns55_0 := NB184_194.out
  have hns55_1 := NB191_194.out
  have hns55_2 := NB192_194.out
  have hns55_3 := NB193_194.out
  have hns55_5 := NB195_194.out
  have hms55_0 := NB194_184.out
  have hms55_1 := NB194_191.out
  have hms55_2 := NB194_192.out
  have hms55_3 := NB194_193.out
  have hms55_5 := NB194_195.out
  have hs56 : w48.cell? ⟨gb194, 1, none⟩ = some (.int .i64 0) := (blk_cell BK194.out 1).trans rfl
  have hfs56 := blk_frozen BK194.out 1
  have hns56_0 := NB184_194.out
  have hns56_1 := NB191_194.out
  have hns56_2 := NB192_194.out
  have hns56_3 := NB193_194.out
  have hns56_5 := NB195_194.out
  have hms56_0 := NB194_184.out
  have hms56_1 := NB194_191.out
  have hms56_2 := NB194_192.out
  have hms56_3 := NB194_193.out
  have hms56_5 := NB194_195.out
  have hs57 : w48.cell? ⟨gb194, 2, none⟩ = some (.int .i64 0) := (blk_cell BK194.out 2).trans rfl
  have hfs57 := blk_frozen BK194.out 2
  have hns57_0 := NB184_194.out
  have hns57_1 := NB191_194.out
  have hns57_2 := NB192_194.out
  have hns57_3 := NB193_194.out
  have hns57_5 := NB195_194.out
  have hms57_0 := NB194_184.out
  have hms57_1 := NB194_191.out
  have hms57_2 := NB194_192.out
  have hms57_3 := NB194_193.out
  have hms57_5 := NB194_195.out
  have hs58 : w48.cell? ⟨gb194, 3, none⟩ = some (.slice none 0 0) := (blk_cell BK194.out 3).trans rfl
  have hfs58 := blk_frozen BK194.out 3
  have hns58_0 := NB184_194.out
  have hns58_1 := NB191_194.out
  have hns58_2 := NB192_194.out
  have hns58_3 := NB193_194.out
  have hns58_5 := NB195_194.out
  have hms58_0 := NB194_184.out
  have hms58_1 := NB194_191.out
  have hms58_2 := NB194_192.out
  have hms58_3 := NB194_193.out
  have hms58_5 := NB194_195.out
  have hs59 : w48.cell? ⟨gb194, 4, none⟩ = some (.slice none 0 0) := (blk_cell BK194.out 4).trans rfl
  have hfs59 := blk_frozen BK194.out 4
  have hns59_0 := NB184_194.out
  have hns59_1 := NB191_194.out
  have hns59_2 := NB192_194.out
  have hns59_3 := NB193_194.out
  have hns59_5 := NB195_194.out
  have hms59_0 := NB194_184.out
  have hms59_1 := NB194_191.out
  have hms59_2 := NB194_192.out
  have hms59_3 := NB194_193.out
  have hms59_5 := NB194_195.out
  have hs60 : w48.cell? ⟨gb194, 5, none⟩ = some (.bool false) := (blk_cell BK194.out 5).trans rfl
  have hfs60 := blk_frozen BK194.out 5
  have hns60_0 := NB184_194.out
  have hns60_1 := NB191_194.out
  have hns60_2 := NB192_194.out
  have hns60_3 := NB193_194.out
  have hns60_5 := NB195_194.out
  have hms60_0 := NB194_184.out
  have hms60_1 := NB194_191.out
  have hms60_2 := NB194_192.out
  have hms60_3 := NB194_193.out
  have hms60_5 := NB194_195.out
  refine skip_ (w1 := ?_) ?hw ?hN ?hrun ?_
  case hw => rfl
  case hN => rfl
  case hrun =>
    go_simp
    rfl
  refine hK.out _ _ ⟨((cell_far (p := ⟨gb194, _, none⟩) NB191_194.out _).trans (((cell_far (p := ⟨gb194, _, none⟩) NB191_194.out _).trans (((cell_far (p := ⟨gb194, _, none⟩) NB191_194.out _).trans (((cell_far (p := ⟨gb194, _, none⟩) NB191_194.out _).trans (((cell_far (p := ⟨gb194, _, none⟩) NB191_194.out _).trans (((cell_far (p := ⟨gb194, _, none⟩) NB191_194.out _).trans (hHeld.1)))))))))))), ((cell_far (p := ⟨gb194, _, none⟩) NB191_194.out _).trans (((cell_far (p := ⟨gb194, _, none⟩) NB191_194.out _).trans (((cell_far (p := ⟨gb194, _, none⟩) NB191_194.out _).trans (((cell_far (p := ⟨gb194, _, none⟩) NB191_194.out _).trans (((cell_far (p := ⟨gb194, _, none⟩) NB191_194.out _).trans (((cell_far (p := ⟨gb194, _, none⟩) NB191_194.out _).trans (hHeld.2.1)))))))))))), ((cell_far (p := ⟨gb194, _, none⟩) NB191_194.out _).trans (((cell_far (p := ⟨gb194, _, none⟩) NB191_194.out _).trans (((cell_far (p := ⟨gb194, _, none⟩) NB191_194.out _).trans (((cell_far (p := ⟨gb194, _, none⟩) NB191_194.out _).trans (((cell_far (p := ⟨gb194, _, none⟩) NB191_194.out _).trans (((cell_far (p := ⟨gb194, _, none⟩) NB191_194.out _).trans (hHeld.2.2.1)))))))))))), ((cell_far (p := ⟨gb194, _, none⟩) NB191_194.out _).trans (((cell_far (p := ⟨gb194, _, none⟩) NB191_194.out _).trans (((cell_far (p := ⟨gb194, _, none⟩) NB191_194.out _).trans (((cell_far (p := ⟨gb194, _, none⟩) NB191_194.out _).trans (((cell_far (p := ⟨gb194, _, none⟩) NB191_194.out _).trans (((cell_far (p := ⟨gb194, _, none⟩) NB191_194.out _).trans (hHeld.2.2.2.1)))))))))))), ((cell_far (p := ⟨gb194, _, none⟩) NB191_194.out _).trans (((cell_far (p := ⟨gb194, _, none⟩) NB191_194.out _).trans (((cell_far (p := ⟨gb194, _, none⟩) NB191_194.out _).trans (((cell_far (p := ⟨gb194, _, none⟩) NB191_194.out _).trans (((cell_far (p := ⟨gb194, _, none⟩) NB191_194.out _).trans (((cell_far (p := ⟨gb194, _, none⟩) NB191_194.out _).trans (hHeld.2.2.2.2.1)))))))))))), ((cell_far (p := ⟨gb194, _, none⟩) NB191_194.out _).trans (((cell_far (p := ⟨gb194, _, none⟩) NB191_194.out _).trans (((cell_far (p := ⟨gb194, _, none⟩) NB191_194.out _).trans (((cell_far (p := ⟨gb194, _, none⟩) NB191_194.out _).trans (((cell_far (p := ⟨gb194, _, none⟩) NB191_194.out _).trans (((cell_far (p := ⟨gb194, _, none⟩) NB191_194.out _).trans (hHeld.2.2.2.2.2))))))))))))⟩ (fun hHeld => ?_)
  clear hK K
  refine one_ (i := 8) (N := none) #[true, true, true, true, true, true, true, true, true] rfl rfl (one_of HT_.out (by kernel_rfl)) (by decide) (fun K hK => ?_)
  have hs61 : w48.cell? ⟨gb195, 0, none⟩ = some (.string (⟨#[]⟩ : ByteArray)) := (blk_cell BK195.out 0).trans rfl
  have hfs61 := blk_frozen BK195.out 0
  have hns61_0 := NB184_195.out
  have hns61_1 := NB191_195.out
  have hns61_2 := NB192_195.out
  have hns61_3 := NB193_195.out
  have hns61_4 := NB194_195.out
  have hms61_0 := NB195_184.out
  have hms61_1 := NB195_191.out
  have hms61_2 := NB195_192.out
  have hms61_3 := NB195_193.out
  have hms61_4 := NB195_194.out
  have hs62 : w48.cell? ⟨gb195, 1, none⟩ = some (.int .i64 0) := (blk_cell BK195.out 1).trans rfl
  have hfs62 := blk_frozen BK195.out 1
  have hns62_0 := NB184_195.out
  have hns62_1 := NB191_195.out
  have hns62_2 := NB192_195.out
  have hns62_3 := NB193_195.out
  have hns62_4 := NB194_195.out
  have hms62_0 := NB195_184.out
  have hms62_1 := NB195_191.out
  have hms62_2 := NB195_192.out
  have hms62_3 := NB195_193.out
  have hms62_4 := NB195_194.out
  have hs63 : w48.cell? ⟨gb195, 2, none⟩ = some (.int .i64 0) := (blk_cell BK195.out 2).trans rfl
  have hfs63 := blk_frozen BK195.out 2
  have hns63_0 := NB184_195.out
  have hns63_1 := NB191_195.out
  have hns63_2 := NB192_195.out
  have hns63_3 := NB193_195.out
  have hns63_4 := NB194_195.out
  have hms63_0 := NB195_184.out
  have hms63_1 := NB195_191.out
  have hms63_2 := NB195_192.out
  have hms63_3 := NB195_193.out
  have hms63_4 := NB195_194.out
  have hs64 : w48.cell? ⟨gb195, 3, none⟩ = some (.slice none 0 0) := (blk_cell BK195.out 3).trans rfl
  have hfs64 := blk_frozen BK195.out 3
  have hns64_0 := NB184_195.out
  have hns64_1 := NB191_195.out
  have hns64_2 := NB192_195.out
  have hns64_3 := NB193_195.out
  have hns64_4 := NB194_195.out
  have hms64_0 := NB195_184.out
  have hms64_1 := NB195_191.out
  have hms64_2 := NB195_192.out
  have hms64_3 := NB195_193.out
  have hms64_4 := NB195_194.out
  have hs65 : w48.cell? ⟨gb195, 4, none⟩ = some (.slice none 0 0) := (blk_cell BK195.out 4).trans rfl
  have hfs65 := blk_frozen BK195.out 4
  have hns65_0 := NB184_195.out
  have hns65_1 := NB191_195.out
  have hns65_2 := NB192_195.out
  have hns65_3 := NB193_195.out
  have hns65_4 := NB194_195.out
  have hms65_0 := NB195_184.out
  have hms65_1 := NB195_191.out
  have hms65_2 := NB195_192.out
  have hms65_3 := NB195_193.out
  have hms65_4 := NB195_194.out
  have hs66 : w48.cell? ⟨gb195, 5, none⟩ = some (.bool false) := (blk_cell BK195.out 5).trans rfl
  have hfs66 := blk_frozen BK195.out 5
  have hns66_0 := NB184_195.out
  have hns66_1 := NB191_195.out
  have hns66_2 := NB192_195.out
  have hns66_3 := NB193_195.out
  have hns66_4 := NB194_195.out
  have hms66_0 := NB195_184.out
  have hms66_1 := NB195_191.out
  have hms66_2 := NB195_192.out
  have hms66_3 := NB195_193.out
  have hms66_4 := NB195_194.out
  refine skip_ (w1 := ?_) ?hw ?hN ?hrun ?_
  case hw => rfl
  case hN => rfl
  case hrun =>
    go_simp
    rfl
  refine hK.out _ _ ⟨((cell_far (p := ⟨gb195, _, none⟩) NB191_195.out _).trans (((cell_far (p := ⟨gb195, _, none⟩) NB191_195.out _).trans (((cell_far (p := ⟨gb195, _, none⟩) NB191_195.out _).trans (((cell_far (p := ⟨gb195, _, none⟩) NB191_195.out _).trans (((cell_far (p := ⟨gb195, _, none⟩) NB191_195.out _).trans (((cell_far (p := ⟨gb195, _, none⟩) NB191_195.out _).trans (hHeld.1)))))))))))), ((cell_far (p := ⟨gb195, _, none⟩) NB191_195.out _).trans (((cell_far (p := ⟨gb195, _, none⟩) NB191_195.out _).trans (((cell_far (p := ⟨gb195, _, none⟩) NB191_195.out _).trans (((cell_far (p := ⟨gb195, _, none⟩) NB191_195.out _).trans (((cell_far (p := ⟨gb195, _, none⟩) NB191_195.out _).trans (((cell_far (p := ⟨gb195, _, none⟩) NB191_195.out _).trans (hHeld.2.1)))))))))))), ((cell_far (p := ⟨gb195, _, none⟩) NB191_195.out _).trans (((cell_far (p := ⟨gb195, _, none⟩) NB191_195.out _).trans (((cell_far (p := ⟨gb195, _, none⟩) NB191_195.out _).trans (((cell_far (p := ⟨gb195, _, none⟩) NB191_195.out _).trans (((cell_far (p := ⟨gb195, _, none⟩) NB191_195.out _).trans (((cell_far (p := ⟨gb195, _, none⟩) NB191_195.out _).trans (hHeld.2.2.1)))))))))))), ((cell_far (p := ⟨gb195, _, none⟩) NB191_195.out _).trans (((cell_far (p := ⟨gb195, _, none⟩) NB191_195.out _).trans (((cell_far (p := ⟨gb195, _, none⟩) NB191_195.out _).trans (((cell_far (p := ⟨gb195, _, none⟩) NB191_195.out _).trans (((cell_far (p := ⟨gb195, _, none⟩) NB191_195.out _).trans (((cell_far (p := ⟨gb195, _, none⟩) NB191_195.out _).trans (hHeld.2.2.2.1)))))))))))), ((cell_far (p := ⟨gb195, _, none⟩) NB191_195.out _).trans (((cell_far (p := ⟨gb195, _, none⟩) NB191_195.out _).trans (((cell_far (p := ⟨gb195, _, none⟩) NB191_195.out _).trans (((cell_far (p := ⟨gb195, _, none⟩) NB191_195.out _).trans (((cell_far (p := ⟨gb195, _, none⟩) NB191_195.out _).trans (((cell_far (p := ⟨gb195, _, none⟩) NB191_195.out _).trans (hHeld.2.2.2.2.1)))))))))))), ((cell_far (p := ⟨gb195, _, none⟩) NB191_195.out _).trans (((cell_far (p := ⟨gb195, _, none⟩) NB191_195.out _).trans (((cell_far (p := ⟨gb195, _, none⟩) NB191_195.out _).trans (((cell_far (p := ⟨gb195, _, none⟩) NB191_195.out _).trans (((cell_far (p := ⟨gb195, _, none⟩) NB191_195.out _).trans (((cell_far (p := ⟨gb195, _, none⟩) NB191_195.out _).trans (hHeld.2.2.2.2.2))))))))))))⟩ (fun hHeld => ?_)
  clear hK K
  refine done_ (done_of HT_.out (by kernel_rfl)) ?_
  have hnb67 := NB193_184.out
  have hnc67 := NB184_193.out
  have hnb68 := NB193_191.out
  have hnc68 := NB191_193.out
  have hnb69 := NB193_192.out
  have hnc69 := NB192_193.out
  have hnb70 := NB193_194.out
  have hnc70 := NB194_193.out
  have hnb71 := NB193_195.out
  have hnc71 := NB195_193.out
  have hcz72_0 : w48.cell? ⟨gb193, 0, none⟩ = some (.string (⟨#[]⟩ : ByteArray)) := (blk_cell BK193.out 0).trans rfl
  have hcz72_1 : w48.cell? ⟨gb193, 1, none⟩ = some (.int .i64 0) := (blk_cell BK193.out 1).trans rfl
  have hcz72_2 : w48.cell? ⟨gb193, 2, none⟩ = some (.int .i64 0) := (blk_cell BK193.out 2).trans rfl
  have hcz72_3 : w48.cell? ⟨gb193, 3, none⟩ = some (.slice none 0 0) := (blk_cell BK193.out 3).trans rfl
  have hcz72_4 : w48.cell? ⟨gb193, 4, none⟩ = some (.slice none 0 0) := (blk_cell BK193.out 4).trans rfl
  have hcz72_5 : w48.cell? ⟨gb193, 5, none⟩ = some (.bool false) := (blk_cell BK193.out 5).trans rfl
  have hfz72_0 := blk_frozen BK193.out 0
  have hfz72_1 := blk_frozen BK193.out 1
  have hfz72_2 := blk_frozen BK193.out 2
  have hfz72_3 := blk_frozen BK193.out 3
  have hfz72_4 := blk_frozen BK193.out 4
  have hfz72_5 := blk_frozen BK193.out 5
  try go_wp2_with (first | ((with_reducible refine gate_dst (N := 31) rfl ?_); refine Kd.R_lit Kd.string _ 9 ?hg (N := 31) ?hd (xs := ([(⟨#[115, 115, 100]⟩ : ByteArray)] : List ByteArray)) (inner := [.string (⟨#[115, 115, 100]⟩ : ByteArray)]) (ok := fun _ => True) (okp := fun _ => True) ?hr ?hp (fun _ hk => hk) trivial (Below.refl _ _) (Nat.le_refl _) (by simp) ?_; (case hd => rfl); (case hg => rfl); (case hr => first | (go_simp; done) | (go_simp; rfl)); (case hp => exact (Reps.one (show Kd.M Kd.string _ _ _ (⟨#[115, 115, 100]⟩ : ByteArray) [.string (⟨#[115, 115, 100]⟩ : ByteArray)] from rfl) (Reps.none _ _))); intro v197 w73 ho74 hb hg_ hnew_; clear hg_ hnew_; (first | rw [← Ny196.out] at ho74 | (simp only [Int.reduceToNat] at ho74; rw [← Ny196.out] at ho74)); have n0_ := Aside0.mk (Kd.R_elder' (by (with_reducible repeat (first | apply Kd.R_alloc | apply Kd.R_drewN | apply Kd.R_drew)); exact (Kd.R_mono (Kd.R_mono (Kd.R_mono (Kd.R_far (p := ⟨gb193, 3, none⟩) (Kd.R_far (p := ⟨gb193, 5, none⟩) (Kd.R_far (p := ⟨gb195, 5, none⟩) (Kd.R_far (p := ⟨gb195, 4, none⟩) (Kd.R_far (p := ⟨gb195, 3, none⟩) (Kd.R_far (p := ⟨gb195, 2, none⟩) (Kd.R_far (p := ⟨gb195, 1, none⟩) (Kd.R_far (p := ⟨gb195, 0, none⟩) (Kd.R_far (p := ⟨gb194, 5, none⟩) (Kd.R_far (p := ⟨gb194, 4, none⟩) (Kd.R_far (p := ⟨gb194, 3, none⟩) (Kd.R_far (p := ⟨gb194, 2, none⟩) (Kd.R_far (p := ⟨gb194, 1, none⟩) (Kd.R_far (p := ⟨gb194, 0, none⟩) (Kd.R_far (p := ⟨gb193, 5, none⟩) (Kd.R_far (p := ⟨gb193, 4, none⟩) (Kd.R_far (p := ⟨gb193, 3, none⟩) (Kd.R_far (p := ⟨gb193, 2, none⟩) (Kd.R_far (p := ⟨gb193, 1, none⟩) (Kd.R_far (p := ⟨gb193, 0, none⟩) (Kd.R_types (Kd.R_types (Kd.R_types HO180.out BK193.out (by decide)) BK194.out (by decide)) BK195.out (by decide)) (fun _ hk => hk.1.1.2) (.string (⟨#[110]⟩ : ByteArray))) (fun _ hk => hk.1.1.2) (.int .i64 5)) (fun _ hk => hk.1.1.2) (.int .i64 5)) (fun _ hk => hk.1.1.2) (.slice Ao34 y185.length co34)) (fun _ hk => hk.1.1.2) (.slice Ao33 y188.length co33)) (fun _ hk => hk.1.1.2) (.bool false)) (fun _ hk => hk.1.2) (.string (⟨#[110]⟩ : ByteArray))) (fun _ hk => hk.1.2) (.int .i64 5)) (fun _ hk => hk.1.2) (.int .i64 5)) (fun _ hk => hk.1.2) (.slice Ao34 y185.length co34)) (fun _ hk => hk.1.2) (.slice Ao33 y188.length co33)) (fun _ hk => hk.1.2) (.bool false)) (fun _ hk => hk.2) (.string (⟨#[110]⟩ : ByteArray))) (fun _ hk => hk.2) (.int .i64 5)) (fun _ hk => hk.2) (.int .i64 5)) (fun _ hk => hk.2) (.slice Ao34 y185.length co34)) (fun _ hk => hk.2) (.slice Ao33 y188.length co33)) (fun _ hk => hk.2) (.bool false)) (fun _ hk => hk.1.1.2) (.bool true)) (fun _ hk => hk.1.1.2) (.slice none 0 0)) (fun _ h_ => h_.1)) (fun _ h_ => h_.1)) (fun _ h_ => h_.1))) (Kd.R_base ho74) hb); have n1_ := Aside0.mk (Kd.R_elder' (by (with_reducible repeat (first | apply Kd.R_alloc | apply Kd.R_drewN | apply Kd.R_drew)); exact (Kd.R_mono (Kd.R_mono (Kd.R_mono (Kd.R_far (p := ⟨gb193, 3, none⟩) (Kd.R_far (p := ⟨gb193, 5, none⟩) (Kd.R_far (p := ⟨gb195, 5, none⟩) (Kd.R_far (p := ⟨gb195, 4, none⟩) (Kd.R_far (p := ⟨gb195, 3, none⟩) (Kd.R_far (p := ⟨gb195, 2, none⟩) (Kd.R_far (p := ⟨gb195, 1, none⟩) (Kd.R_far (p := ⟨gb195, 0, none⟩) (Kd.R_far (p := ⟨gb194, 5, none⟩) (Kd.R_far (p := ⟨gb194, 4, none⟩) (Kd.R_far (p := ⟨gb194, 3, none⟩) (Kd.R_far (p := ⟨gb194, 2, none⟩) (Kd.R_far (p := ⟨gb194, 1, none⟩) (Kd.R_far (p := ⟨gb194, 0, none⟩) (Kd.R_far (p := ⟨gb193, 5, none⟩) (Kd.R_far (p := ⟨gb193, 4, none⟩) (Kd.R_far (p := ⟨gb193, 3, none⟩) (Kd.R_far (p := ⟨gb193, 2, none⟩) (Kd.R_far (p := ⟨gb193, 1, none⟩) (Kd.R_far (p := ⟨gb193, 0, none⟩) (Kd.R_types (Kd.R_types (Kd.R_types HO183.out BK193.out (by decide)) BK194.out (by decide)) BK195.out (by decide)) (fun _ hk => hk.1.1.2) (.string (⟨#[110]⟩ : ByteArray))) (fun _ hk => hk.1.1.2) (.int .i64 5)) (fun _ hk => hk.1.1.2) (.int .i64 5)) (fun _ hk => hk.1.1.2) (.slice Ao34 y185.length co34)) (fun _ hk => hk.1.1.2) (.slice Ao33 y188.length co33)) (fun _ hk => hk.1.1.2) (.bool false)) (fun _ hk => hk.1.2) (.string (⟨#[110]⟩ : ByteArray))) (fun _ hk => hk.1.2) (.int .i64 5)) (fun _ hk => hk.1.2) (.int .i64 5)) (fun _ hk => hk.1.2) (.slice Ao34 y185.length co34)) (fun _ hk => hk.1.2) (.slice Ao33 y188.length co33)) (fun _ hk => hk.1.2) (.bool false)) (fun _ hk => hk.2) (.string (⟨#[110]⟩ : ByteArray))) (fun _ hk => hk.2) (.int .i64 5)) (fun _ hk => hk.2) (.int .i64 5)) (fun _ hk => hk.2) (.slice Ao34 y185.length co34)) (fun _ hk => hk.2) (.slice Ao33 y188.length co33)) (fun _ hk => hk.2) (.bool false)) (fun _ hk => hk.1.1.2) (.bool true)) (fun _ hk => hk.1.1.2) (.slice none 0 0)) (fun _ h_ => h_.1)) (fun _ h_ => h_.1)) (fun _ h_ => h_.1))) (Kd.R_base ho74) hb); have n2_ := Aside0.mk (Kd.R_elder' (by (with_reducible repeat (first | apply Kd.R_alloc | apply Kd.R_drewN | apply Kd.R_drew)); exact (Kd.R_mono (Kd.R_mono (Kd.R_mono (Kd.R_far (p := ⟨gb193, 3, none⟩) (Kd.R_far (p := ⟨gb193, 5, none⟩) (Kd.R_far (p := ⟨gb195, 5, none⟩) (Kd.R_far (p := ⟨gb195, 4, none⟩) (Kd.R_far (p := ⟨gb195, 3, none⟩) (Kd.R_far (p := ⟨gb195, 2, none⟩) (Kd.R_far (p := ⟨gb195, 1, none⟩) (Kd.R_far (p := ⟨gb195, 0, none⟩) (Kd.R_far (p := ⟨gb194, 5, none⟩) (Kd.R_far (p := ⟨gb194, 4, none⟩) (Kd.R_far (p := ⟨gb194, 3, none⟩) (Kd.R_far (p := ⟨gb194, 2, none⟩) (Kd.R_far (p := ⟨gb194, 1, none⟩) (Kd.R_far (p := ⟨gb194, 0, none⟩) (Kd.R_far (p := ⟨gb193, 5, none⟩) (Kd.R_far (p := ⟨gb193, 4, none⟩) (Kd.R_far (p := ⟨gb193, 3, none⟩) (Kd.R_far (p := ⟨gb193, 2, none⟩) (Kd.R_far (p := ⟨gb193, 1, none⟩) (Kd.R_far (p := ⟨gb193, 0, none⟩) (Kd.R_types (Kd.R_types (Kd.R_types HO187.out BK193.out (by decide)) BK194.out (by decide)) BK195.out (by decide)) (fun _ hk => hk.1.1.2) (.string (⟨#[110]⟩ : ByteArray))) (fun _ hk => hk.1.1.2) (.int .i64 5)) (fun _ hk => hk.1.1.2) (.int .i64 5)) (fun _ hk => hk.1.1.2) (.slice Ao34 y185.length co34)) (fun _ hk => hk.1.1.2) (.slice Ao33 y188.length co33)) (fun _ hk => hk.1.1.2) (.bool false)) (fun _ hk => hk.1.2) (.string (⟨#[110]⟩ : ByteArray))) (fun _ hk => hk.1.2) (.int .i64 5)) (fun _ hk => hk.1.2) (.int .i64 5)) (fun _ hk => hk.1.2) (.slice Ao34 y185.length co34)) (fun _ hk => hk.1.2) (.slice Ao33 y188.length co33)) (fun _ hk => hk.1.2) (.bool false)) (fun _ hk => hk.2) (.string (⟨#[110]⟩ : ByteArray))) (fun _ hk => hk.2) (.int .i64 5)) (fun _ hk => hk.2) (.int .i64 5)) (fun _ hk => hk.2) (.slice Ao34 y185.length co34)) (fun _ hk => hk.2) (.slice Ao33 y188.length co33)) (fun _ hk => hk.2) (.bool false)) (fun _ hk => hk.1.1.2) (.bool true)) (fun _ hk => hk.1.1.2) (.slice none 0 0)) (fun _ h_ => h_.1)) (fun _ h_ => h_.1)) (fun _ h_ => h_.1))) (Kd.R_base ho74) hb); have n3_ := Aside0.mk (Kd.R_elder' (by (with_reducible repeat (first | apply Kd.R_alloc | apply Kd.R_drewN | apply Kd.R_drew)); exact (Kd.R_mono (Kd.R_mono (Kd.R_mono (Kd.R_far (p := ⟨gb193, 3, none⟩) (Kd.R_far (p := ⟨gb193, 5, none⟩) (Kd.R_far (p := ⟨gb195, 5, none⟩) (Kd.R_far (p := ⟨gb195, 4, none⟩) (Kd.R_far (p := ⟨gb195, 3, none⟩) (Kd.R_far (p := ⟨gb195, 2, none⟩) (Kd.R_far (p := ⟨gb195, 1, none⟩) (Kd.R_far (p := ⟨gb195, 0, none⟩) (Kd.R_far (p := ⟨gb194, 5, none⟩) (Kd.R_far (p := ⟨gb194, 4, none⟩) (Kd.R_far (p := ⟨gb194, 3, none⟩) (Kd.R_far (p := ⟨gb194, 2, none⟩) (Kd.R_far (p := ⟨gb194, 1, none⟩) (Kd.R_far (p := ⟨gb194, 0, none⟩) (Kd.R_far (p := ⟨gb193, 5, none⟩) (Kd.R_far (p := ⟨gb193, 4, none⟩) (Kd.R_far (p := ⟨gb193, 3, none⟩) (Kd.R_far (p := ⟨gb193, 2, none⟩) (Kd.R_far (p := ⟨gb193, 1, none⟩) (Kd.R_far (p := ⟨gb193, 0, none⟩) (Kd.R_types (Kd.R_types (Kd.R_types HO190.out BK193.out (by decide)) BK194.out (by decide)) BK195.out (by decide)) (fun _ hk => hk.1.1.2) (.string (⟨#[110]⟩ : ByteArray))) (fun _ hk => hk.1.1.2) (.int .i64 5)) (fun _ hk => hk.1.1.2) (.int .i64 5)) (fun _ hk => hk.1.1.2) (.slice Ao34 y185.length co34)) (fun _ hk => hk.1.1.2) (.slice Ao33 y188.length co33)) (fun _ hk => hk.1.1.2) (.bool false)) (fun _ hk => hk.1.2) (.string (⟨#[110]⟩ : ByteArray))) (fun _ hk => hk.1.2) (.int .i64 5)) (fun _ hk => hk.1.2) (.int .i64 5)) (fun _ hk => hk.1.2) (.slice Ao34 y185.length co34)) (fun _ hk => hk.1.2) (.slice Ao33 y188.length co33)) (fun _ hk => hk.1.2) (.bool false)) (fun _ hk => hk.2) (.string (⟨#[110]⟩ : ByteArray))) (fun _ hk => hk.2) (.int .i64 5)) (fun _ hk => hk.2) (.int .i64 5)) (fun _ hk => hk.2) (.slice Ao34 y185.length co34)) (fun _ hk => hk.2) (.slice Ao33 y188.length co33)) (fun _ hk => hk.2) (.bool false)) (fun _ hk => hk.1.1.2) (.bool true)) (fun _ hk => hk.1.1.2) (.slice none 0 0)) (fun _ h_ => h_.1)) (fun _ h_ => h_.1)) (fun _ h_ => h_.1))) (Kd.R_base ho74) hb); have n4_ := Aside0.mk (Kd.R_lower (Kd.R_new' (Kd.R_new' (Kd.R_new' (Kd.R_new' ho74 (Kd.R_lt (by (with_reducible repeat (first | apply Kd.R_alloc | apply Kd.R_drewN | apply Kd.R_drew)); exact (Kd.R_mono (Kd.R_mono (Kd.R_mono (Kd.R_far (p := ⟨gb193, 3, none⟩) (Kd.R_far (p := ⟨gb193, 5, none⟩) (Kd.R_far (p := ⟨gb195, 5, none⟩) (Kd.R_far (p := ⟨gb195, 4, none⟩) (Kd.R_far (p := ⟨gb195, 3, none⟩) (Kd.R_far (p := ⟨gb195, 2, none⟩) (Kd.R_far (p := ⟨gb195, 1, none⟩) (Kd.R_far (p := ⟨gb195, 0, none⟩) (Kd.R_far (p := ⟨gb194, 5, none⟩) (Kd.R_far (p := ⟨gb194, 4, none⟩) (Kd.R_far (p := ⟨gb194, 3, none⟩) (Kd.R_far (p := ⟨gb194, 2, none⟩) (Kd.R_far (p := ⟨gb194, 1, none⟩) (Kd.R_far (p := ⟨gb194, 0, none⟩) (Kd.R_far (p := ⟨gb193, 5, none⟩) (Kd.R_far (p := ⟨gb193, 4, none⟩) (Kd.R_far (p := ⟨gb193, 3, none⟩) (Kd.R_far (p := ⟨gb193, 2, none⟩) (Kd.R_far (p := ⟨gb193, 1, none⟩) (Kd.R_far (p := ⟨gb193, 0, none⟩) (Kd.R_types (Kd.R_types (Kd.R_types HO180.out BK193.out (by decide)) BK194.out (by decide)) BK195.out (by decide)) (fun _ hk => hk.1.1.2) (.string (⟨#[110]⟩ : ByteArray))) (fun _ hk => hk.1.1.2) (.int .i64 5)) (fun _ hk => hk.1.1.2) (.int .i64 5)) (fun _ hk => hk.1.1.2) (.slice Ao34 y185.length co34)) (fun _ hk => hk.1.1.2) (.slice Ao33 y188.length co33)) (fun _ hk => hk.1.1.2) (.bool false)) (fun _ hk => hk.1.2) (.string (⟨#[110]⟩ : ByteArray))) (fun _ hk => hk.1.2) (.int .i64 5)) (fun _ hk => hk.1.2) (.int .i64 5)) (fun _ hk => hk.1.2) (.slice Ao34 y185.length co34)) (fun _ hk => hk.1.2) (.slice Ao33 y188.length co33)) (fun _ hk => hk.1.2) (.bool false)) (fun _ hk => hk.2) (.string (⟨#[110]⟩ : ByteArray))) (fun _ hk => hk.2) (.int .i64 5)) (fun _ hk => hk.2) (.int .i64 5)) (fun _ hk => hk.2) (.slice Ao34 y185.length co34)) (fun _ hk => hk.2) (.slice Ao33 y188.length co33)) (fun _ hk => hk.2) (.bool false)) (fun _ hk => hk.1.1.2) (.bool true)) (fun _ hk => hk.1.1.2) (.slice none 0 0)) (fun _ h_ => h_.1)) (fun _ h_ => h_.1)) (fun _ h_ => h_.1))))) (Kd.R_lt (by (with_reducible repeat (first | apply Kd.R_alloc | apply Kd.R_drewN | apply Kd.R_drew)); exact (Kd.R_mono (Kd.R_mono (Kd.R_mono (Kd.R_far (p := ⟨gb193, 3, none⟩) (Kd.R_far (p := ⟨gb193, 5, none⟩) (Kd.R_far (p := ⟨gb195, 5, none⟩) (Kd.R_far (p := ⟨gb195, 4, none⟩) (Kd.R_far (p := ⟨gb195, 3, none⟩) (Kd.R_far (p := ⟨gb195, 2, none⟩) (Kd.R_far (p := ⟨gb195, 1, none⟩) (Kd.R_far (p := ⟨gb195, 0, none⟩) (Kd.R_far (p := ⟨gb194, 5, none⟩) (Kd.R_far (p := ⟨gb194, 4, none⟩) (Kd.R_far (p := ⟨gb194, 3, none⟩) (Kd.R_far (p := ⟨gb194, 2, none⟩) (Kd.R_far (p := ⟨gb194, 1, none⟩) (Kd.R_far (p := ⟨gb194, 0, none⟩) (Kd.R_far (p := ⟨gb193, 5, none⟩) (Kd.R_far (p := ⟨gb193, 4, none⟩) (Kd.R_far (p := ⟨gb193, 3, none⟩) (Kd.R_far (p := ⟨gb193, 2, none⟩) (Kd.R_far (p := ⟨gb193, 1, none⟩) (Kd.R_far (p := ⟨gb193, 0, none⟩) (Kd.R_types (Kd.R_types (Kd.R_types HO183.out BK193.out (by decide)) BK194.out (by decide)) BK195.out (by decide)) (fun _ hk => hk.1.1.2) (.string (⟨#[110]⟩ : ByteArray))) (fun _ hk => hk.1.1.2) (.int .i64 5)) (fun _ hk => hk.1.1.2) (.int .i64 5)) (fun _ hk => hk.1.1.2) (.slice Ao34 y185.length co34)) (fun _ hk => hk.1.1.2) (.slice Ao33 y188.length co33)) (fun _ hk => hk.1.1.2) (.bool false)) (fun _ hk => hk.1.2) (.string (⟨#[110]⟩ : ByteArray))) (fun _ hk => hk.1.2) (.int .i64 5)) (fun _ hk => hk.1.2) (.int .i64 5)) (fun _ hk => hk.1.2) (.slice Ao34 y185.length co34)) (fun _ hk => hk.1.2) (.slice Ao33 y188.length co33)) (fun _ hk => hk.1.2) (.bool false)) (fun _ hk => hk.2) (.string (⟨#[110]⟩ : ByteArray))) (fun _ hk => hk.2) (.int .i64 5)) (fun _ hk => hk.2) (.int .i64 5)) (fun _ hk => hk.2) (.slice Ao34 y185.length co34)) (fun _ hk => hk.2) (.slice Ao33 y188.length co33)) (fun _ hk => hk.2) (.bool false)) (fun _ hk => hk.1.1.2) (.bool true)) (fun _ hk => hk.1.1.2) (.slice none 0 0)) (fun _ h_ => h_.1)) (fun _ h_ => h_.1)) (fun _ h_ => h_.1))))) (Kd.R_lt (by (with_reducible repeat (first | apply Kd.R_alloc | apply Kd.R_drewN | apply Kd.R_drew)); exact (Kd.R_mono (Kd.R_mono (Kd.R_mono (Kd.R_far (p := ⟨gb193, 3, none⟩) (Kd.R_far (p := ⟨gb193, 5, none⟩) (Kd.R_far (p := ⟨gb195, 5, none⟩) (Kd.R_far (p := ⟨gb195, 4, none⟩) (Kd.R_far (p := ⟨gb195, 3, none⟩) (Kd.R_far (p := ⟨gb195, 2, none⟩) (Kd.R_far (p := ⟨gb195, 1, none⟩) (Kd.R_far (p := ⟨gb195, 0, none⟩) (Kd.R_far (p := ⟨gb194, 5, none⟩) (Kd.R_far (p := ⟨gb194, 4, none⟩) (Kd.R_far (p := ⟨gb194, 3, none⟩) (Kd.R_far (p := ⟨gb194, 2, none⟩) (Kd.R_far (p := ⟨gb194, 1, none⟩) (Kd.R_far (p := ⟨gb194, 0, none⟩) (Kd.R_far (p := ⟨gb193, 5, none⟩) (Kd.R_far (p := ⟨gb193, 4, none⟩) (Kd.R_far (p := ⟨gb193, 3, none⟩) (Kd.R_far (p := ⟨gb193, 2, none⟩) (Kd.R_far (p := ⟨gb193, 1, none⟩) (Kd.R_far (p := ⟨gb193, 0, none⟩) (Kd.R_types (Kd.R_types (Kd.R_types HO187.out BK193.out (by decide)) BK194.out (by decide)) BK195.out (by decide)) (fun _ hk => hk.1.1.2) (.string (⟨#[110]⟩ : ByteArray))) (fun _ hk => hk.1.1.2) (.int .i64 5)) (fun _ hk => hk.1.1.2) (.int .i64 5)) (fun _ hk => hk.1.1.2) (.slice Ao34 y185.length co34)) (fun _ hk => hk.1.1.2) (.slice Ao33 y188.length co33)) (fun _ hk => hk.1.1.2) (.bool false)) (fun _ hk => hk.1.2) (.string (⟨#[110]⟩ : ByteArray))) (fun _ hk => hk.1.2) (.int .i64 5)) (fun _ hk => hk.1.2) (.int .i64 5)) (fun _ hk => hk.1.2) (.slice Ao34 y185.length co34)) (fun _ hk => hk.1.2) (.slice Ao33 y188.length co33)) (fun _ hk => hk.1.2) (.bool false)) (fun _ hk => hk.2) (.string (⟨#[110]⟩ : ByteArray))) (fun _ hk => hk.2) (.int .i64 5)) (fun _ hk => hk.2) (.int .i64 5)) (fun _ hk => hk.2) (.slice Ao34 y185.length co34)) (fun _ hk => hk.2) (.slice Ao33 y188.length co33)) (fun _ hk => hk.2) (.bool false)) (fun _ hk => hk.1.1.2) (.bool true)) (fun _ hk => hk.1.1.2) (.slice none 0 0)) (fun _ h_ => h_.1)) (fun _ h_ => h_.1)) (fun _ h_ => h_.1))))) (Kd.R_lt (by (with_reducible repeat (first | apply Kd.R_alloc | apply Kd.R_drewN | apply Kd.R_drew)); exact (Kd.R_mono (Kd.R_mono (Kd.R_mono (Kd.R_far (p := ⟨gb193, 3, none⟩) (Kd.R_far (p := ⟨gb193, 5, none⟩) (Kd.R_far (p := ⟨gb195, 5, none⟩) (Kd.R_far (p := ⟨gb195, 4, none⟩) (Kd.R_far (p := ⟨gb195, 3, none⟩) (Kd.R_far (p := ⟨gb195, 2, none⟩) (Kd.R_far (p := ⟨gb195, 1, none⟩) (Kd.R_far (p := ⟨gb195, 0, none⟩) (Kd.R_far (p := ⟨gb194, 5, none⟩) (Kd.R_far (p := ⟨gb194, 4, none⟩) (Kd.R_far (p := ⟨gb194, 3, none⟩) (Kd.R_far (p := ⟨gb194, 2, none⟩) (Kd.R_far (p := ⟨gb194, 1, none⟩) (Kd.R_far (p := ⟨gb194, 0, none⟩) (Kd.R_far (p := ⟨gb193, 5, none⟩) (Kd.R_far (p := ⟨gb193, 4, none⟩) (Kd.R_far (p := ⟨gb193, 3, none⟩) (Kd.R_far (p := ⟨gb193, 2, none⟩) (Kd.R_far (p := ⟨gb193, 1, none⟩) (Kd.R_far (p := ⟨gb193, 0, none⟩) (Kd.R_types (Kd.R_types (Kd.R_types HO190.out BK193.out (by decide)) BK194.out (by decide)) BK195.out (by decide)) (fun _ hk => hk.1.1.2) (.string (⟨#[110]⟩ : ByteArray))) (fun _ hk => hk.1.1.2) (.int .i64 5)) (fun _ hk => hk.1.1.2) (.int .i64 5)) (fun _ hk => hk.1.1.2) (.slice Ao34 y185.length co34)) (fun _ hk => hk.1.1.2) (.slice Ao33 y188.length co33)) (fun _ hk => hk.1.1.2) (.bool false)) (fun _ hk => hk.1.2) (.string (⟨#[110]⟩ : ByteArray))) (fun _ hk => hk.1.2) (.int .i64 5)) (fun _ hk => hk.1.2) (.int .i64 5)) (fun _ hk => hk.1.2) (.slice Ao34 y185.length co34)) (fun _ hk => hk.1.2) (.slice Ao33 y188.length co33)) (fun _ hk => hk.1.2) (.bool false)) (fun _ hk => hk.2) (.string (⟨#[110]⟩ : ByteArray))) (fun _ hk => hk.2) (.int .i64 5)) (fun _ hk => hk.2) (.int .i64 5)) (fun _ hk => hk.2) (.slice Ao34 y185.length co34)) (fun _ hk => hk.2) (.slice Ao33 y188.length co33)) (fun _ hk => hk.2) (.bool false)) (fun _ hk => hk.1.1.2) (.bool true)) (fun _ hk => hk.1.1.2) (.slice none 0 0)) (fun _ h_ => h_.1)) (fun _ h_ => h_.1)) (fun _ h_ => h_.1))))) (below_size (by repeat (first | (with_reducible first | exact HB.out | apply below_alloc | apply pw_below_drewN | apply below_drew1 | refine below_set ?_ GE184.out | refine below_set ?_ GE191.out | refine below_set ?_ GE192.out | refine below_set ?_ GE193.out | refine below_set ?_ GE194.out | refine below_set ?_ GE195.out) | exact HB.out)))); have n5_ := Aside0.mk (blk_below (g := gb184) (o := .cells #[.string (⟨#[112]⟩ : ByteArray), .int .i64 0, .int .i64 2, .int .i64 3, .slice Ao26 y178.length co26, .slice Ao25 y181.length co25, .bool false] 28 (0, 0)) (by (with_reducible repeat (first | refine blk_drewN ?_ _ | refine blk_drew ?_ | refine blk_alloc ?_ _)); refine blk_far ?_ NB184_193.out _; (with_reducible repeat (first | refine blk_drewN ?_ _ | refine blk_drew ?_ | refine blk_alloc ?_ _)); refine blk_far ?_ NB184_193.out _; (with_reducible repeat (first | refine blk_drewN ?_ _ | refine blk_drew ?_ | refine blk_alloc ?_ _)); refine blk_far ?_ NB184_195.out _; (with_reducible repeat (first | refine blk_drewN ?_ _ | refine blk_drew ?_ | refine blk_alloc ?_ _)); refine blk_far ?_ NB184_195.out _; (with_reducible repeat (first | refine blk_drewN ?_ _ | refine blk_drew ?_ | refine blk_alloc ?_ _)); refine blk_far ?_ NB184_195.out _; (with_reducible repeat (first | refine blk_drewN ?_ _ | refine blk_drew ?_ | refine blk_alloc ?_ _)); refine blk_far ?_ NB184_195.out _; (with_reducible repeat (first | refine blk_drewN ?_ _ | refine blk_drew ?_ | refine blk_alloc ?_ _)); refine blk_far ?_ NB184_195.out _; (with_reducible repeat (first | refine blk_drewN ?_ _ | refine blk_drew ?_ | refine blk_alloc ?_ _)); refine blk_far ?_ NB184_195.out _; (with_reducible repeat (first | refine blk_drewN ?_ _ | refine blk_drew ?_ | refine blk_alloc ?_ _)); refine blk_far ?_ NB184_194.out _; (with_reducible repeat (first | refine blk_drewN ?_ _ | refine blk_drew ?_ | refine blk_alloc ?_ _)); refine blk_far ?_ NB184_194.out _; (with_reducible repeat (first | refine blk_drewN ?_ _ | refine blk_drew ?_ | refine blk_alloc ?_ _)); refine blk_far ?_ NB184_194.out _; (with_reducible repeat (first | refine blk_drewN ?_ _ | refine blk_drew ?_ | refine blk_alloc ?_ _)); refine blk_far ?_ NB184_194.out _; (with_reducible repeat (first | refine blk_drewN ?_ _ | refine blk_drew ?_ | refine blk_alloc ?_ _)); refine blk_far ?_ NB184_194.out _; (with_reducible repeat (first | refine blk_drewN ?_ _ | refine blk_drew ?_ | refine blk_alloc ?_ _)); refine blk_far ?_ NB184_194.out _; (with_reducible repeat (first | refine blk_drewN ?_ _ | refine blk_drew ?_ | refine blk_alloc ?_ _)); refine blk_far ?_ NB184_193.out _; (with_reducible repeat (first | refine blk_drewN ?_ _ | refine blk_drew ?_ | refine blk_alloc ?_ _)); refine blk_far ?_ NB184_193.out _; (with_reducible repeat (first | refine blk_drewN ?_ _ | refine blk_drew ?_ | refine blk_alloc ?_ _)); refine blk_far ?_ NB184_193.out _; (with_reducible repeat (first | refine blk_drewN ?_ _ | refine blk_drew ?_ | refine blk_alloc ?_ _)); refine blk_far ?_ NB184_193.out _; (with_reducible repeat (first | refine blk_drewN ?_ _ | refine blk_drew ?_ | refine blk_alloc ?_ _)); refine blk_far ?_ NB184_193.out _; (with_reducible repeat (first | refine blk_drewN ?_ _ | refine blk_drew ?_ | refine blk_alloc ?_ _)); refine blk_far ?_ NB184_193.out _; (with_reducible repeat (first | refine blk_drewN ?_ _ | refine blk_drew ?_ | refine blk_alloc ?_ _)); exact BK184.out) hb); have n6_ := Aside0.mk (blk_below (g := gb191) (o := .cells #[.string (⟨#[110]⟩ : ByteArray), .int .i64 5, .int .i64 5, .slice Ao34 y185.length co34, .slice Ao33 y188.length co33, .bool false] 31 (0, 0)) (by (with_reducible repeat (first | refine blk_drewN ?_ _ | refine blk_drew ?_ | refine blk_alloc ?_ _)); refine blk_far ?_ NB191_193.out _; (with_reducible repeat (first | refine blk_drewN ?_ _ | refine blk_drew ?_ | refine blk_alloc ?_ _)); refine blk_far ?_ NB191_193.out _; (with_reducible repeat (first | refine blk_drewN ?_ _ | refine blk_drew ?_ | refine blk_alloc ?_ _)); refine blk_far ?_ NB191_195.out _; (with_reducible repeat (first | refine blk_drewN ?_ _ | refine blk_drew ?_ | refine blk_alloc ?_ _)); refine blk_far ?_ NB191_195.out _; (with_reducible repeat (first | refine blk_drewN ?_ _ | refine blk_drew ?_ | refine blk_alloc ?_ _)); refine blk_far ?_ NB191_195.out _; (with_reducible repeat (first | refine blk_drewN ?_ _ | refine blk_drew ?_ | refine blk_alloc ?_ _)); refine blk_far ?_ NB191_195.out _; (with_reducible repeat (first | refine blk_drewN ?_ _ | refine blk_drew ?_ | refine blk_alloc ?_ _)); refine blk_far ?_ NB191_195.out _; (with_reducible repeat (first | refine blk_drewN ?_ _ | refine blk_drew ?_ | refine blk_alloc ?_ _)); refine blk_far ?_ NB191_195.out _; (with_reducible repeat (first | refine blk_drewN ?_ _ | refine blk_drew ?_ | refine blk_alloc ?_ _)); refine blk_far ?_ NB191_194.out _; (with_reducible repeat (first | refine blk_drewN ?_ _ | refine blk_drew ?_ | refine blk_alloc ?_ _)); refine blk_far ?_ NB191_194.out _; (with_reducible repeat (first | refine blk_drewN ?_ _ | refine blk_drew ?_ | refine blk_alloc ?_ _)); refine blk_far ?_ NB191_194.out _; (with_reducible repeat (first | refine blk_drewN ?_ _ | refine blk_drew ?_ | refine blk_alloc ?_ _)); refine blk_far ?_ NB191_194.out _; (with_reducible repeat (first | refine blk_drewN ?_ _ | refine blk_drew ?_ | refine blk_alloc ?_ _)); refine blk_far ?_ NB191_194.out _; (with_reducible repeat (first | refine blk_drewN ?_ _ | refine blk_drew ?_ | refine blk_alloc ?_ _)); refine blk_far ?_ NB191_194.out _; (with_reducible repeat (first | refine blk_drewN ?_ _ | refine blk_drew ?_ | refine blk_alloc ?_ _)); refine blk_far ?_ NB191_193.out _; (with_reducible repeat (first | refine blk_drewN ?_ _ | refine blk_drew ?_ | refine blk_alloc ?_ _)); refine blk_far ?_ NB191_193.out _; (with_reducible repeat (first | refine blk_drewN ?_ _ | refine blk_drew ?_ | refine blk_alloc ?_ _)); refine blk_far ?_ NB191_193.out _; (with_reducible repeat (first | refine blk_drewN ?_ _ | refine blk_drew ?_ | refine blk_alloc ?_ _)); refine blk_far ?_ NB191_193.out _; (with_reducible repeat (first | refine blk_drewN ?_ _ | refine blk_drew ?_ | refine blk_alloc ?_ _)); refine blk_far ?_ NB191_193.out _; (with_reducible repeat (first | refine blk_drewN ?_ _ | refine blk_drew ?_ | refine blk_alloc ?_ _)); refine blk_far ?_ NB191_193.out _; (with_reducible repeat (first | refine blk_drewN ?_ _ | refine blk_drew ?_ | refine blk_alloc ?_ _)); exact BK191.out) hb); have n7_ := Aside0.mk (blk_below (g := gb192) (o := .cells #[.string (⟨#[112]⟩ : ByteArray), .int .i64 0, .int .i64 2, .int .i64 3, .slice Ao26 y178.length co26, .slice Ao25 y181.length co25, .bool true] 28 (0, 0)) (by (with_reducible repeat (first | refine blk_drewN ?_ _ | refine blk_drew ?_ | refine blk_alloc ?_ _)); refine blk_far ?_ NB192_193.out _; (with_reducible repeat (first | refine blk_drewN ?_ _ | refine blk_drew ?_ | refine blk_alloc ?_ _)); refine blk_far ?_ NB192_193.out _; (with_reducible repeat (first | refine blk_drewN ?_ _ | refine blk_drew ?_ | refine blk_alloc ?_ _)); refine blk_far ?_ NB192_195.out _; (with_reducible repeat (first | refine blk_drewN ?_ _ | refine blk_drew ?_ | refine blk_alloc ?_ _)); refine blk_far ?_ NB192_195.out _; (with_reducible repeat (first | refine blk_drewN ?_ _ | refine blk_drew ?_ | refine blk_alloc ?_ _)); refine blk_far ?_ NB192_195.out _; (with_reducible repeat (first | refine blk_drewN ?_ _ | refine blk_drew ?_ | refine blk_alloc ?_ _)); refine blk_far ?_ NB192_195.out _; (with_reducible repeat (first | refine blk_drewN ?_ _ | refine blk_drew ?_ | refine blk_alloc ?_ _)); refine blk_far ?_ NB192_195.out _; (with_reducible repeat (first | refine blk_drewN ?_ _ | refine blk_drew ?_ | refine blk_alloc ?_ _)); refine blk_far ?_ NB192_195.out _; (with_reducible repeat (first | refine blk_drewN ?_ _ | refine blk_drew ?_ | refine blk_alloc ?_ _)); refine blk_far ?_ NB192_194.out _; (with_reducible repeat (first | refine blk_drewN ?_ _ | refine blk_drew ?_ | refine blk_alloc ?_ _)); refine blk_far ?_ NB192_194.out _; (with_reducible repeat (first | refine blk_drewN ?_ _ | refine blk_drew ?_ | refine blk_alloc ?_ _)); refine blk_far ?_ NB192_194.out _; (with_reducible repeat (first | refine blk_drewN ?_ _ | refine blk_drew ?_ | refine blk_alloc ?_ _)); refine blk_far ?_ NB192_194.out _; (with_reducible repeat (first | refine blk_drewN ?_ _ | refine blk_drew ?_ | refine blk_alloc ?_ _)); refine blk_far ?_ NB192_194.out _; (with_reducible repeat (first | refine blk_drewN ?_ _ | refine blk_drew ?_ | refine blk_alloc ?_ _)); refine blk_far ?_ NB192_194.out _; (with_reducible repeat (first | refine blk_drewN ?_ _ | refine blk_drew ?_ | refine blk_alloc ?_ _)); refine blk_far ?_ NB192_193.out _; (with_reducible repeat (first | refine blk_drewN ?_ _ | refine blk_drew ?_ | refine blk_alloc ?_ _)); refine blk_far ?_ NB192_193.out _; (with_reducible repeat (first | refine blk_drewN ?_ _ | refine blk_drew ?_ | refine blk_alloc ?_ _)); refine blk_far ?_ NB192_193.out _; (with_reducible repeat (first | refine blk_drewN ?_ _ | refine blk_drew ?_ | refine blk_alloc ?_ _)); refine blk_far ?_ NB192_193.out _; (with_reducible repeat (first | refine blk_drewN ?_ _ | refine blk_drew ?_ | refine blk_alloc ?_ _)); refine blk_far ?_ NB192_193.out _; (with_reducible repeat (first | refine blk_drewN ?_ _ | refine blk_drew ?_ | refine blk_alloc ?_ _)); refine blk_far ?_ NB192_193.out _; (with_reducible repeat (first | refine blk_drewN ?_ _ | refine blk_drew ?_ | refine blk_alloc ?_ _)); exact BK192.out) hb); have n8_ := Aside0.mk (blk_below (g := gb193) (o := .cells #[.string (⟨#[110]⟩ : ByteArray), .int .i64 5, .int .i64 5, .slice none 0 0, .slice Ao33 y188.length co33, .bool true] 31 (0, 0)) (by (with_reducible repeat (first | refine blk_drewN ?_ _ | refine blk_drew ?_ | refine blk_alloc ?_ _)); refine blk_put (cs := #[.string (⟨#[110]⟩ : ByteArray), .int .i64 5, .int .i64 5, .slice Ao34 y185.length co34, .slice Ao33 y188.length co33, .bool true]) ?_ 3 _ rfl; (with_reducible repeat (first | refine blk_drewN ?_ _ | refine blk_drew ?_ | refine blk_alloc ?_ _)); refine blk_put (cs := #[.string (⟨#[110]⟩ : ByteArray), .int .i64 5, .int .i64 5, .slice Ao34 y185.length co34, .slice Ao33 y188.length co33, .bool false]) ?_ 5 _ rfl; (with_reducible repeat (first | refine blk_drewN ?_ _ | refine blk_drew ?_ | refine blk_alloc ?_ _)); refine blk_far ?_ NB193_195.out _; (with_reducible repeat (first | refine blk_drewN ?_ _ | refine blk_drew ?_ | refine blk_alloc ?_ _)); refine blk_far ?_ NB193_195.out _; (with_reducible repeat (first | refine blk_drewN ?_ _ | refine blk_drew ?_ | refine blk_alloc ?_ _)); refine blk_far ?_ NB193_195.out _; (with_reducible repeat (first | refine blk_drewN ?_ _ | refine blk_drew ?_ | refine blk_alloc ?_ _)); refine blk_far ?_ NB193_195.out _; (with_reducible repeat (first | refine blk_drewN ?_ _ | refine blk_drew ?_ | refine blk_alloc ?_ _)); refine blk_far ?_ NB193_195.out _; (with_reducible repeat (first | refine blk_drewN ?_ _ | refine blk_drew ?_ | refine blk_alloc ?_ _)); refine blk_far ?_ NB193_195.out _; (with_reducible repeat (first | refine blk_drewN ?_ _ | refine blk_drew ?_ | refine blk_alloc ?_ _)); refine blk_far ?_ NB193_194.out _; (with_reducible repeat (first | refine blk_drewN ?_ _ | refine blk_drew ?_ | refine blk_alloc ?_ _)); refine blk_far ?_ NB193_194.out _; (with_reducible repeat (first | refine blk_drewN ?_ _ | refine blk_drew ?_ | refine blk_alloc ?_ _)); refine blk_far ?_ NB193_194.out _; (with_reducible repeat (first | refine blk_drewN ?_ _ | refine blk_drew ?_ | refine blk_alloc ?_ _)); refine blk_far ?_ NB193_194.out _; (with_reducible repeat (first | refine blk_drewN ?_ _ | refine blk_drew ?_ | refine blk_alloc ?_ _)); refine blk_far ?_ NB193_194.out _; (with_reducible repeat (first | refine blk_drewN ?_ _ | refine blk_drew ?_ | refine blk_alloc ?_ _)); refine blk_far ?_ NB193_194.out _; (with_reducible repeat (first | refine blk_drewN ?_ _ | refine blk_drew ?_ | refine blk_alloc ?_ _)); refine blk_put (cs := #[.string (⟨#[110]⟩ : ByteArray), .int .i64 5, .int .i64 5, .slice Ao34 y185.length co34, .slice Ao33 y188.length co33, .bool false]) ?_ 5 _ rfl; (with_reducible repeat (first | refine blk_drewN ?_ _ | refine blk_drew ?_ | refine blk_alloc ?_ _)); refine blk_put (cs := #[.string (⟨#[110]⟩ : ByteArray), .int .i64 5, .int .i64 5, .slice Ao34 y185.length co34, .slice none 0 0, .bool false]) ?_ 4 _ rfl; (with_reducible repeat (first | refine blk_drewN ?_ _ | refine blk_drew ?_ | refine blk_alloc ?_ _)); refine blk_put (cs := #[.string (⟨#[110]⟩ : ByteArray), .int .i64 5, .int .i64 5, .slice none 0 0, .slice none 0 0, .bool false]) ?_ 3 _ rfl; (with_reducible repeat (first | refine blk_drewN ?_ _ | refine blk_drew ?_ | refine blk_alloc ?_ _)); refine blk_put (cs := #[.string (⟨#[110]⟩ : ByteArray), .int .i64 5, .int .i64 0, .slice none 0 0, .slice none 0 0, .bool false]) ?_ 2 _ rfl; (with_reducible repeat (first | refine blk_drewN ?_ _ | refine blk_drew ?_ | refine blk_alloc ?_ _)); refine blk_put (cs := #[.string (⟨#[110]⟩ : ByteArray), .int .i64 0, .int .i64 0, .slice none 0 0, .slice none 0 0, .bool false]) ?_ 1 _ rfl; (with_reducible repeat (first | refine blk_drewN ?_ _ | refine blk_drew ?_ | refine blk_alloc ?_ _)); refine blk_put (cs := #[.string (⟨#[]⟩ : ByteArray), .int .i64 0, .int .i64 0, .slice none 0 0, .slice none 0 0, .bool false]) ?_ 0 _ rfl; (with_reducible repeat (first | refine blk_drewN ?_ _ | refine blk_drew ?_ | refine blk_alloc ?_ _)); exact BK193.out) hb); have n9_ := Aside0.mk (blk_below (g := gb194) (o := .cells #[.string (⟨#[110]⟩ : ByteArray), .int .i64 5, .int .i64 5, .slice Ao34 y185.length co34, .slice Ao33 y188.length co33, .bool false] 31 (0, 0)) (by (with_reducible repeat (first | refine blk_drewN ?_ _ | refine blk_drew ?_ | refine blk_alloc ?_ _)); refine blk_far ?_ NB194_193.out _; (with_reducible repeat (first | refine blk_drewN ?_ _ | refine blk_drew ?_ | refine blk_alloc ?_ _)); refine blk_far ?_ NB194_193.out _; (with_reducible repeat (first | refine blk_drewN ?_ _ | refine blk_drew ?_ | refine blk_alloc ?_ _)); refine blk_far ?_ NB194_195.out _; (with_reducible repeat (first | refine blk_drewN ?_ _ | refine blk_drew ?_ | refine blk_alloc ?_ _)); refine blk_far ?_ NB194_195.out _; (with_reducible repeat (first | refine blk_drewN ?_ _ | refine blk_drew ?_ | refine blk_alloc ?_ _)); refine blk_far ?_ NB194_195.out _; (with_reducible repeat (first | refine blk_drewN ?_ _ | refine blk_drew ?_ | refine blk_alloc ?_ _)); refine blk_far ?_ NB194_195.out _; (with_reducible repeat (first | refine blk_drewN ?_ _ | refine blk_drew ?_ | refine blk_alloc ?_ _)); refine blk_far ?_ NB194_195.out _; (with_reducible repeat (first | refine blk_drewN ?_ _ | refine blk_drew ?_ | refine blk_alloc ?_ _)); refine blk_far ?_ NB194_195.out _; (with_reducible repeat (first | refine blk_drewN ?_ _ | refine blk_drew ?_ | refine blk_alloc ?_ _)); refine blk_put (cs := #[.string (⟨#[110]⟩ : ByteArray), .int .i64 5, .int .i64 5, .slice Ao34 y185.length co34, .slice Ao33 y188.length co33, .bool false]) ?_ 5 _ rfl; (with_reducible repeat (first | refine blk_drewN ?_ _ | refine blk_drew ?_ | refine blk_alloc ?_ _)); refine blk_put (cs := #[.string (⟨#[110]⟩ : ByteArray), .int .i64 5, .int .i64 5, .slice Ao34 y185.length co34, .slice none 0 0, .bool false]) ?_ 4 _ rfl; (with_reducible repeat (first | refine blk_drewN ?_ _ | refine blk_drew ?_ | refine blk_alloc ?_ _)); refine blk_put (cs := #[.string (⟨#[110]⟩ : ByteArray), .int .i64 5, .int .i64 5, .slice none 0 0, .slice none 0 0, .bool false]) ?_ 3 _ rfl; (with_reducible repeat (first | refine blk_drewN ?_ _ | refine blk_drew ?_ | refine blk_alloc ?_ _)); refine blk_put (cs := #[.string (⟨#[110]⟩ : ByteArray), .int .i64 5, .int .i64 0, .slice none 0 0, .slice none 0 0, .bool false]) ?_ 2 _ rfl; (with_reducible repeat (first | refine blk_drewN ?_ _ | refine blk_drew ?_ | refine blk_alloc ?_ _)); refine blk_put (cs := #[.string (⟨#[110]⟩ : ByteArray), .int .i64 0, .int .i64 0, .slice none 0 0, .slice none 0 0, .bool false]) ?_ 1 _ rfl; (with_reducible repeat (first | refine blk_drewN ?_ _ | refine blk_drew ?_ | refine blk_alloc ?_ _)); refine blk_put (cs := #[.string (⟨#[]⟩ : ByteArray), .int .i64 0, .int .i64 0, .slice none 0 0, .slice none 0 0, .bool false]) ?_ 0 _ rfl; (with_reducible repeat (first | refine blk_drewN ?_ _ | refine blk_drew ?_ | refine blk_alloc ?_ _)); refine blk_far ?_ NB194_193.out _; (with_reducible repeat (first | refine blk_drewN ?_ _ | refine blk_drew ?_ | refine blk_alloc ?_ _)); refine blk_far ?_ NB194_193.out _; (with_reducible repeat (first | refine blk_drewN ?_ _ | refine blk_drew ?_ | refine blk_alloc ?_ _)); refine blk_far ?_ NB194_193.out _; (with_reducible repeat (first | refine blk_drewN ?_ _ | refine blk_drew ?_ | refine blk_alloc ?_ _)); refine blk_far ?_ NB194_193.out _; (with_reducible repeat (first | refine blk_drewN ?_ _ | refine blk_drew ?_ | refine blk_alloc ?_ _)); refine blk_far ?_ NB194_193.out _; (with_reducible repeat (first | refine blk_drewN ?_ _ | refine blk_drew ?_ | refine blk_alloc ?_ _)); refine blk_far ?_ NB194_193.out _; (with_reducible repeat (first | refine blk_drewN ?_ _ | refine blk_drew ?_ | refine blk_alloc ?_ _)); exact BK194.out) hb); have n10_ := Aside0.mk (blk_below (g := gb195) (o := .cells #[.string (⟨#[110]⟩ : ByteArray), .int .i64 5, .int .i64 5, .slice Ao34 y185.length co34, .slice Ao33 y188.length co33, .bool false] 31 (0, 0)) (by (with_reducible repeat (first | refine blk_drewN ?_ _ | refine blk_drew ?_ | refine blk_alloc ?_ _)); refine blk_far ?_ NB195_193.out _; (with_reducible repeat (first | refine blk_drewN ?_ _ | refine blk_drew ?_ | refine blk_alloc ?_ _)); refine blk_far ?_ NB195_193.out _; (with_reducible repeat (first | refine blk_drewN ?_ _ | refine blk_drew ?_ | refine blk_alloc ?_ _)); refine blk_put (cs := #[.string (⟨#[110]⟩ : ByteArray), .int .i64 5, .int .i64 5, .slice Ao34 y185.length co34, .slice Ao33 y188.length co33, .bool false]) ?_ 5 _ rfl; (with_reducible repeat (first | refine blk_drewN ?_ _ | refine blk_drew ?_ | refine blk_alloc ?_ _)); refine blk_put (cs := #[.string (⟨#[110]⟩ : ByteArray), .int .i64 5, .int .i64 5, .slice Ao34 y185.length co34, .slice none 0 0, .bool false]) ?_ 4 _ rfl; (with_reducible repeat (first | refine blk_drewN ?_ _ | refine blk_drew ?_ | refine blk_alloc ?_ _)); refine blk_put (cs := #[.string (⟨#[110]⟩ : ByteArray), .int .i64 5, .int .i64 5, .slice none 0 0, .slice none 0 0, .bool false]) ?_ 3 _ rfl; (with_reducible repeat (first | refine blk_drewN ?_ _ | refine blk_drew ?_ | refine blk_alloc ?_ _)); refine blk_put (cs := #[.string (⟨#[110]⟩ : ByteArray), .int .i64 5, .int .i64 0, .slice none 0 0, .slice none 0 0, .bool false]) ?_ 2 _ rfl; (with_reducible repeat (first | refine blk_drewN ?_ _ | refine blk_drew ?_ | refine blk_alloc ?_ _)); refine blk_put (cs := #[.string (⟨#[110]⟩ : ByteArray), .int .i64 0, .int .i64 0, .slice none 0 0, .slice none 0 0, .bool false]) ?_ 1 _ rfl; (with_reducible repeat (first | refine blk_drewN ?_ _ | refine blk_drew ?_ | refine blk_alloc ?_ _)); refine blk_put (cs := #[.string (⟨#[]⟩ : ByteArray), .int .i64 0, .int .i64 0, .slice none 0 0, .slice none 0 0, .bool false]) ?_ 0 _ rfl; (with_reducible repeat (first | refine blk_drewN ?_ _ | refine blk_drew ?_ | refine blk_alloc ?_ _)); refine blk_far ?_ NB195_194.out _; (with_reducible repeat (first | refine blk_drewN ?_ _ | refine blk_drew ?_ | refine blk_alloc ?_ _)); refine blk_far ?_ NB195_194.out _; (with_reducible repeat (first | refine blk_drewN ?_ _ | refine blk_drew ?_ | refine blk_alloc ?_ _)); refine blk_far ?_ NB195_194.out _; (with_reducible repeat (first | refine blk_drewN ?_ _ | refine blk_drew ?_ | refine blk_alloc ?_ _)); refine blk_far ?_ NB195_194.out _; (with_reducible repeat (first | refine blk_drewN ?_ _ | refine blk_drew ?_ | refine blk_alloc ?_ _)); refine blk_far ?_ NB195_194.out _; (with_reducible repeat (first | refine blk_drewN ?_ _ | refine blk_drew ?_ | refine blk_alloc ?_ _)); refine blk_far ?_ NB195_194.out _; (with_reducible repeat (first | refine blk_drewN ?_ _ | refine blk_drew ?_ | refine blk_alloc ?_ _)); refine blk_far ?_ NB195_193.out _; (with_reducible repeat (first | refine blk_drewN ?_ _ | refine blk_drew ?_ | refine blk_alloc ?_ _)); refine blk_far ?_ NB195_193.out _; (with_reducible repeat (first | refine blk_drewN ?_ _ | refine blk_drew ?_ | refine blk_alloc ?_ _)); refine blk_far ?_ NB195_193.out _; (with_reducible repeat (first | refine blk_drewN ?_ _ | refine blk_drew ?_ | refine blk_alloc ?_ _)); refine blk_far ?_ NB195_193.out _; (with_reducible repeat (first | refine blk_drewN ?_ _ | refine blk_drew ?_ | refine blk_alloc ?_ _)); refine blk_far ?_ NB195_193.out _; (with_reducible repeat (first | refine blk_drewN ?_ _ | refine blk_drew ?_ | refine blk_alloc ?_ _)); refine blk_far ?_ NB195_193.out _; (with_reducible repeat (first | refine blk_drewN ?_ _ | refine blk_drew ?_ | refine blk_alloc ?_ _)); exact BK195.out) hb); have n11_ := Aside0.mk (below_step (by repeat (first | (with_reducible first | exact HB.out | apply below_alloc | apply pw_below_drewN | apply below_drew1 | refine below_set ?_ GE184.out | refine below_set ?_ GE191.out | refine below_set ?_ GE192.out | refine below_set ?_ GE193.out | refine below_set ?_ GE194.out | refine below_set ?_ GE195.out) | exact HB.out)) hb); clear HO180; clear HO183; clear HO187; clear HO190; clear BK184; clear BK191; clear BK192; clear BK193; clear BK194; clear BK195; clear HB; have HO180 := n0_; have HO183 := n1_; have HO187 := n2_; have HO190 := n3_; have HO198 := n4_; have BK184 := n5_; have BK191 := n6_; have BK192 := n7_; have BK193 := n8_; have BK194 := n9_; have BK195 := n10_; have HB := n11_; clear n0_ n1_ n2_ n3_ n4_ n5_ n6_ n7_ n8_ n9_ n10_ n11_; clear hb ho74; obtain ⟨Ao75, co75, eo75⟩ := Kd.R_slice HO198.out; subst eo75; have hnb76 := NB194_184.out; have hnc76 := NB184_194.out; have hnb77 := NB194_191.out; have hnc77 := NB191_194.out; have hnb78 := NB194_192.out; have hnc78 := NB192_194.out; have hnb79 := NB194_195.out; have hnc79 := NB195_194.out; have hcz80_0 : w73.cell? ⟨gb194, 0, none⟩ = some (.string (⟨#[110]⟩ : ByteArray)) := (blk_cell BK194.out 0).trans rfl; have hcz80_1 : w73.cell? ⟨gb194, 1, none⟩ = some (.int .i64 5) := (blk_cell BK194.out 1).trans rfl; have hcz80_2 : w73.cell? ⟨gb194, 2, none⟩ = some (.int .i64 5) := (blk_cell BK194.out 2).trans rfl; have hcz80_3 : w73.cell? ⟨gb194, 3, none⟩ = some (.slice Ao34 y185.length co34) := (blk_cell BK194.out 3).trans rfl; have hcz80_4 : w73.cell? ⟨gb194, 4, none⟩ = some (.slice Ao33 y188.length co33) := (blk_cell BK194.out 4).trans rfl; have hcz80_5 : w73.cell? ⟨gb194, 5, none⟩ = some (.bool false) := (blk_cell BK194.out 5).trans rfl; have hfz80_0 := blk_frozen BK194.out 0; have hfz80_1 := blk_frozen BK194.out 1; have hfz80_2 := blk_frozen BK194.out 2; have hfz80_3 := blk_frozen BK194.out 3; have hfz80_4 := blk_frozen BK194.out 4; have hfz80_5 := blk_frozen BK194.out 5) | ((with_reducible refine gate_dst (N := 33) rfl ?_); refine Kd.R_lit Kd.string _ 9 ?hg (N := 33) ?hd (xs := ([(⟨#[119, 101, 115, 116]⟩ : ByteArray), (⟨#[206, 179]⟩ : ByteArray)] : List ByteArray)) (inner := [.string (⟨#[119, 101, 115, 116]⟩ : ByteArray), .string (⟨#[206, 179]⟩ : ByteArray)]) (ok := fun _ => True) (okp := fun _ => True) ?hr ?hp (fun _ hk => hk) trivial (Below.refl _ _) (Nat.le_refl _) (by simp) ?_; (case hd => rfl); (case hg => rfl); (case hr => first | (go_simp; done) | (go_simp; rfl)); (case hp => exact (Reps.one (show Kd.M Kd.string _ _ _ (⟨#[119, 101, 115, 116]⟩ : ByteArray) [.string (⟨#[119, 101, 115, 116]⟩ : ByteArray)] from rfl) (Reps.one (show Kd.M Kd.string _ _ _ (⟨#[206, 179]⟩ : ByteArray) [.string (⟨#[206, 179]⟩ : ByteArray)] from rfl) (Reps.none _ _)))); intro v200 w81 ho82 hb hg_ hnew_; clear hg_ hnew_; (first | rw [← Ny199.out] at ho82 | (simp only [Int.reduceToNat] at ho82; rw [← Ny199.out] at ho82)); have n0_ := Aside0.mk (Kd.R_elder' (by (with_reducible repeat (first | apply Kd.R_alloc | apply Kd.R_drewN | apply Kd.R_drew)); exact (Kd.R_mono (Kd.R_far (p := ⟨gb194, 3, none⟩) (Kd.R_types HO180.out BK194.out (by decide)) (fun _ hk => hk.2) (.slice Ao75 y196.length co75)) (fun _ h_ => h_.1))) (Kd.R_base ho82) hb); have n1_ := Aside0.mk (Kd.R_elder' (by (with_reducible repeat (first | apply Kd.R_alloc | apply Kd.R_drewN | apply Kd.R_drew)); exact (Kd.R_mono (Kd.R_far (p := ⟨gb194, 3, none⟩) (Kd.R_types HO183.out BK194.out (by decide)) (fun _ hk => hk.2) (.slice Ao75 y196.length co75)) (fun _ h_ => h_.1))) (Kd.R_base ho82) hb); have n2_ := Aside0.mk (Kd.R_elder' (by (with_reducible repeat (first | apply Kd.R_alloc | apply Kd.R_drewN | apply Kd.R_drew)); exact (Kd.R_mono (Kd.R_far (p := ⟨gb194, 3, none⟩) (Kd.R_types HO187.out BK194.out (by decide)) (fun _ hk => hk.2) (.slice Ao75 y196.length co75)) (fun _ h_ => h_.1))) (Kd.R_base ho82) hb); have n3_ := Aside0.mk (Kd.R_elder' (by (with_reducible repeat (first | apply Kd.R_alloc | apply Kd.R_drewN | apply Kd.R_drew)); exact (Kd.R_mono (Kd.R_far (p := ⟨gb194, 3, none⟩) (Kd.R_types HO190.out BK194.out (by decide)) (fun _ hk => hk.2) (.slice Ao75 y196.length co75)) (fun _ h_ => h_.1))) (Kd.R_base ho82) hb); have n4_ := Aside0.mk (Kd.R_elder' (by (with_reducible repeat (first | apply Kd.R_alloc | apply Kd.R_drewN | apply Kd.R_drew)); exact (Kd.R_mono (Kd.R_far (p := ⟨gb194, 3, none⟩) (Kd.R_types HO198.out BK194.out (by decide)) (fun _ hk => hk.2) (.slice Ao75 y196.length co75)) (fun _ h_ => h_.1))) (Kd.R_base ho82) hb); have n5_ := Aside0.mk (Kd.R_lower (Kd.R_new' (Kd.R_new' (Kd.R_new' (Kd.R_new' (Kd.R_new' ho82 (Kd.R_lt (by (with_reducible repeat (first | apply Kd.R_alloc | apply Kd.R_drewN | apply Kd.R_drew)); exact (Kd.R_mono (Kd.R_far (p := ⟨gb194, 3, none⟩) (Kd.R_types HO180.out BK194.out (by decide)) (fun _ hk => hk.2) (.slice Ao75 y196.length co75)) (fun _ h_ => h_.1))))) (Kd.R_lt (by (with_reducible repeat (first | apply Kd.R_alloc | apply Kd.R_drewN | apply Kd.R_drew)); exact (Kd.R_mono (Kd.R_far (p := ⟨gb194, 3, none⟩) (Kd.R_types HO183.out BK194.out (by decide)) (fun _ hk => hk.2) (.slice Ao75 y196.length co75)) (fun _ h_ => h_.1))))) (Kd.R_lt (by (with_reducible repeat (first | apply Kd.R_alloc | apply Kd.R_drewN | apply Kd.R_drew)); exact (Kd.R_mono (Kd.R_far (p := ⟨gb194, 3, none⟩) (Kd.R_types HO187.out BK194.out (by decide)) (fun _ hk => hk.2) (.slice Ao75 y196.length co75)) (fun _ h_ => h_.1))))) (Kd.R_lt (by (with_reducible repeat (first | apply Kd.R_alloc | apply Kd.R_drewN | apply Kd.R_drew)); exact (Kd.R_mono (Kd.R_far (p := ⟨gb194, 3, none⟩) (Kd.R_types HO190.out BK194.out (by decide)) (fun _ hk => hk.2) (.slice Ao75 y196.length co75)) (fun _ h_ => h_.1))))) (Kd.R_lt (by (with_reducible repeat (first | apply Kd.R_alloc | apply Kd.R_drewN | apply Kd.R_drew)); exact (Kd.R_mono (Kd.R_far (p := ⟨gb194, 3, none⟩) (Kd.R_types HO198.out BK194.out (by decide)) (fun _ hk => hk.2) (.slice Ao75 y196.length co75)) (fun _ h_ => h_.1))))) (below_size (by repeat (first | (with_reducible first | exact HB.out | apply below_alloc | apply pw_below_drewN | apply below_drew1 | refine below_set ?_ GE184.out | refine below_set ?_ GE191.out | refine below_set ?_ GE192.out | refine below_set ?_ GE193.out | refine below_set ?_ GE194.out | refine below_set ?_ GE195.out) | exact HB.out)))); have n6_ := Aside0.mk (blk_below (g := gb184) (o := .cells #[.string (⟨#[112]⟩ : ByteArray), .int .i64 0, .int .i64 2, .int .i64 3, .slice Ao26 y178.length co26, .slice Ao25 y181.length co25, .bool false] 28 (0, 0)) (by (with_reducible repeat (first | refine blk_drewN ?_ _ | refine blk_drew ?_ | refine blk_alloc ?_ _)); refine blk_far ?_ NB184_194.out _; (with_reducible repeat (first | refine blk_drewN ?_ _ | refine blk_drew ?_ | refine blk_alloc ?_ _)); exact BK184.out) hb); have n7_ := Aside0.mk (blk_below (g := gb191) (o := .cells #[.string (⟨#[110]⟩ : ByteArray), .int .i64 5, .int .i64 5, .slice Ao34 y185.length co34, .slice Ao33 y188.length co33, .bool false] 31 (0, 0)) (by (with_reducible repeat (first | refine blk_drewN ?_ _ | refine blk_drew ?_ | refine blk_alloc ?_ _)); refine blk_far ?_ NB191_194.out _; (with_reducible repeat (first | refine blk_drewN ?_ _ | refine blk_drew ?_ | refine blk_alloc ?_ _)); exact BK191.out) hb); have n8_ := Aside0.mk (blk_below (g := gb192) (o := .cells #[.string (⟨#[112]⟩ : ByteArray), .int .i64 0, .int .i64 2, .int .i64 3, .slice Ao26 y178.length co26, .slice Ao25 y181.length co25, .bool true] 28 (0, 0)) (by (with_reducible repeat (first | refine blk_drewN ?_ _ | refine blk_drew ?_ | refine blk_alloc ?_ _)); refine blk_far ?_ NB192_194.out _; (with_reducible repeat (first | refine blk_drewN ?_ _ | refine blk_drew ?_ | refine blk_alloc ?_ _)); exact BK192.out) hb); have n9_ := Aside0.mk (blk_below (g := gb193) (o := .cells #[.string (⟨#[110]⟩ : ByteArray), .int .i64 5, .int .i64 5, .slice none 0 0, .slice Ao33 y188.length co33, .bool true] 31 (0, 0)) (by (with_reducible repeat (first | refine blk_drewN ?_ _ | refine blk_drew ?_ | refine blk_alloc ?_ _)); refine blk_far ?_ NB193_194.out _; (with_reducible repeat (first | refine blk_drewN ?_ _ | refine blk_drew ?_ | refine blk_alloc ?_ _)); exact BK193.out) hb); have n10_ := Aside0.mk (blk_below (g := gb194) (o := .cells #[.string (⟨#[110]⟩ : ByteArray), .int .i64 5, .int .i64 5, .slice Ao75 y196.length co75, .slice Ao33 y188.length co33, .bool false] 31 (0, 0)) (by (with_reducible repeat (first | refine blk_drewN ?_ _ | refine blk_drew ?_ | refine blk_alloc ?_ _)); refine blk_put (cs := #[.string (⟨#[110]⟩ : ByteArray), .int .i64 5, .int .i64 5, .slice Ao34 y185.length co34, .slice Ao33 y188.length co33, .bool false]) ?_ 3 _ rfl; (with_reducible repeat (first | refine blk_drewN ?_ _ | refine blk_drew ?_ | refine blk_alloc ?_ _)); exact BK194.out) hb); have n11_ := Aside0.mk (blk_below (g := gb195) (o := .cells #[.string (⟨#[110]⟩ : ByteArray), .int .i64 5, .int .i64 5, .slice Ao34 y185.length co34, .slice Ao33 y188.length co33, .bool false] 31 (0, 0)) (by (with_reducible repeat (first | refine blk_drewN ?_ _ | refine blk_drew ?_ | refine blk_alloc ?_ _)); refine blk_far ?_ NB195_194.out _; (with_reducible repeat (first | refine blk_drewN ?_ _ | refine blk_drew ?_ | refine blk_alloc ?_ _)); exact BK195.out) hb); have n12_ := Aside0.mk (below_step (by repeat (first | (with_reducible first | exact HB.out | apply below_alloc | apply pw_below_drewN | apply below_drew1 | refine below_set ?_ GE184.out | refine below_set ?_ GE191.out | refine below_set ?_ GE192.out | refine below_set ?_ GE193.out | refine below_set ?_ GE194.out | refine below_set ?_ GE195.out) | exact HB.out)) hb); clear HO180; clear HO183; clear HO187; clear HO190; clear HO198; clear BK184; clear BK191; clear BK192; clear BK193; clear BK194; clear BK195; clear HB; have HO180 := n0_; have HO183 := n1_; have HO187 := n2_; have HO190 := n3_; have HO198 := n4_; have HO201 := n5_; have BK184 := n6_; have BK191 := n7_; have BK192 := n8_; have BK193 := n9_; have BK194 := n10_; have BK195 := n11_; have HB := n12_; clear n0_ n1_ n2_ n3_ n4_ n5_ n6_ n7_ n8_ n9_ n10_ n11_ n12_; clear hb ho82; obtain ⟨Ao83, co83, eo83⟩ := Kd.R_slice HO201.out; subst eo83; have hnb84 := NB195_184.out; have hnc84 := NB184_195.out; have hnb85 := NB195_191.out; have hnc85 := NB191_195.out; have hnb86 := NB195_192.out; have hnc86 := NB192_195.out; have hcz87_0 : w81.cell? ⟨gb195, 0, none⟩ = some (.string (⟨#[110]⟩ : ByteArray)) := (blk_cell BK195.out 0).trans rfl; have hcz87_1 : w81.cell? ⟨gb195, 1, none⟩ = some (.int .i64 5) := (blk_cell BK195.out 1).trans rfl; have hcz87_2 : w81.cell? ⟨gb195, 2, none⟩ = some (.int .i64 5) := (blk_cell BK195.out 2).trans rfl; have hcz87_3 : w81.cell? ⟨gb195, 3, none⟩ = some (.slice Ao34 y185.length co34) := (blk_cell BK195.out 3).trans rfl; have hcz87_4 : w81.cell? ⟨gb195, 4, none⟩ = some (.slice Ao33 y188.length co33) := (blk_cell BK195.out 4).trans rfl; have hcz87_5 : w81.cell? ⟨gb195, 5, none⟩ = some (.bool false) := (blk_cell BK195.out 5).trans rfl; have hfz87_0 := blk_frozen BK195.out 0; have hfz87_1 := blk_frozen BK195.out 1; have hfz87_2 := blk_frozen BK195.out 2; have hfz87_3 := blk_frozen BK195.out 3; have hfz87_4 := blk_frozen BK195.out 4; have hfz87_5 := blk_frozen BK195.out 5) | ((with_reducible refine gate_dst (N := 36) rfl ?_); refine Kd.R_lit k41 _ 41 ?hg (N := 36) ?hd (xs := ([(⟨(⟨#[113]⟩ : ByteArray), (⟨#[110]⟩ : ByteArray), (⟨0, 0⟩ : S25), false⟩ : S41)] : List (S41))) (inner := [.string (⟨#[113]⟩ : ByteArray), .string (⟨#[110]⟩ : ByteArray), .int .i64 0, .int .i64 0, .bool false]) (ok := fun _ => True) (okp := fun _ => True) ?hr ?hp (fun _ hk => hk) trivial (Below.refl _ _) (Nat.le_refl _) (by simp) ?_; (case hd => rfl); (case hg => rfl); (case hr => first | (go_simp; done) | (go_simp; rfl)); (case hp => exact (Reps.c5 (show Kd.M k41 _ _ _ (⟨(⟨#[113]⟩ : ByteArray), (⟨#[110]⟩ : ByteArray), (⟨0, 0⟩ : S25), false⟩ : S41) [.string (⟨#[113]⟩ : ByteArray), .string (⟨#[110]⟩ : ByteArray), .int .i64 0, .int .i64 0, .bool false] from (k41_mkM _ _ _ (⟨(⟨#[113]⟩ : ByteArray), (⟨#[110]⟩ : ByteArray), (⟨0, 0⟩ : S25), false⟩ : S41) )) (Reps.none _ _))); intro v203 w88 ho89 hb hg_ hnew_; clear hg_ hnew_; (first | rw [← Ny202.out] at ho89 | (simp only [Int.reduceToNat] at ho89; rw [← Ny202.out] at ho89)); have n0_ := Aside0.mk (Kd.R_below (by (with_reducible repeat (first | apply Kd.R_alloc | apply Kd.R_drewN | apply Kd.R_drew)); exact (Kd.R_mono (Kd.R_far (p := ⟨gb195, 4, none⟩) (Kd.R_types HO180.out BK195.out (by decide)) (fun _ hk => hk.2) (.slice Ao83 y199.length co83)) (fun _ h_ => h_.1))) hb); have n1_ := Aside0.mk (Kd.R_below (by (with_reducible repeat (first | apply Kd.R_alloc | apply Kd.R_drewN | apply Kd.R_drew)); exact (Kd.R_mono (Kd.R_far (p := ⟨gb195, 4, none⟩) (Kd.R_types HO183.out BK195.out (by decide)) (fun _ hk => hk.2) (.slice Ao83 y199.length co83)) (fun _ h_ => h_.1))) hb); have n2_ := Aside0.mk (Kd.R_below (by (with_reducible repeat (first | apply Kd.R_alloc | apply Kd.R_drewN | apply Kd.R_drew)); exact (Kd.R_mono (Kd.R_far (p := ⟨gb195, 4, none⟩) (Kd.R_types HO187.out BK195.out (by decide)) (fun _ hk => hk.2) (.slice Ao83 y199.length co83)) (fun _ h_ => h_.1))) hb); have n3_ := Aside0.mk (Kd.R_below (by (with_reducible repeat (first | apply Kd.R_alloc | apply Kd.R_drewN | apply Kd.R_drew)); exact (Kd.R_mono (Kd.R_far (p := ⟨gb195, 4, none⟩) (Kd.R_types HO190.out BK195.out (by decide)) (fun _ hk => hk.2) (.slice Ao83 y199.length co83)) (fun _ h_ => h_.1))) hb); have n4_ := Aside0.mk (Kd.R_below (by (with_reducible repeat (first | apply Kd.R_alloc | apply Kd.R_drewN | apply Kd.R_drew)); exact (Kd.R_mono (Kd.R_far (p := ⟨gb195, 4, none⟩) (Kd.R_types HO198.out BK195.out (by decide)) (fun _ hk => hk.2) (.slice Ao83 y199.length co83)) (fun _ h_ => h_.1))) hb); have n5_ := Aside0.mk (Kd.R_below (by (with_reducible repeat (first | apply Kd.R_alloc | apply Kd.R_drewN | apply Kd.R_drew)); exact (Kd.R_mono (Kd.R_far (p := ⟨gb195, 4, none⟩) (Kd.R_types HO201.out BK195.out (by decide)) (fun _ hk => hk.2) (.slice Ao83 y199.length co83)) (fun _ h_ => h_.1))) hb); have n6_ := Aside0.mk (Kd.R_lower ho89 (below_size (by repeat (first | (with_reducible first | exact HB.out | apply below_alloc | apply pw_below_drewN | apply below_drew1 | refine below_set ?_ GE184.out | refine below_set ?_ GE191.out | refine below_set ?_ GE192.out | refine below_set ?_ GE193.out | refine below_set ?_ GE194.out | refine below_set ?_ GE195.out) | exact HB.out)))); have n7_ := Aside0.mk (blk_below (g := gb184) (o := .cells #[.string (⟨#[112]⟩ : ByteArray), .int .i64 0, .int .i64 2, .int .i64 3, .slice Ao26 y178.length co26, .slice Ao25 y181.length co25, .bool false] 28 (0, 0)) (by (with_reducible repeat (first | refine blk_drewN ?_ _ | refine blk_drew ?_ | refine blk_alloc ?_ _)); refine blk_far ?_ NB184_195.out _; (with_reducible repeat (first | refine blk_drewN ?_ _ | refine blk_drew ?_ | refine blk_alloc ?_ _)); exact BK184.out) hb); have n8_ := Aside0.mk (blk_below (g := gb191) (o := .cells #[.string (⟨#[110]⟩ : ByteArray), .int .i64 5, .int .i64 5, .slice Ao34 y185.length co34, .slice Ao33 y188.length co33, .bool false] 31 (0, 0)) (by (with_reducible repeat (first | refine blk_drewN ?_ _ | refine blk_drew ?_ | refine blk_alloc ?_ _)); refine blk_far ?_ NB191_195.out _; (with_reducible repeat (first | refine blk_drewN ?_ _ | refine blk_drew ?_ | refine blk_alloc ?_ _)); exact BK191.out) hb); have n9_ := Aside0.mk (blk_below (g := gb192) (o := .cells #[.string (⟨#[112]⟩ : ByteArray), .int .i64 0, .int .i64 2, .int .i64 3, .slice Ao26 y178.length co26, .slice Ao25 y181.length co25, .bool true] 28 (0, 0)) (by (with_reducible repeat (first | refine blk_drewN ?_ _ | refine blk_drew ?_ | refine blk_alloc ?_ _)); refine blk_far ?_ NB192_195.out _; (with_reducible repeat (first | refine blk_drewN ?_ _ | refine blk_drew ?_ | refine blk_alloc ?_ _)); exact BK192.out) hb); have n10_ := Aside0.mk (blk_below (g := gb193) (o := .cells #[.string (⟨#[110]⟩ : ByteArray), .int .i64 5, .int .i64 5, .slice none 0 0, .slice Ao33 y188.length co33, .bool true] 31 (0, 0)) (by (with_reducible repeat (first | refine blk_drewN ?_ _ | refine blk_drew ?_ | refine blk_alloc ?_ _)); refine blk_far ?_ NB193_195.out _; (with_reducible repeat (first | refine blk_drewN ?_ _ | refine blk_drew ?_ | refine blk_alloc ?_ _)); exact BK193.out) hb); have n11_ := Aside0.mk (blk_below (g := gb194) (o := .cells #[.string (⟨#[110]⟩ : ByteArray), .int .i64 5, .int .i64 5, .slice Ao75 y196.length co75, .slice Ao33 y188.length co33, .bool false] 31 (0, 0)) (by (with_reducible repeat (first | refine blk_drewN ?_ _ | refine blk_drew ?_ | refine blk_alloc ?_ _)); refine blk_far ?_ NB194_195.out _; (with_reducible repeat (first | refine blk_drewN ?_ _ | refine blk_drew ?_ | refine blk_alloc ?_ _)); exact BK194.out) hb); have n12_ := Aside0.mk (blk_below (g := gb195) (o := .cells #[.string (⟨#[110]⟩ : ByteArray), .int .i64 5, .int .i64 5, .slice Ao34 y185.length co34, .slice Ao83 y199.length co83, .bool false] 31 (0, 0)) (by (with_reducible repeat (first | refine blk_drewN ?_ _ | refine blk_drew ?_ | refine blk_alloc ?_ _)); refine blk_put (cs := #[.string (⟨#[110]⟩ : ByteArray), .int .i64 5, .int .i64 5, .slice Ao34 y185.length co34, .slice Ao33 y188.length co33, .bool false]) ?_ 4 _ rfl; (with_reducible repeat (first | refine blk_drewN ?_ _ | refine blk_drew ?_ | refine blk_alloc ?_ _)); exact BK195.out) hb); have n13_ := Aside0.mk (below_step (by repeat (first | (with_reducible first | exact HB.out | apply below_alloc | apply pw_below_drewN | apply below_drew1 | refine below_set ?_ GE184.out | refine below_set ?_ GE191.out | refine below_set ?_ GE192.out | refine below_set ?_ GE193.out | refine below_set ?_ GE194.out | refine below_set ?_ GE195.out) | exact HB.out)) hb); clear HO180; clear HO183; clear HO187; clear HO190; clear HO198; clear HO201; clear BK184; clear BK191; clear BK192; clear BK193; clear BK194; clear BK195; clear HB; have HO180 := n0_; have HO183 := n1_; have HO187 := n2_; have HO190 := n3_; have HO198 := n4_; have HO201 := n5_; have HO204 := n6_; have BK184 := n7_; have BK191 := n8_; have BK192 := n9_; have BK193 := n10_; have BK194 := n11_; have BK195 := n12_; have HB := n13_; clear n0_ n1_ n2_ n3_ n4_ n5_ n6_ n7_ n8_ n9_ n10_ n11_ n12_ n13_; clear hb ho89) | ((with_reducible refine gate_dst (N := 39) rfl ?_); refine Kd.R_lit k41 _ 41 ?hg (N := 39) ?hd (xs := ([(⟨(⟨#[113]⟩ : ByteArray), (⟨#[110]⟩ : ByteArray), (⟨0, 0⟩ : S25), false⟩ : S41), (⟨(⟨#[114]⟩ : ByteArray), (⟨#[110]⟩ : ByteArray), (⟨0, 0⟩ : S25), true⟩ : S41)] : List (S41))) (inner := [.string (⟨#[113]⟩ : ByteArray), .string (⟨#[110]⟩ : ByteArray), .int .i64 0, .int .i64 0, .bool false, .string (⟨#[114]⟩ : ByteArray), .string (⟨#[110]⟩ : ByteArray), .int .i64 0, .int .i64 0, .bool true]) (ok := fun _ => True) (okp := fun _ => True) ?hr ?hp (fun _ hk => hk) trivial (Below.refl _ _) (Nat.le_refl _) (by simp) ?_; (case hd => rfl); (case hg => rfl); (case hr => first | (go_simp; done) | (go_simp; rfl)); (case hp => exact (Reps.c5 (show Kd.M k41 _ _ _ (⟨(⟨#[113]⟩ : ByteArray), (⟨#[110]⟩ : ByteArray), (⟨0, 0⟩ : S25), false⟩ : S41) [.string (⟨#[113]⟩ : ByteArray), .string (⟨#[110]⟩ : ByteArray), .int .i64 0, .int .i64 0, .bool false] from (k41_mkM _ _ _ (⟨(⟨#[113]⟩ : ByteArray), (⟨#[110]⟩ : ByteArray), (⟨0, 0⟩ : S25), false⟩ : S41) )) (Reps.c5 (show Kd.M k41 _ _ _ (⟨(⟨#[114]⟩ : ByteArray), (⟨#[110]⟩ : ByteArray), (⟨0, 0⟩ : S25), true⟩ : S41) [.string (⟨#[114]⟩ : ByteArray), .string (⟨#[110]⟩ : ByteArray), .int .i64 0, .int .i64 0, .bool true] from (k41_mkM _ _ _ (⟨(⟨#[114]⟩ : ByteArray), (⟨#[110]⟩ : ByteArray), (⟨0, 0⟩ : S25), true⟩ : S41) )) (Reps.none _ _)))); intro v206 w90 ho91 hb hg_ hnew_; clear hg_ hnew_; (first | rw [← Ny205.out] at ho91 | (simp only [Int.reduceToNat] at ho91; rw [← Ny205.out] at ho91)); have n0_ := Aside0.mk (Kd.R_below (by (with_reducible repeat (first | apply Kd.R_alloc | apply Kd.R_drewN | apply Kd.R_drew)); exact HO180.out) hb); have n1_ := Aside0.mk (Kd.R_below (by (with_reducible repeat (first | apply Kd.R_alloc | apply Kd.R_drewN | apply Kd.R_drew)); exact HO183.out) hb); have n2_ := Aside0.mk (Kd.R_below (by (with_reducible repeat (first | apply Kd.R_alloc | apply Kd.R_drewN | apply Kd.R_drew)); exact HO187.out) hb); have n3_ := Aside0.mk (Kd.R_below (by (with_reducible repeat (first | apply Kd.R_alloc | apply Kd.R_drewN | apply Kd.R_drew)); exact HO190.out) hb); have n4_ := Aside0.mk (Kd.R_below (by (with_reducible repeat (first | apply Kd.R_alloc | apply Kd.R_drewN | apply Kd.R_drew)); exact HO198.out) hb); have n5_ := Aside0.mk (Kd.R_below (by (with_reducible repeat (first | apply Kd.R_alloc | apply Kd.R_drewN | apply Kd.R_drew)); exact HO201.out) hb); have n6_ := Aside0.mk (Kd.R_elder' (by (with_reducible repeat (first | apply Kd.R_alloc | apply Kd.R_drewN | apply Kd.R_drew)); exact HO204.out) (Kd.R_base ho91) hb); have n7_ := Aside0.mk (Kd.R_lower (Kd.R_new' ho91 (Kd.R_lt (by (with_reducible repeat (first | apply Kd.R_alloc | apply Kd.R_drewN | apply Kd.R_drew)); exact HO204.out))) (below_size (by repeat (first | (with_reducible first | exact HB.out | apply below_alloc | apply pw_below_drewN | apply below_drew1 | refine below_set ?_ GE184.out | refine below_set ?_ GE191.out | refine below_set ?_ GE192.out | refine below_set ?_ GE193.out | refine below_set ?_ GE194.out | refine below_set ?_ GE195.out) | exact HB.out)))); have n8_ := Aside0.mk (blk_below (g := gb184) (o := .cells #[.string (⟨#[112]⟩ : ByteArray), .int .i64 0, .int .i64 2, .int .i64 3, .slice Ao26 y178.length co26, .slice Ao25 y181.length co25, .bool false] 28 (0, 0)) (by (with_reducible repeat (first | refine blk_drewN ?_ _ | refine blk_drew ?_ | refine blk_alloc ?_ _)); exact BK184.out) hb); have n9_ := Aside0.mk (blk_below (g := gb191) (o := .cells #[.string (⟨#[110]⟩ : ByteArray), .int .i64 5, .int .i64 5, .slice Ao34 y185.length co34, .slice Ao33 y188.length co33, .bool false] 31 (0, 0)) (by (with_reducible repeat (first | refine blk_drewN ?_ _ | refine blk_drew ?_ | refine blk_alloc ?_ _)); exact BK191.out) hb); have n10_ := Aside0.mk (blk_below (g := gb192) (o := .cells #[.string (⟨#[112]⟩ : ByteArray), .int .i64 0, .int .i64 2, .int .i64 3, .slice Ao26 y178.length co26, .slice Ao25 y181.length co25, .bool true] 28 (0, 0)) (by (with_reducible repeat (first | refine blk_drewN ?_ _ | refine blk_drew ?_ | refine blk_alloc ?_ _)); exact BK192.out) hb); have n11_ := Aside0.mk (blk_below (g := gb193) (o := .cells #[.string (⟨#[110]⟩ : ByteArray), .int .i64 5, .int .i64 5, .slice none 0 0, .slice Ao33 y188.length co33, .bool true] 31 (0, 0)) (by (with_reducible repeat (first | refine blk_drewN ?_ _ | refine blk_drew ?_ | refine blk_alloc ?_ _)); exact BK193.out) hb); have n12_ := Aside0.mk (blk_below (g := gb194) (o := .cells #[.string (⟨#[110]⟩ : ByteArray), .int .i64 5, .int .i64 5, .slice Ao75 y196.length co75, .slice Ao33 y188.length co33, .bool false] 31 (0, 0)) (by (with_reducible repeat (first | refine blk_drewN ?_ _ | refine blk_drew ?_ | refine blk_alloc ?_ _)); exact BK194.out) hb); have n13_ := Aside0.mk (blk_below (g := gb195) (o := .cells #[.string (⟨#[110]⟩ : ByteArray), .int .i64 5, .int .i64 5, .slice Ao34 y185.length co34, .slice Ao83 y199.length co83, .bool false] 31 (0, 0)) (by (with_reducible repeat (first | refine blk_drewN ?_ _ | refine blk_drew ?_ | refine blk_alloc ?_ _)); exact BK195.out) hb); have n14_ := Aside0.mk (below_step (by repeat (first | (with_reducible first | exact HB.out | apply below_alloc | apply pw_below_drewN | apply below_drew1 | refine below_set ?_ GE184.out | refine below_set ?_ GE191.out | refine below_set ?_ GE192.out | refine below_set ?_ GE193.out | refine below_set ?_ GE194.out | refine below_set ?_ GE195.out) | exact HB.out)) hb); clear HO180; clear HO183; clear HO187; clear HO190; clear HO198; clear HO201; clear HO204; clear BK184; clear BK191; clear BK192; clear BK193; clear BK194; clear BK195; clear HB; have HO180 := n0_; have HO183 := n1_; have HO187 := n2_; have HO190 := n3_; have HO198 := n4_; have HO201 := n5_; have HO204 := n6_; have HO207 := n7_; have BK184 := n8_; have BK191 := n9_; have BK192 := n10_; have BK193 := n11_; have BK194 := n12_; have BK195 := n13_; have HB := n14_; clear n0_ n1_ n2_ n3_ n4_ n5_ n6_ n7_ n8_ n9_ n10_ n11_ n12_ n13_ n14_; clear hb ho91))
  have n0_ := Aside0.mk (Kd.R_drew HO180.out)
  have n1_ := Aside0.mk (Kd.R_drew HO183.out)
  have n2_ := Aside0.mk (Kd.R_drew HO187.out)
  have n3_ := Aside0.mk (Kd.R_drew HO190.out)
  have n4_ := Aside0.mk (Kd.R_drew HO198.out)
  have n5_ := Aside0.mk (Kd.R_drew HO201.out)
  have n6_ := Aside0.mk (Kd.R_drew HO204.out)
  have n7_ := Aside0.mk (Kd.R_drew HO207.out)
  have n8_ := Aside0.mk (blk_drew BK184.out)
  have n9_ := Aside0.mk (blk_drew BK191.out)
  have n10_ := Aside0.mk (blk_drew BK192.out)
  have n11_ := Aside0.mk (blk_drew BK193.out)
  have n12_ := Aside0.mk (blk_drew BK194.out)
  have n13_ := Aside0.mk (blk_drew BK195.out)
  have n14_ := Aside0.mk (below_drew1 HB.out)
  clear HO180
  clear HO183
  clear HO187
  clear HO190
  clear HO198
  clear HO201
  clear HO204
  clear HO207
  clear BK184
  clear BK191
  clear BK192
  clear BK193
  clear BK194
  clear BK195
  clear HB
  have HO180 := n0_
  have HO183 := n1_
  have HO187 := n2_
  have HO190 := n3_
  have HO198 := n4_
  have HO201 := n5_
  have HO204 := n6_
  have HO207 := n7_
  have BK184 := n8_
  have BK191 := n9_
  have BK192 := n10_
  have BK193 := n11_
  have BK194 := n12_
  have BK195 := n13_
  have HB := n14_
  clear n0_ n1_ n2_ n3_ n4_ n5_ n6_ n7_ n8_ n9_ n10_ n11_ n12_ n13_ n14_
  exact joinerylaw5_FitKnown.part2 k a0 w A2 y178 Ny178 y181 Ny181 y185 Ny185 y188 Ny188 y196 Ny196 y199 Ny199 y202 Ny202 y205 Ny205 t208 A4 t209 A5 t210 A6 t211 A7 t212 A8 t213 A9 t214 A10 t215 A11 t216 A12 t217 A13 t218 A14 t219 A15 y220 Ny220 y223 Ny223 t226 A16 c17b0 c18b0 c19b0 hT_ Ao25 co25 Ao26 co26 gb184 GE184 Ao33 co33 Ao34 co34 gb191 GE191 gb192 GE192 gb193 gb194 gb195 GE193 GE194 GE195 Ao75 co75 Ao83 co83 v203 v206 w90 HO180 HO183 HO187 HO190 HO198 HO201 HO204 HO207 BK184 BK191 BK192 BK193 BK194 BK195 HB _ (by assumption)

end Go.Proofs.Ytciedbaeenhgkaa.M
