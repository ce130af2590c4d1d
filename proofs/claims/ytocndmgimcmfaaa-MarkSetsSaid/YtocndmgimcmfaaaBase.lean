/- What the machine's calls of mark.letter, mark.digit, mark.Runes, mark.Name and of the document's Runes and Name come to, at any string shorter than 2^62 bytes. -/
import Derived.Test.YtocndmgimcmfaaaProg
import Derived.Test.YtocndmgimcmfaaaPlain
import Derived.WalkKit
import Derived.KernelRfl
import Derived.RowKit3
import Derived.Deep.LoopGhost
import Derived.Deep.QuietTactic
import Derived.BigQuiet
set_option linter.unusedVariables false
set_option linter.unusedSimpArgs false
namespace Go.Proofs.Ytocndmgimcmfaaa.Base
open Go.RowKit Go.Proofs.Ytocndmgimcmfaaa.Plain

/-- A fact that the walk's simp does not look into. -/
structure Fact (p : Prop) : Prop where mk :: (out : p)

def B62 : Nat := 4611686018427387904

def mark_Runes.f (a0 : ByteArray) : Option Int := if a0.size ≤ B62 then some ((runes a0).length : Int) else none
def mark_Name.f (a0 : ByteArray) : Option Bool := if a0.size ≤ B62 then some (nameB a0) else none
def joineryref2_Runes.f (a0 : ByteArray) : Option Int := mark_Runes.f a0
def joineryref2_Name.f (a0 : ByteArray) : Option Bool := mark_Name.f a0

set_option maxHeartbeats 400000 in
theorem letter_any (c : Int) (w : World) : Calls Try.prog 26 #[.int .i32 c] w fun e w' => e = .returned (.bool (letterB c)) ∧ w' = w := by
  by_cases h1 : 97 ≤ c <;> by_cases h2 : c ≤ 122 <;> by_cases h3 : 945 ≤ c <;> by_cases h4 : c ≤ 969
  all_goals first
    | (exfalso; omega)
    | (have hl : ∃ b, Fact (letterB c = b) ∧ Fact (b = ((decide (97 ≤ c) && decide (c ≤ 122)) || (decide (945 ≤ c) && decide (c ≤ 969)))) := ⟨_, ⟨rfl⟩, ⟨rfl⟩⟩
       obtain ⟨b, hb, hb'⟩ := hl
       go_enter Try.func26, Try.ntmps26
       go_wp2
       go_ret
       exact ⟨by rw [hb.out, hb'.out]; simp [h1, h2, h3, h4], rfl⟩)
set_option maxHeartbeats 400000 in
theorem digit_any (c : Int) (w : World) : Calls Try.prog 27 #[.int .i32 c] w fun e w' => e = .returned (.bool (digitB c)) ∧ w' = w := by
  by_cases h1 : 48 ≤ c <;> by_cases h2 : c ≤ 57
  all_goals
    (have hl : ∃ b, Fact (digitB c = b) ∧ Fact (b = (decide (48 ≤ c) && decide (c ≤ 57))) := ⟨_, ⟨rfl⟩, ⟨rfl⟩⟩
     obtain ⟨b, hb, hb'⟩ := hl
     go_enter Try.func27, Try.ntmps27
     go_wp2
     go_ret
     exact ⟨by rw [hb.out, hb'.out]; simp [h1, h2], rfl⟩)

set_option maxHeartbeats 1000000 in
set_option maxRecDepth 100000 in
theorem mark_Runes.calls (a0 : ByteArray) (r : Int) (w : World) (h : mark_Runes.f a0 = some r) :
    Calls Try.prog 18 #[.string a0] w fun e w' => e = .returned (.int .i64 r) ∧ Below w.heap.size w w' := by
  unfold mark_Runes.f at h
  by_cases hs : a0.size ≤ B62
  case neg => rw [if_neg hs] at h; cases h
  rw [if_pos hs] at h
  have hs' : a0.size ≤ 4611686018427387904 := hs
  clear hs
  have hr := Fact.mk (Option.some.inj h)
  clear h
  go_enter Try.func18, Try.ntmps18
  go_wp2
  go_loopw [3] (fun n w' => ∃ (pos b acc : Nat), w' = w.iter a0 pos ∧ n = .int .i64 acc ∧ Fact (acc + (runesFrom a0 b pos).length = (runes a0).length) ∧ Fact (a0.size ≤ pos + b) ∧ acc ≤ pos) (fun _ w' => a0.size - w'.iterPos w.heap.size)
  case atStart => exact ⟨0, a0.size, 0, rfl, rfl, ⟨by simp [runes]⟩, ⟨by omega⟩, Nat.le_refl _⟩
  case round =>
    obtain ⟨pos, b, acc, rfl, rfl, hc, hb, ha⟩ := hrel
    by_cases hp : pos < a0.size
    · have hnx : ∀ ty, (Instr.next (.pointer (some ⟨w.heap.size, 0, none⟩)) true ty).run Try.prog (w.iter a0 pos) = _ := fun ty => run_next_any w a0 pos ty hp
      have hwd := width_pos a0 pos hp
      go_wp2
      go_roundw
      case rel =>
        have hb' := hb.out
        cases b with
        | zero => omega
        | succ b =>
          refine ⟨pos + (Utf8.decode a0 pos).2, b, acc + 1, rfl, by go_num, ⟨?_⟩, ⟨by omega⟩, by omega⟩
          rw [← hc.out, runesFrom_go a0 b pos hp, List.length_cons]
          omega
      case measure =>
        simp
        omega
    · have hnx : ∀ ty, (Instr.next (.pointer (some ⟨w.heap.size, 0, none⟩)) true ty).run Try.prog (w.iter a0 pos) = _ := fun ty => run_next_end w a0 pos ty hp
      go_wp2
      go_ret
      have hc' := hc.out
      rw [runesFrom_end a0 b pos hp, List.length_nil, Nat.add_zero] at hc'
      exact ⟨by rw [← hr.out, ← hc']; rfl, (Below.refl _ w).alloc (Nat.le_refl _) _⟩

theorem letter_yes (c : Int) (w : World) (h : letterB c = true) : Calls Try.prog 26 #[.int .i32 c] w fun e w' => e = .returned (.bool true) ∧ w' = w := by
  have := letter_any c w; rwa [h] at this
theorem letter_no (c : Int) (w : World) (h : letterB c = false) : Calls Try.prog 26 #[.int .i32 c] w fun e w' => e = .returned (.bool false) ∧ w' = w := by
  have := letter_any c w; rwa [h] at this
theorem digit_yes (c : Int) (w : World) (h : digitB c = true) : Calls Try.prog 27 #[.int .i32 c] w fun e w' => e = .returned (.bool true) ∧ w' = w := by
  have := digit_any c w; rwa [h] at this
theorem digit_no (c : Int) (w : World) (h : digitB c = false) : Calls Try.prog 27 #[.int .i32 c] w fun e w' => e = .returned (.bool false) ∧ w' = w := by
  have := digit_any c w; rwa [h] at this

theorem below_iter (w : World) (s : ByteArray) (pos : Nat) : Below w.heap.size w (w.iter s pos) := (Below.refl _ w).alloc (Nat.le_refl _) _

set_option maxHeartbeats 1000000 in
set_option maxRecDepth 100000 in
theorem mark_Name.calls (a0 : ByteArray) (r : Bool) (w : World) (h : mark_Name.f a0 = some r) :
    Calls Try.prog 16 #[.string a0] w fun e w' => e = .returned (.bool r) ∧ Below w.heap.size w w' := by
  unfold mark_Name.f at h
  by_cases hs : a0.size ≤ B62
  case neg => rw [if_neg hs] at h; cases h
  rw [if_pos hs] at h
  have hR : mark_Runes.f a0 = some ((runes a0).length : Int) := by unfold mark_Runes.f; rw [if_pos hs]
  have HR := Fact.mk hR
  clear hR
  have hs' : a0.size ≤ 4611686018427387904 := hs
  clear hs
  have hr := Fact.mk (Option.some.inj h)
  clear h
  go_enter Try.func16, Try.ntmps16
  go_wp2
  go_loopw [] (fun w' => ∃ (pos b : Nat), w' = w.iter a0 pos ∧ Fact ((runesFrom a0 b pos).all okRune = (runes a0).all okRune) ∧ Fact (a0.size ≤ pos + b)) (fun w' => a0.size - w'.iterPos w.heap.size)
  case atStart => exact ⟨0, a0.size, rfl, ⟨by simp [runes]⟩, ⟨by omega⟩⟩
  case round =>
    obtain ⟨pos, b, rfl, hc, hb⟩ := hrel
    by_cases hp : pos < a0.size
    · have hwd := width_pos a0 pos hp
      obtain ⟨b, rfl⟩ : ∃ b', b = b' + 1 := ⟨b - 1, by have := hb.out; omega⟩
      rw [runesFrom_go a0 b pos hp, List.all_cons] at hc
      have hb1 : Fact (a0.size ≤ pos + (Utf8.decode a0 pos).2 + b) := ⟨by have := hb.out; omega⟩
      clear hb
      have hnx : ∀ ty, (Instr.next (.pointer (some ⟨w.heap.size, 0, none⟩)) true ty).run Try.prog (w.iter a0 pos) = _ := fun ty => run_next_any w a0 pos ty hp
      obtain ⟨R, hR⟩ : ∃ R, (Utf8.decode a0 pos).1 = R := ⟨_, rfl⟩
      obtain ⟨K, hK⟩ : ∃ K, (Utf8.decode a0 pos).2 = K := ⟨_, rfl⟩
      rw [hR] at hc hnx
      rw [hK] at hb1 hnx hwd hc
      clear hR hK
      cases hl : letterB R with
      | true =>
        have hl' := Fact.mk hl
        clear hl
        have hc2 : Fact ((runesFrom a0 b (pos + K)).all okRune = (runes a0).all okRune) := ⟨by rw [← hc.out]; simp [okRune, hl'.out]⟩
        clear hc
        go_wp2_with (go_at_call 26; refine (letter_yes _ _ hl'.out).mono ?_; rintro e w' ⟨rfl, rfl⟩)
        go_roundw
        case rel => exact ⟨pos + K, b, rfl, hc2, hb1⟩
        case measure => simp; omega
      | false =>
        have hl' := Fact.mk hl
        clear hl
        cases hd : digitB R with
        | true =>
          have hd' := Fact.mk hd
          clear hd
          by_cases h0 : pos = 0
          · subst h0
            have hc2 : Fact (false = (runes a0).all okRune) := ⟨by rw [← hc.out]; simp [okRune, hl'.out]⟩
            clear hc
            go_wp2_with (first | (go_at_call 26; refine (letter_no _ _ hl'.out).mono ?_; rintro e w' ⟨rfl, rfl⟩) | (go_at_call 27; refine (digit_yes _ _ hd'.out).mono ?_; rintro e w' ⟨rfl, rfl⟩))
            go_ret
            exact ⟨by rw [← hr.out, nameB, ← hc2.out]; rfl, below_iter _ _ _⟩
          · have h1 : ((pos : Int) == 0) = false := by simpa using h0
            have h0' := Fact.mk h0
            clear h0
            have hc2 : Fact ((runesFrom a0 b (pos + K)).all okRune = (runes a0).all okRune) := ⟨by rw [← hc.out]; simp [okRune, hl'.out, hd'.out, h0'.out]⟩
            clear hc
            go_wp2_with (first | (go_at_call 26; refine (letter_no _ _ hl'.out).mono ?_; rintro e w' ⟨rfl, rfl⟩) | (go_at_call 27; refine (digit_yes _ _ hd'.out).mono ?_; rintro e w' ⟨rfl, rfl⟩))
            go_roundw
            case rel => exact ⟨pos + K, b, rfl, hc2, hb1⟩
            case measure => simp; omega
        | false =>
          have hd' := Fact.mk hd
          clear hd
          have hc2 : Fact (false = (runes a0).all okRune) := ⟨by rw [← hc.out]; simp [okRune, hl'.out, hd'.out]⟩
          clear hc
          go_wp2_with (first | (go_at_call 26; refine (letter_no _ _ hl'.out).mono ?_; rintro e w' ⟨rfl, rfl⟩) | (go_at_call 27; refine (digit_no _ _ hd'.out).mono ?_; rintro e w' ⟨rfl, rfl⟩))
          go_ret
          exact ⟨by rw [← hr.out, nameB, ← hc2.out]; rfl, below_iter _ _ _⟩
    · have hnx : ∀ ty, (Instr.next (.pointer (some ⟨w.heap.size, 0, none⟩)) true ty).run Try.prog (w.iter a0 pos) = _ := fun ty => run_next_end w a0 pos ty hp
      have hc2 : Fact (true = (runes a0).all okRune) := ⟨by rw [← hc.out, runesFrom_end a0 b pos hp]; rfl⟩
      clear hc
      cases he : a0.toList.isEmpty with
      | true =>
        have he1 : a0.toList = [] := by simpa using he
        go_wp2
        go_ret
        exact ⟨by rw [← hr.out, nameB, ← hc2.out, he]; rfl, below_iter _ _ _⟩
      | false =>
        have he1 : ¬ a0.toList = [] := by simpa using he
        have he2 : (!a0.toList.isEmpty) = true := by simp [he]
        have hd8 : Fact (decide (((runes a0).length : Int) ≤ 8) = decide ((runes a0).length ≤ 8)) := ⟨by rw [Bool.eq_iff_iff]; simp; omega⟩
        go_wp2_with (go_at_call 18; refine (mark_Runes.calls _ _ _ HR.out).mono ?_; rintro e w' ⟨rfl, hb'⟩)
        go_ret
        exact ⟨by rw [← hr.out, nameB, ← hc2.out, he, ← hd8.out]; rfl, (below_iter _ _ _).trans (hb'.mono (by simp [World.iter]))⟩
set_option maxHeartbeats 1000000 in
set_option maxRecDepth 100000 in
theorem joineryref2_Runes.calls (a0 : ByteArray) (r : Int) (w : World) (h : joineryref2_Runes.f a0 = some r) :
    Calls Try.prog 19 #[.string a0] w fun e w' => e = .returned (.int .i64 r) ∧ Below w.heap.size w w' := by
  unfold joineryref2_Runes.f mark_Runes.f at h
  by_cases hs : a0.size ≤ B62
  case neg => rw [if_neg hs] at h; cases h
  rw [if_pos hs] at h
  have hs' : a0.size ≤ 4611686018427387904 := hs
  clear hs
  have hr := Fact.mk (Option.some.inj h)
  clear h
  go_enter Try.func19, Try.ntmps19
  go_wp2
  go_loopw [3] (fun n w' => ∃ (pos b acc : Nat), w' = w.iter a0 pos ∧ n = .int .i64 acc ∧ Fact (acc + (runesFrom a0 b pos).length = (runes a0).length) ∧ Fact (a0.size ≤ pos + b) ∧ acc ≤ pos) (fun _ w' => a0.size - w'.iterPos w.heap.size)
  case atStart => exact ⟨0, a0.size, 0, rfl, rfl, ⟨by simp [runes]⟩, ⟨by omega⟩, Nat.le_refl _⟩
  case round =>
    obtain ⟨pos, b, acc, rfl, rfl, hc, hb, ha⟩ := hrel
    by_cases hp : pos < a0.size
    · have hnx : ∀ ty, (Instr.next (.pointer (some ⟨w.heap.size, 0, none⟩)) true ty).run Try.prog (w.iter a0 pos) = _ := fun ty => run_next_any w a0 pos ty hp
      have hwd := width_pos a0 pos hp
      go_wp2
      go_roundw
      case rel =>
        have hb' := hb.out
        cases b with
        | zero => omega
        | succ b =>
          refine ⟨pos + (Utf8.decode a0 pos).2, b, acc + 1, rfl, by go_num, ⟨?_⟩, ⟨by omega⟩, by omega⟩
          rw [← hc.out, runesFrom_go a0 b pos hp, List.length_cons]
          omega
      case measure =>
        simp
        omega
    · have hnx : ∀ ty, (Instr.next (.pointer (some ⟨w.heap.size, 0, none⟩)) true ty).run Try.prog (w.iter a0 pos) = _ := fun ty => run_next_end w a0 pos ty hp
      go_wp2
      go_ret
      have hc' := hc.out
      rw [runesFrom_end a0 b pos hp, List.length_nil, Nat.add_zero] at hc'
      exact ⟨by rw [← hr.out, ← hc']; rfl, (Below.refl _ w).alloc (Nat.le_refl _) _⟩


theorem classes (R : Nat) : (R < 48 ∨ (57 < R ∧ R < 97) ∨ (122 < R ∧ R < 945) ∨ (969 < R ∧ R < 65533) ∨ 65533 < R) ∨ R = 65533 ∨ (48 ≤ R ∧ R ≤ 57) ∨ (97 ≤ R ∧ R ≤ 122) ∨ (945 ≤ R ∧ R ≤ 969) := by omega
theorem not_ok (R pos : Nat) (h1 : R < 48 ∨ 57 < R) (h2 : R < 97 ∨ 122 < R) (h3 : R < 945 ∨ 969 < R) : okRune (pos, R) = false := by
  have a : letterB R = false := by
    unfold letterB
    rcases h2 with h | h <;> rcases h3 with h' | h' <;> simp <;> omega
  have b : digitB R = false := by
    unfold digitB
    rcases h1 with h | h <;> simp <;> omega
  simp [okRune, a, b]
theorem ok_letter (R pos : Nat) (h : (97 ≤ R ∧ R ≤ 122) ∨ (945 ≤ R ∧ R ≤ 969)) : okRune (pos, R) = true := by
  have a : letterB R = true := by
    unfold letterB
    rcases h with h | h <;> simp <;> omega
  simp [okRune, a]
theorem ok_digit (R pos : Nat) (h : 48 ≤ R ∧ R ≤ 57) : okRune (pos, R) = (pos != 0) := by
  have a : letterB R = false := by
    unfold letterB
    simp; omega
  have b : digitB R = true := by
    unfold digitB
    simp; omega
  simp [okRune, a, b]

theorem nameB_len (s : ByteArray) : nameB s = ((runes s).all okRune && (decide (1 ≤ ((runes s).length : Int)) && decide (((runes s).length : Int) ≤ 8))) := by
  unfold nameB
  have hd8 : decide (((runes s).length : Int) ≤ 8) = decide ((runes s).length ≤ 8) := by rw [Bool.eq_iff_iff]; simp; omega
  have he : (!s.toList.isEmpty) = decide (1 ≤ ((runes s).length : Int)) := by
    by_cases h : 0 < s.size
    · have h1 : s.toList ≠ [] := fun e => by
        have h2 : s.toList.length = s.size := by rw [ByteArray.toList_eq, Array.length_toList]; rfl
        rw [e, List.length_nil] at h2
        omega
      have h2 := runesFrom_none s s.size 0 (by omega) h
      have h3 : 0 < (runes s).length := List.length_pos_iff.2 h2
      rw [Bool.eq_iff_iff]; simp [h1]; omega
    · have h1 : s.toList = [] := by
        have h2 : s.toList.length = s.size := by rw [ByteArray.toList_eq, Array.length_toList]; rfl
        exact List.eq_nil_of_length_eq_zero (by omega)
      have h2 := runes_le s
      rw [Bool.eq_iff_iff]; simp [h1]; omega
  rw [hd8, he]

set_option maxHeartbeats 2000000 in
set_option maxRecDepth 100000 in
theorem joineryref2_Name.calls (a0 : ByteArray) (r : Bool) (w : World) (h : joineryref2_Name.f a0 = some r) :
    Calls Try.prog 17 #[.string a0] w fun e w' => e = .returned (.bool r) ∧ Below w.heap.size w w' := by
  unfold joineryref2_Name.f mark_Name.f at h
  by_cases hs : a0.size ≤ B62
  case neg => rw [if_neg hs] at h; cases h
  rw [if_pos hs] at h
  have hs' : a0.size ≤ 4611686018427387904 := hs
  clear hs
  have hr := Fact.mk (Option.some.inj h)
  clear h
  go_enter Try.func17, Try.ntmps17
  go_wp2
  go_loopg [3] a0.size (fun b n w' => ∃ (pos acc : Nat), w' = w.iter a0 pos ∧ n = .int .i64 acc ∧ Fact ((runesFrom a0 b pos).all okRune = (runes a0).all okRune) ∧ Fact (acc + (runesFrom a0 b pos).length = (runes a0).length) ∧ Fact (a0.size ≤ pos + b) ∧ acc ≤ pos)
  case atStart => exact ⟨0, 0, rfl, rfl, ⟨by simp [runes]⟩, ⟨by simp [runes]⟩, ⟨by omega⟩, Nat.le_refl _⟩
  case round =>
    obtain ⟨pos, acc, rfl, rfl, hc, hl, hb, ha⟩ := hrel
    by_cases hp : pos < a0.size
    · have hwd := width_pos a0 pos hp
      obtain ⟨b, rfl⟩ : ∃ b', gk = b' + 1 := ⟨gk - 1, by have := hb.out; omega⟩
      rw [runesFrom_go a0 b pos hp, List.all_cons] at hc
      rw [runesFrom_go a0 b pos hp, List.length_cons] at hl
      have hb1 : Fact (a0.size ≤ pos + (Utf8.decode a0 pos).2 + b) := ⟨by have := hb.out; omega⟩
      clear hb
      have hnx : ∀ ty, (Instr.next (.pointer (some ⟨w.heap.size, 0, none⟩)) true ty).run Try.prog (w.iter a0 pos) = _ := fun ty => run_next_any w a0 pos ty hp
      obtain ⟨R, hR⟩ : ∃ R, (Utf8.decode a0 pos).1 = R := ⟨_, rfl⟩
      obtain ⟨K, hK⟩ : ∃ K, (Utf8.decode a0 pos).2 = K := ⟨_, rfl⟩
      rw [hR] at hc hnx
      rw [hK] at hb1 hnx hwd hc hl
      clear hR hK
      have hl1 : Fact (acc + 1 + (runesFrom a0 b (pos + K)).length = (runes a0).length) := ⟨by have := hl.out; omega⟩
      clear hl
      rcases classes R with hbad | rfl | hd | hlt
      · have hc2 : Fact (false = (runes a0).all okRune) := ⟨by rw [← hc.out, not_ok R pos (by omega) (by omega) (by omega)]; rfl⟩
        clear hc
        rcases hbad with h1 | h1 | h1 | h1 | h1
        all_goals
          go_wp2
          go_ret
          exact ⟨by rw [← hr.out, nameB, ← hc2.out]; rfl, below_iter _ _ _⟩
      · have hc2 : Fact (false = (runes a0).all okRune) := ⟨by rw [← hc.out, not_ok 65533 pos (by omega) (by omega) (by omega)]; rfl⟩
        clear hc
        go_wp2
        go_ret
        exact ⟨by rw [← hr.out, nameB, ← hc2.out]; rfl, below_iter _ _ _⟩
      · by_cases h0 : pos = 0
        · subst h0
          have hc2 : Fact (false = (runes a0).all okRune) := ⟨by rw [← hc.out, ok_digit R 0 hd]; rfl⟩
          clear hc
          go_wp2
          go_ret
          exact ⟨by rw [← hr.out, nameB, ← hc2.out]; rfl, below_iter _ _ _⟩
        · have h1 : ((pos : Int) == 0) = false := by simpa using h0
          have h0' := Fact.mk h0
          clear h0
          have hc2 : Fact ((runesFrom a0 b (pos + K)).all okRune = (runes a0).all okRune) := ⟨by rw [← hc.out, ok_digit R pos hd]; simp [h0'.out]⟩
          clear hc
          go_wp2
          go_roundg b
          case rel => exact ⟨pos + K, acc + 1, rfl, by go_num, hc2, hl1, hb1, by omega⟩
          case measure => omega
      · have hc2 : Fact ((runesFrom a0 b (pos + K)).all okRune = (runes a0).all okRune) := ⟨by rw [← hc.out, ok_letter R pos hlt]; rfl⟩
        clear hc
        rcases hlt with h1 | h1
        all_goals
          have f1 : decide ((R : Int) < 97) = false := decide_eq_false (by omega)
          have f2 : decide (122 < (R : Int)) = decide (945 ≤ R) := by rw [Bool.eq_iff_iff]; simp; omega
          have f3 : decide ((R : Int) < 945) = decide (R ≤ 122) := by rw [Bool.eq_iff_iff]; simp; omega
          have f4 : decide (969 < (R : Int)) = false := decide_eq_false (by omega)
          simp only [show decide (945 ≤ R) = _ from (by first | exact decide_eq_true (by omega) | exact decide_eq_false (by omega)), show decide (R ≤ 122) = _ from (by first | exact decide_eq_true (by omega) | exact decide_eq_false (by omega))] at f2 f3
          go_wp2
          go_roundg b
          case rel => exact ⟨pos + K, acc + 1, rfl, by go_num, hc2, hl1, hb1, by omega⟩
          case measure => omega
    · have hnx : ∀ ty, (Instr.next (.pointer (some ⟨w.heap.size, 0, none⟩)) true ty).run Try.prog (w.iter a0 pos) = _ := fun ty => run_next_end w a0 pos ty hp
      have hc2 : Fact (true = (runes a0).all okRune) := ⟨by rw [← hc.out, runesFrom_end a0 gk pos hp]; rfl⟩
      clear hc
      have hl2 : Fact ((acc : Int) = (runes a0).length) := ⟨by have := hl.out; rw [runesFrom_end a0 gk pos hp, List.length_nil] at this; omega⟩
      clear hl
      by_cases h1 : 1 ≤ acc
      · go_wp2
        go_ret
        exact ⟨by rw [← hr.out, nameB_len, ← hc2.out, ← hl2.out]; first | rfl | (simp [h1]; omega), below_iter _ _ _⟩
      · go_wp2
        go_ret
        exact ⟨by rw [← hr.out, nameB_len, ← hc2.out, ← hl2.out]; first | rfl | (simp [h1]; omega), below_iter _ _ _⟩
end Go.Proofs.Ytocndmgimcmfaaa.Base
