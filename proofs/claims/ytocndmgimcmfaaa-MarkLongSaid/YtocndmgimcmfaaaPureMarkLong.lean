/- MarkLong, over plain Lean functions: a text of k letters, each of one byte or of two, is a name just if k is 1 to 8, and it has k runes; at every whole number and every row of whole numbers. -/
import Derived.Test.YtocndmgimcmfaaaPx3
import Derived.Test.YtocndmgimcmfaaaFacts
import Derived.Test.YtocndmgimcmfaaaCat
set_option linter.unusedVariables false
set_option linter.unusedSimpArgs false
namespace Go.Proofs.Ytocndmgimcmfaaa.Pure
open Go.RowKit Go.Proofs.Ytocndmgimcmfaaa.P Go.Proofs.Ytocndmgimcmfaaa.Facts Go.Proofs.Ytocndmgimcmfaaa.Base Go.Proofs.Ytocndmgimcmfaaa.Plain Go.Proofs.YtocndmgimcmfaaaW.PrintWords Go.Proofs.YtocndmgimcmfaaaW.PrintLast

def four : List ByteArray := ([(⟨#[97]⟩ : ByteArray), (⟨#[206, 177]⟩ : ByteArray), (⟨#[207, 137]⟩ : ByteArray), (⟨#[107]⟩ : ByteArray)] : List ByteArray)
def fourP : List (ByteArray × Nat) := [(⟨#[97]⟩, 97), (⟨#[206, 177]⟩, 945), (⟨#[207, 137]⟩, 969), (⟨#[107]⟩, 107)]
theorem four_at (t : Int) (h0 : 0 ≤ t) (h1 : t < 4) : ∃ q, q ∈ fourP ∧ rdOf ByteArray.empty four t = q.1 := by
  have h : t = 0 ∨ t = 1 ∨ t = 2 ∨ t = 3 := by omega
  rcases h with rfl | rfl | rfl | rfl
  · exact ⟨(⟨#[97]⟩, 97), by simp [fourP], rfl⟩
  · exact ⟨(⟨#[206, 177]⟩, 945), by simp [fourP], rfl⟩
  · exact ⟨(⟨#[207, 137]⟩, 969), by simp [fourP], rfl⟩
  · exact ⟨(⟨#[107]⟩, 107), by simp [fourP], rfl⟩
theorem four_good : ∀ q ∈ fourP, Whole q.1 q.2 := by
  intro q hq
  simp only [fourP, List.mem_cons, List.not_mem_nil, or_false] at hq
  rcases hq with rfl | rfl | rfl | rfl
  · exact good1 97 (by decide)
  · exact good2 206 177 945 (by decide) (by decide) (by decide) (by decide) (by decide)
  · exact good2 207 137 969 (by decide) (by decide) (by decide) (by decide) (by decide)
  · exact good1 107 (by decide)
theorem four_size : ∀ q ∈ fourP, q.1.size ≤ 2 := by
  intro q hq
  simp only [fourP, List.mem_cons, List.not_mem_nil, or_false] at hq
  rcases hq with rfl | rfl | rfl | rfl <;> decide
theorem four_ok : ∀ q ∈ fourP, ∀ pos, okRune (pos, q.2) = true := by
  intro q hq pos
  simp only [fourP, List.mem_cons, List.not_mem_nil, or_false] at hq
  rcases hq with rfl | rfl | rfl | rfl <;> exact ok_letter _ _ (by omega)
theorem places_ok : ∀ (ps : List (ByteArray × Nat)) (pos : Nat), (∀ q ∈ ps, ∀ pos, okRune (pos, q.2) = true) → (places pos ps).all okRune = true
  | [], _, _ => rfl
  | q :: t, pos, h => by
    rw [places, List.all_cons, h q (List.mem_cons_self ..), places_ok t _ (fun x hx => h x (List.mem_cons_of_mem _ hx))]
    rfl

theorem long_end (ps : List (ByteArray × Nat)) (hps : ∀ q ∈ ps, q ∈ fourP) (hl : ps.length ≤ 13) :
    mark_Name.f (catP ps) = some (decide (1 ≤ (ps.length : Int)) && decide ((ps.length : Int) ≤ 8)) ∧ mark_Runes.f (catP ps) = some (ps.length : Int) := by
  have hz := size_catP 2 ps (fun q hq => four_size q (hps q hq))
  have hz2 : (catP ps).size ≤ B62 := by unfold B62; omega
  have hr := runes_catP ps (fun q hq => four_good q (hps q hq))
  constructor
  · unfold mark_Name.f
    rw [if_pos hz2, nameB_len, hr, places_ok ps 0 (fun q hq => four_ok q (hps q hq)), places_length]
    rfl
  · unfold mark_Runes.f
    rw [if_pos hz2, hr, places_length]

theorem long_loop (l : List Int) (x : Int) (hx : x ≤ 13) (d : Nat) : ∀ (k : Nat) (ps : List (ByteArray × Nat)), (∀ q ∈ ps, q ∈ fourP) → (ps.length : Int) ≤ x → x - ps.length = d → d < k →
    joinerylaw2_MarkLong.l0 k l x (catP ps) (ps.length : Int) = some true := by
  induction d with
  | zero =>
    intro k ps hps h0 hd hk
    obtain ⟨k, rfl⟩ : ∃ m, k = m + 1 := ⟨k - 1, by omega⟩
    obtain ⟨hn, hr⟩ := long_end ps hps (by omega)
    obtain rfl : x = (ps.length : Int) := by omega
    simp only [joinerylaw2_MarkLong.l0]
    rw [if_neg (by omega), hn, Option.bind_some]
    by_cases h1 : (ps.length : Int) ≥ 1
    · rw [if_pos h1, if_pos (by simp; omega), hr]
      simp
    · rw [if_neg h1, if_pos (by simp; omega), hr]
      simp
  | succ d ih =>
    intro k ps hps h0 hd hk
    obtain ⟨k, rfl⟩ : ∃ m, k = m + 1 := ⟨k - 1, by omega⟩
    have hz := size_catP 2 ps (fun q hq => four_size q (hps q hq))
    have go : ∀ t : Int, 0 ≤ t → t < 4 → (if 0 ≤ t then (if t < (four.length : Int) then (if (catP ps).size + (rdOf ByteArray.empty four t).size ≤ 9223372036854775807 then (joinerylaw2_MarkLong.l0 k l x (catP ps ++ (rdOf ByteArray.empty four t)) (wrap64 ((ps.length : Int) + 1))) else (none)) else (none)) else (none)) = some true := by
      intro t t0 t1
      obtain ⟨q, hq, e⟩ := four_at t t0 t1
      have hq2 := four_size q hq
      rw [if_pos t0, if_pos (show t < (four.length : Int) from t1), e, if_pos (by omega), ← catP_snoc]
      rw [show wrap64 ((ps.length : Int) + 1) = ((ps ++ [q]).length : Int) by unfold wrap64; simp only [List.length_append, List.length_cons, List.length_nil]; omega]
      refine ih k (ps ++ [q]) ?_ (by simp; omega) (by simp; omega) (by omega)
      intro y hy
      rcases List.mem_append.1 hy with h | h
      · exact hps y h
      · rw [List.mem_singleton.1 h]; exact hq
    have m0 : ∀ a : Int, 0 ≤ a % 4 := fun a => Int.emod_nonneg a (by omega)
    have m1 : ∀ a : Int, a % 4 < 4 := fun a => Int.emod_lt_of_pos a (by omega)
    simp only [joinerylaw2_MarkLong.l0]
    rw [if_pos (by omega)]
    split
    · rw [if_pos (by omega)]
      show (some four).bind _ = _
      rw [Option.bind_some, within_eq _ 4 (by omega) (by omega), Option.bind_some]
      exact go _ (m0 _) (m1 _)
    · show (some four).bind _ = _
      rw [Option.bind_some, within_eq _ 4 (by omega) (by omega), Option.bind_some]
      exact go _ (m0 _) (m1 _)

theorem MarkLong : joinerylaw2_MarkLong.Pure := by
  intro a0 l1 _ _ _ _
  refine ⟨20, ?_⟩
  unfold joinerylaw2_MarkLong.f
  have h0 := Int.emod_nonneg a0 (show (14 : Int) ≠ 0 by omega)
  have h1 := Int.emod_lt_of_pos a0 (show (0 : Int) < 14 by omega)
  rw [known_yes]
  simp only [Option.bind_some, if_true]
  rw [within_eq a0 14 (by omega) (by omega), Option.bind_some]
  exact long_loop l1 (a0 % 14) (by omega) (a0 % 14).toNat 20 [] (fun _ h => by cases h) (by simpa using h0) (by simp; omega) (by omega)

end Go.Proofs.Ytocndmgimcmfaaa.Pure
